/-
  Contracts of the functions, one after another.
-/
import Derived.Test.YtdpjcghiegggbaaGreatDoorMb2
set_option linter.all false
open Go.Abs renaming HWeak→HW,BWeak→BW,SWeak→SW,AWeak→AW,setsA→sA,keepA→kA
open Go.Proofs.Tryz renaming prog→TP
set_option maxHeartbeats 8000000
set_option maxRecDepth 100000
open Go.Abs renaming purePost→Qe
open Nat renaming reduceAdd→Qu,reduceSub→Qv,reduceMul→Qw,reducePow→Qx,reduceDiv→Qy,reduceMod→Qz,reduceEqDiff→QI,reduceBEq→QK
open Int renaming reduceAdd→QA,reduceSub→QB,reduceMul→QC,reducePow→QD,reduceNeg→QE,reduceToNat→QF,reduceLT→QG,reduceLE→QH
namespace Go.Proofs.YtdpjcghiegggbaaGreatDoor.Num
open Go Go.Proofs Go.Abs
variable {G:Globals}
def decNeg (s:List UInt8):Bool:=hasP s [45]
def decBody (s:List UInt8):List UInt8:=if hasP s [45] then s.drop 1 else if hasP s [43] then s.drop 1 else s
def decF (s:List UInt8):List UInt8:=cutL 46 (decBody s)
def decB (s:List UInt8):List UInt8:=cutR 46 (decBody s)
def decOk (s:List UInt8):Bool:=digB (decF s) 15 && (!decide (46∈decBody s) || digB (decB s) 9)
def decNum (l:List UInt8):Nat:=l.foldl (fun v b=>v*10+(b.toNat - 48)) 0
def decVal (s:List UInt8):Rat:=Rat.divInt (if decNeg s then -(decNum (decF s++decB s):Int) else (decNum (decF s++decB s):Int)) ((10 ^ (decB s).length:Nat):Int)
theorem decNum_push {l:List UInt8} {i:Nat} (h:i<l.length):decNum (l.take i)*10+((l.getD i 0).toNat - 48)=decNum (l.take (i+1)):=by
 rw [take_snoc h,decNum,decNum,List.foldl_append];rfl
theorem cutL_len {c:UInt8}:∀ s:List UInt8,(cutL c s).length≤s.length
 | []=>Nat.le_refl _
 | b::l=>by
   have:=cutL_len (c:=c) l
   rw [cutL];split<;>simp;exact this
theorem cutR_none {c:UInt8} {s:List UInt8} (h:c∉s):cutR c s=[]:=((cut_index c s).2 h).2.2
theorem cutR_len {c:UInt8}:∀ s:List UInt8,(cutR c s).length≤s.length
 | []=>Nat.le_refl _
 | b::l=>by
   have:=cutR_len (c:=c) l
   rw [cutR];split<;>simp;omega
theorem dig_range {b:UInt8} (h:dig10.contains b=true):48≤b.toNat∧b.toNat≤57:=by
 have:b∈dig10:=by simpa using h
 simp only [dig10,List.mem_cons,List.not_mem_nil,or_false] at this
 rcases this with rfl | rfl | rfl | rfl | rfl | rfl | rfl | rfl | rfl | rfl<;>decide
theorem decNum_lt {l:List UInt8} (h:∀ b∈l,dig10.contains b=true):decNum l<10 ^ l.length:=by
 have key:∀ (l:List UInt8) (v:Nat),(∀ b∈l,dig10.contains b=true)→l.foldl (fun v b=>v*10+(b.toNat - 48)) v<(v+1)*10 ^ l.length:=by
  intro l
  induction l with
  | nil=>intro v _;simp
  | cons b l ih =>
   intro v hl
   have hb:=dig_range (hl b (List.mem_cons_self ..))
   have:=ih (v*10+(b.toNat - 48)) (fun c hc=>hl c (List.mem_cons_of_mem _ hc))
   rw [List.foldl_cons,List.length_cons,Nat.pow_succ]
   refine Nat.lt_of_lt_of_le this ?_
   rw [Nat.mul_comm (10 ^ l.length) 10,← Nat.mul_assoc]
   exact Nat.mul_le_mul_right _ (by omega)
 have:=key l 0 h
 rw [Nat.zero_add,Nat.one_mul] at this
 exact this
theorem cells_nums {l:List UInt8}:(l.map fun b=>D.int .u8 (b.toNat:Int))=ints .u8 (nums l):=by simp [ints,nums]
theorem decOk_facts {s:List UInt8} (h:decOk s=true):(∀ b∈decF s++decB s,dig10.contains b=true)∧(decF s++decB s).length≤24∧(decB s).length≤9:=by
 unfold decOk at h
 rw [Bool.and_eq_true,Bool.or_eq_true] at h
 obtain ⟨h1,h2⟩:=h
 unfold digB at h1
 rw [Bool.and_eq_true,decide_eq_true_eq] at h1
 have hb:(decB s).length≤9∧∀ b∈decB s,dig10.contains b=true:=by
  rcases h2 with h2 | h2
  ·have e:decB s=[]:=cutR_none (by simpa using h2)
   rw [e];exact ⟨by simp,fun b hb=>by cases hb⟩
  ·unfold digB at h2
   rw [Bool.and_eq_true,decide_eq_true_eq] at h2
   exact ⟨by omega,fun b hb=>List.all_eq_true.1 h2.2 b hb⟩
 refine ⟨fun b hb'=>?_,by rw [List.length_append];omega,hb.1⟩
 rcases List.mem_append.1 hb' with h | h
 ·exact List.all_eq_true.1 h1.2 b h
 ·exact hb.2 b h
theorem toW_10:toW 10=[10]:=by rw [toW_pos (by decide),show 10 / B=0 from rfl,toW_zero];rfl
theorem sz_small {n k:Nat} (h:n<10 ^ k):(toW n).length≤k:=toW_length_le (Nat.lt_of_lt_of_le h (Nat.pow_le_pow_left (by decide) _))
theorem cut_sum (c:UInt8):∀ s:List UInt8,(cutL c s).length+(cutR c s).length≤s.length
 | []=>by simp [cutL,cutR]
 | b::l=>by
   have ih:=cut_sum c l
   rw [cutL,cutR]
   by_cases e:b=c
   ·rw [if_pos e,if_pos e,List.length_cons,List.length_nil];omega
   ·rw [if_neg e,if_neg e,List.length_cons,List.length_cons];omega
theorem decimalF_spec (hG:HG G) (s:List UInt8) (hs:s.length≤9223372036854775807):Ctr TP G 69 [.d (S s)] [] (.d (.tup [if decOk s=true then Frac (decVal s) else Zf,.bool (decOk s)])) []:=by
 have hG':=hG
 unfold HG at hG
 refine Ctr.pure (M:=M0) hmix Tryz.func69 rfl go69 ?_
 simp (config:={maxSteps:=1000000}) (disch:=(try simp only [awL]);omega) only [awS,Tryz.f69,↓awU,awV,awX,awF,↓reduceIte,↓reduceDIte,↓Qe,Qu,Qv,Qw,Qx,Qy,Qz,QA,QB,QC,QD,QE,QF,QG,QH,QI,QK]
 refine CallC.pure (cutPrefix_spec s [45]) ?_
 have hbody:(decBody s).length≤s.length:=by
  unfold decBody
  split
  ·simp
  ·split<;>simp
 have lsum:=cut_sum 46 (decBody s)
 have l1:=cutL_len (c:=46) (decBody s)
 have l2:=cutR_len (c:=46) (decBody s)
 have hno:decide (46∈decBody s)=false→decB s=[]:=fun h=>cutR_none (of_decide_eq_false h)
 have hok:decOk s=(digB (decF s) 15 && (!decide (46∈decBody s) || digB (decB s) 9)):=rfl
 have hdv:decVal s=Rat.divInt (if decNeg s then -(decNum (decF s++decB s):Int) else (decNum (decF s++decB s):Int)) ((10 ^ (decB s).length:Nat):Int):=rfl
 have f1:cutL 46 (decBody s)=decF s:=rfl
 have f2:cutR 46 (decBody s)=decB s:=rfl
 rw [f1] at l1
 rw [f2] at l2
 rw [f1,f2] at lsum
 cases h45:hasP s [45]
 ·simp (config:={maxSteps:=1000000}) (disch:=(try simp only [awL]);omega) only [awS,↓awU,awV,awX,awF,↓reduceIte,↓reduceDIte,↓Qe,Qu,Qv,Qw,Qx,Qy,Qz,QA,QB,QC,QD,QE,QF,QG,QH,QI,QK]
  refine CallC.pure (trimPrefix_spec s [43]) ?_
  have eb:(if hasP s [43] then s.drop ([43]:List UInt8).length else s)=decBody s:=by rw [decBody,h45];rfl
  have en:decNeg s=false:=h45
  rw [eb]
  rw [en] at hdv
  simp (config:={maxSteps:=1000000}) (disch:=(try simp only [awL]);omega) only [awS,↓awU,awV,awX,awF,↓reduceIte,↓reduceDIte,↓Qe,Qu,Qv,Qw,Qx,Qy,Qz,QA,QB,QC,QD,QE,QF,QG,QH,QI,QK]
  refine CallC.pure (cut_spec (decBody s) 46 (by omega)) ?_
  rw [f1,f2]
  simp (config:={maxSteps:=1000000}) (disch:=(try simp only [awL]);omega) only [awS,↓awU,awV,awX,awF,↓reduceIte,↓reduceDIte,↓Qe,Qu,Qv,Qw,Qx,Qy,Qz,QA,QB,QC,QD,QE,QF,QG,QH,QI,QK]
  refine CallC.pure (digits_spec (decF s) 15 (by omega)) ?_
  cases d1:digB (decF s) 15
  ·rw [hok,d1,Bool.false_and]
   simp (config:={maxSteps:=1000000}) (disch:=(try simp only [awL]);omega) only [awS,↓awU,awV,awX,awF,↓reduceIte,↓reduceDIte,↓Qe,Qu,Qv,Qw,Qx,Qy,Qz,QA,QB,QC,QD,QE,QF,QG,QH,QI,QK]
   first | done | rfl
  ·rw [d1,Bool.true_and] at hok
   cases dp:decide (46∈decBody s)
   ·rw [dp,Bool.not_false,Bool.true_or] at hok
    obtain ⟨hall,hlen,hlb⟩:=decOk_facts hok
    have hsm:∀ i,i≤(decF s++decB s).length→(toW (decNum ((decF s++decB s).take i))).length≤30:=fun i hi=>by
     have h:=decNum_lt (l:=(decF s++decB s).take i) fun b hb=>hall b (List.mem_of_mem_take hb)
     exact sz_small (Nat.lt_of_lt_of_le h (Nat.pow_le_pow_right (by decide) (by rw [List.length_take];omega)))
    have hlt:∀ i,i≤(decF s++decB s).length→decNum ((decF s++decB s).take i)*10<10 ^ 30:=fun i hi=>by
     have h:=decNum_lt (l:=(decF s++decB s).take i) fun b hb=>hall b (List.mem_of_mem_take hb)
     have h2:10 ^ ((decF s++decB s).take i).length≤10 ^ 29:=Nat.pow_le_pow_right (by decide) (by rw [List.length_take];omega)
     have h3:(10:Nat) ^ 30=10 ^ 29*10:=rfl
     omega
    rw [if_pos hok,hok]
    generalize hL:decF s++decB s=L at *
    simp (config:={maxSteps:=1000000}) (disch:=(try simp only [awL]);omega) only [hG,awS,↓awU,awV,awX,awF,↓reduceIte,↓reduceDIte,↓Qe,Qu,Qv,Qw,Qx,Qy,Qz,QA,QB,QC,QD,QE,QF,QG,QH,QI,QK]
    refine CallC.of (clone_spec [1] (by decide)) (by rfl) ?_
    simp (config:={maxSteps:=1000000}) (disch:=(try simp only [awL]);omega) only [hG,awS,hL,cells_nums,↓awU,awV,awX,awF,↓reduceIte,↓reduceDIte,↓Qe,Qu,Qv,Qw,Qx,Qy,Qz,QA,QB,QC,QD,QE,QF,QG,QH,QI,QK]
    refine LoopC.fr 422212465069220 (α:=Nat) (fun i=>L.length - i) (fun i=>[(9,.d (W (toW (decNum (L.take i))))),(49,.d (.int .i64 i))])
     (fun _=>[.box [.d (.bool false),.d (.sl 0 true []),.d (.bool false),.d (.sl 0 true [])],.row true (nats .u32 [10]),.row false (ints .u8 (nums L))]) (fun i=>i≤L.length) 0 (Nat.zero_le _) ?_ ?_
    ·exact ⟨[some 0,some 1,some 2],rfl,by simp,by simp [sA,kA,SW,AW,decNum,toW_zero,nats],by simp [HW,BW,SW,AW,nats]⟩
    ·intro i hi
     have lt:=hsm i hi
     have nl:=@nums_length L
     simp only [awK,Nat.reduceMod,Nat.reduceDiv,reduceIte]
     rcases Nat.lt_or_ge i L.length with h1 | h1
     ·have hb:=dig_range (hall _ (mem_getDU (d:=0) h1))
      have hp:=decNum_push h1
      have ls:=sz_small (n:=(L.getD i 0).toNat - 48) (k:=2) (by omega)
      have e48:((L.getD i 0).toNat:Int) - 48=(((L.getD i 0).toNat - 48:Nat):Int):=by omega
      have lm:(toW (decNum (L.take i)*10)).length≤40:=sz_small (Nat.lt_of_lt_of_le (hlt i hi) (by decide))
      simp (config:={maxSteps:=1000000}) (disch:=(try simp only [awL]);omega) only [hG,awS,nl,↓awU,awV,awX,awF,↓reduceIte,↓reduceDIte,↓Qe,Qu,Qv,Qw,Qx,Qy,Qz,QA,QB,QC,QD,QE,QF,QG,QH,QI,QK]
      refine CallC.frozenE (times_spec (decNum (L.take i)) 10 (by omega) (by rw [toW_10];decide)) (by rw [toW_10];rfl) ?_
      simp (config:={maxSteps:=1000000}) (disch:=(try simp only [awL]);omega) only [hG,awS,nl,e48,↓awU,awV,awX,awF,↓reduceIte,↓reduceDIte,↓Qe,Qu,Qv,Qw,Qx,Qy,Qz,QA,QB,QC,QD,QE,QF,QG,QH,QI,QK]
      refine CallC.pure (natural_spec ((L.getD i 0).toNat - 48) (by omega)) ?_
      simp (config:={maxSteps:=1000000}) (disch:=(try simp only [awL]);omega) only [hG,awS,nl,↓awU,awV,awX,awF,↓reduceIte,↓reduceDIte,↓Qe,Qu,Qv,Qw,Qx,Qy,Qz,QA,QB,QC,QD,QE,QF,QG,QH,QI,QK]
      refine CallC.pure (plus_spec (decNum (L.take i)*10) ((L.getD i 0).toNat - 48) (by omega) (by omega)) ?_
      rw [hp]
      simp (config:={maxSteps:=1000000}) (disch:=(try simp only [awL]);omega) only [hG,awS,nl,↓awU,awV,awX,awF,↓reduceIte,↓reduceDIte,↓Qe,Qu,Qv,Qw,Qx,Qy,Qz,QA,QB,QC,QD,QE,QF,QG,QH,QI,QK]
      exact ⟨i+1,h1,by simp only;omega,⟨[some 0,some 1,some 2],rfl,by simp,by simp [sA,kA,SW,AW],by simp [HW,BW,SW,AW]⟩⟩
     ·obtain rfl:i=L.length:=by omega
      rw [List.take_length] at *
      simp (config:={maxSteps:=1000000}) (disch:=(try simp only [awL]);omega) only [hG,awS,nl,↓awU,awV,awX,awF,↓reduceIte,↓reduceDIte,↓Qe,Qu,Qv,Qw,Qx,Qy,Qz,QA,QB,QC,QD,QE,QF,QG,QH,QI,QK]
      refine LoopC.fr 9223372036854777380 (α:=Nat) (fun j=>(decB s).length - j) (fun j=>[(11,.d (W (toW (10 ^ j)))),(64,.d (.int .i64 j))])
       (fun _=>[.box [.d (.bool false),.d (.sl 0 true []),.d (.bool false),.d (.sl 0 true [])],.row true (nats .u32 [10]),.row false (ints .u8 (nums L))]) (fun j=>j≤(decB s).length) 0 (Nat.zero_le _) ?_ ?_
      ·exact ⟨[some 0,some 1,some 2],rfl,by simp,by simp [sA,kA,SW,AW,toW_one],by simp [HW,BW,SW,AW,nats]⟩
      ·intro j hj
       have lj:(toW (10 ^ j)).length≤10:=sz_small (Nat.pow_lt_pow_right (by decide) (by omega))
       simp only [awK,Nat.reduceMod,Nat.reduceDiv,reduceIte]
       rcases Nat.lt_or_ge j (decB s).length with h2 | h2
       ·simp (config:={maxSteps:=1000000}) (disch:=(try simp only [awL]);omega) only [hG,awS,↓awU,awV,awX,awF,↓reduceIte,↓reduceDIte,↓Qe,Qu,Qv,Qw,Qx,Qy,Qz,QA,QB,QC,QD,QE,QF,QG,QH,QI,QK]
        refine CallC.frozenE (times_spec (10 ^ j) 10 (by omega) (by rw [toW_10];decide)) (by rw [toW_10];rfl) ?_
        rw [← Nat.pow_succ]
        simp (config:={maxSteps:=1000000}) (disch:=(try simp only [awL]);omega) only [hG,awS,↓awU,awV,awX,awF,↓reduceIte,↓reduceDIte,↓Qe,Qu,Qv,Qw,Qx,Qy,Qz,QA,QB,QC,QD,QE,QF,QG,QH,QI,QK]
        exact ⟨j+1,h2,by simp only;omega,⟨[some 0,some 1,some 2],rfl,by simp,by simp [sA,kA,SW,AW],by simp [HW,BW,SW,AW]⟩⟩
       ·obtain rfl:j=(decB s).length:=by omega
        have hd0:((10 ^ (decB s).length:Nat):Int)≠0:=by
         have:0<10 ^ (decB s).length:=Nat.pow_pos (by decide)
         omega
        simp (config:={maxSteps:=1000000}) (disch:=(try simp only [awL]);omega) only [hG,awS,↓awU,awV,awX,awF,↓reduceIte,↓reduceDIte,↓Qe,Qu,Qv,Qw,Qx,Qy,Qz,QA,QB,QC,QD,QE,QF,QG,QH,QI,QK]
        refine CallC.pure (signed_spec false (decNum L) (by omega)) ?_
        simp (config:={maxSteps:=1000000}) (disch:=(try simp only [awL]);omega) only [hG,awS,↓awU,awV,awX,awF,↓reduceIte,↓reduceDIte,↓Qe,Qu,Qv,Qw,Qx,Qy,Qz,QA,QB,QC,QD,QE,QF,QG,QH,QI,QK]
        refine CallC.pure (signed_spec false (10 ^ (decB s).length) (by omega)) ?_
        simp (config:={maxSteps:=1000000}) (disch:=(try simp only [awL]);omega) only [hG,awS,↓awU,awV,awX,awF,↓reduceIte,↓reduceDIte,↓Qe,Qu,Qv,Qw,Qx,Qy,Qz,QA,QB,QC,QD,QE,QF,QG,QH,QI,QK]
        refine CallC.of (reduced_spec (if false=true then -(decNum L:Int) else (decNum L:Int)) ((10 ^ (decB s).length:Nat):Int) hd0 (by simp only [sz];split<;>simp<;>omega) (by simp only [sz,Int.natAbs_natCast];omega)) (by rfl) ?_
        rw [← hdv]
        simp (config:={maxSteps:=1000000}) (disch:=(try simp only [awL]);omega) only [hG,awS,↓awU,awV,awX,awF,↓reduceIte,↓reduceDIte,↓Qe,Qu,Qv,Qw,Qx,Qy,Qz,QA,QB,QC,QD,QE,QF,QG,QH,QI,QK]
        first | done | rfl
   ·rw [dp,Bool.not_true,Bool.false_or] at hok
    simp (config:={maxSteps:=1000000}) (disch:=(try simp only [awL]);omega) only [awS,↓awU,awV,awX,awF,↓reduceIte,↓reduceDIte,↓Qe,Qu,Qv,Qw,Qx,Qy,Qz,QA,QB,QC,QD,QE,QF,QG,QH,QI,QK]
    refine CallC.pure (digits_spec (decB s) 9 (by omega)) ?_
    cases d2:digB (decB s) 9
    ·rw [hok,d2]
     simp (config:={maxSteps:=1000000}) (disch:=(try simp only [awL]);omega) only [awS,↓awU,awV,awX,awF,↓reduceIte,↓reduceDIte,↓Qe,Qu,Qv,Qw,Qx,Qy,Qz,QA,QB,QC,QD,QE,QF,QG,QH,QI,QK]
     first | done | rfl
    ·rw [d2] at hok
     obtain ⟨hall,hlen,hlb⟩:=decOk_facts hok
     have hsm:∀ i,i≤(decF s++decB s).length→(toW (decNum ((decF s++decB s).take i))).length≤30:=fun i hi=>by
      have h:=decNum_lt (l:=(decF s++decB s).take i) fun b hb=>hall b (List.mem_of_mem_take hb)
      exact sz_small (Nat.lt_of_lt_of_le h (Nat.pow_le_pow_right (by decide) (by rw [List.length_take];omega)))
     have hlt:∀ i,i≤(decF s++decB s).length→decNum ((decF s++decB s).take i)*10<10 ^ 30:=fun i hi=>by
      have h:=decNum_lt (l:=(decF s++decB s).take i) fun b hb=>hall b (List.mem_of_mem_take hb)
      have h2:10 ^ ((decF s++decB s).take i).length≤10 ^ 29:=Nat.pow_le_pow_right (by decide) (by rw [List.length_take];omega)
      have h3:(10:Nat) ^ 30=10 ^ 29*10:=rfl
      omega
     rw [if_pos hok,hok]
     generalize hL:decF s++decB s=L at *
     simp (config:={maxSteps:=1000000}) (disch:=(try simp only [awL]);omega) only [hG,awS,↓awU,awV,awX,awF,↓reduceIte,↓reduceDIte,↓Qe,Qu,Qv,Qw,Qx,Qy,Qz,QA,QB,QC,QD,QE,QF,QG,QH,QI,QK]
     refine CallC.of (clone_spec [1] (by decide)) (by rfl) ?_
     simp (config:={maxSteps:=1000000}) (disch:=(try simp only [awL]);omega) only [hG,awS,hL,cells_nums,↓awU,awV,awX,awF,↓reduceIte,↓reduceDIte,↓Qe,Qu,Qv,Qw,Qx,Qy,Qz,QA,QB,QC,QD,QE,QF,QG,QH,QI,QK]
     refine LoopC.fr 422212465069220 (α:=Nat) (fun i=>L.length - i) (fun i=>[(9,.d (W (toW (decNum (L.take i))))),(49,.d (.int .i64 i))])
      (fun _=>[.box [.d (.bool false),.d (.sl 0 true []),.d (.bool false),.d (.sl 0 true [])],.row true (nats .u32 [10]),.row false (ints .u8 (nums L))]) (fun i=>i≤L.length) 0 (Nat.zero_le _) ?_ ?_
     ·exact ⟨[some 0,some 1,some 2],rfl,by simp,by simp [sA,kA,SW,AW,decNum,toW_zero,nats],by simp [HW,BW,SW,AW,nats]⟩
     ·intro i hi
      have lt:=hsm i hi
      have nl:=@nums_length L
      simp only [awK,Nat.reduceMod,Nat.reduceDiv,reduceIte]
      rcases Nat.lt_or_ge i L.length with h1 | h1
      ·have hb:=dig_range (hall _ (mem_getDU (d:=0) h1))
       have hp:=decNum_push h1
       have ls:=sz_small (n:=(L.getD i 0).toNat - 48) (k:=2) (by omega)
       have e48:((L.getD i 0).toNat:Int) - 48=(((L.getD i 0).toNat - 48:Nat):Int):=by omega
       have lm:(toW (decNum (L.take i)*10)).length≤40:=sz_small (Nat.lt_of_lt_of_le (hlt i hi) (by decide))
       simp (config:={maxSteps:=1000000}) (disch:=(try simp only [awL]);omega) only [hG,awS,nl,↓awU,awV,awX,awF,↓reduceIte,↓reduceDIte,↓Qe,Qu,Qv,Qw,Qx,Qy,Qz,QA,QB,QC,QD,QE,QF,QG,QH,QI,QK]
       refine CallC.frozenE (times_spec (decNum (L.take i)) 10 (by omega) (by rw [toW_10];decide)) (by rw [toW_10];rfl) ?_
       simp (config:={maxSteps:=1000000}) (disch:=(try simp only [awL]);omega) only [hG,awS,nl,e48,↓awU,awV,awX,awF,↓reduceIte,↓reduceDIte,↓Qe,Qu,Qv,Qw,Qx,Qy,Qz,QA,QB,QC,QD,QE,QF,QG,QH,QI,QK]
       refine CallC.pure (natural_spec ((L.getD i 0).toNat - 48) (by omega)) ?_
       simp (config:={maxSteps:=1000000}) (disch:=(try simp only [awL]);omega) only [hG,awS,nl,↓awU,awV,awX,awF,↓reduceIte,↓reduceDIte,↓Qe,Qu,Qv,Qw,Qx,Qy,Qz,QA,QB,QC,QD,QE,QF,QG,QH,QI,QK]
       refine CallC.pure (plus_spec (decNum (L.take i)*10) ((L.getD i 0).toNat - 48) (by omega) (by omega)) ?_
       rw [hp]
       simp (config:={maxSteps:=1000000}) (disch:=(try simp only [awL]);omega) only [hG,awS,nl,↓awU,awV,awX,awF,↓reduceIte,↓reduceDIte,↓Qe,Qu,Qv,Qw,Qx,Qy,Qz,QA,QB,QC,QD,QE,QF,QG,QH,QI,QK]
       exact ⟨i+1,h1,by simp only;omega,⟨[some 0,some 1,some 2],rfl,by simp,by simp [sA,kA,SW,AW],by simp [HW,BW,SW,AW]⟩⟩
      ·obtain rfl:i=L.length:=by omega
       rw [List.take_length] at *
       simp (config:={maxSteps:=1000000}) (disch:=(try simp only [awL]);omega) only [hG,awS,nl,↓awU,awV,awX,awF,↓reduceIte,↓reduceDIte,↓Qe,Qu,Qv,Qw,Qx,Qy,Qz,QA,QB,QC,QD,QE,QF,QG,QH,QI,QK]
       refine LoopC.fr 9223372036854777380 (α:=Nat) (fun j=>(decB s).length - j) (fun j=>[(11,.d (W (toW (10 ^ j)))),(64,.d (.int .i64 j))])
        (fun _=>[.box [.d (.bool false),.d (.sl 0 true []),.d (.bool false),.d (.sl 0 true [])],.row true (nats .u32 [10]),.row false (ints .u8 (nums L))]) (fun j=>j≤(decB s).length) 0 (Nat.zero_le _) ?_ ?_
       ·exact ⟨[some 0,some 1,some 2],rfl,by simp,by simp [sA,kA,SW,AW,toW_one],by simp [HW,BW,SW,AW,nats]⟩
       ·intro j hj
        have lj:(toW (10 ^ j)).length≤10:=sz_small (Nat.pow_lt_pow_right (by decide) (by omega))
        simp only [awK,Nat.reduceMod,Nat.reduceDiv,reduceIte]
        rcases Nat.lt_or_ge j (decB s).length with h2 | h2
        ·simp (config:={maxSteps:=1000000}) (disch:=(try simp only [awL]);omega) only [hG,awS,↓awU,awV,awX,awF,↓reduceIte,↓reduceDIte,↓Qe,Qu,Qv,Qw,Qx,Qy,Qz,QA,QB,QC,QD,QE,QF,QG,QH,QI,QK]
         refine CallC.frozenE (times_spec (10 ^ j) 10 (by omega) (by rw [toW_10];decide)) (by rw [toW_10];rfl) ?_
         rw [← Nat.pow_succ]
         simp (config:={maxSteps:=1000000}) (disch:=(try simp only [awL]);omega) only [hG,awS,↓awU,awV,awX,awF,↓reduceIte,↓reduceDIte,↓Qe,Qu,Qv,Qw,Qx,Qy,Qz,QA,QB,QC,QD,QE,QF,QG,QH,QI,QK]
         exact ⟨j+1,h2,by simp only;omega,⟨[some 0,some 1,some 2],rfl,by simp,by simp [sA,kA,SW,AW],by simp [HW,BW,SW,AW]⟩⟩
        ·obtain rfl:j=(decB s).length:=by omega
         have hd0:((10 ^ (decB s).length:Nat):Int)≠0:=by
          have:0<10 ^ (decB s).length:=Nat.pow_pos (by decide)
          omega
         simp (config:={maxSteps:=1000000}) (disch:=(try simp only [awL]);omega) only [hG,awS,↓awU,awV,awX,awF,↓reduceIte,↓reduceDIte,↓Qe,Qu,Qv,Qw,Qx,Qy,Qz,QA,QB,QC,QD,QE,QF,QG,QH,QI,QK]
         refine CallC.pure (signed_spec false (decNum L) (by omega)) ?_
         simp (config:={maxSteps:=1000000}) (disch:=(try simp only [awL]);omega) only [hG,awS,↓awU,awV,awX,awF,↓reduceIte,↓reduceDIte,↓Qe,Qu,Qv,Qw,Qx,Qy,Qz,QA,QB,QC,QD,QE,QF,QG,QH,QI,QK]
         refine CallC.pure (signed_spec false (10 ^ (decB s).length) (by omega)) ?_
         simp (config:={maxSteps:=1000000}) (disch:=(try simp only [awL]);omega) only [hG,awS,↓awU,awV,awX,awF,↓reduceIte,↓reduceDIte,↓Qe,Qu,Qv,Qw,Qx,Qy,Qz,QA,QB,QC,QD,QE,QF,QG,QH,QI,QK]
         refine CallC.of (reduced_spec (if false=true then -(decNum L:Int) else (decNum L:Int)) ((10 ^ (decB s).length:Nat):Int) hd0 (by simp only [sz];split<;>simp<;>omega) (by simp only [sz,Int.natAbs_natCast];omega)) (by rfl) ?_
         rw [← hdv]
         simp (config:={maxSteps:=1000000}) (disch:=(try simp only [awL]);omega) only [hG,awS,↓awU,awV,awX,awF,↓reduceIte,↓reduceDIte,↓Qe,Qu,Qv,Qw,Qx,Qy,Qz,QA,QB,QC,QD,QE,QF,QG,QH,QI,QK]
         first | done | rfl
 ·have eb:s.drop 1=decBody s:=by rw [decBody,h45];rfl
  have en:decNeg s=true:=h45
  rw [en] at hdv
  simp (config:={maxSteps:=1000000}) (disch:=(try simp only [awL]);omega) only [awS,eb,↓awU,awV,awX,awF,↓reduceIte,↓reduceDIte,↓Qe,Qu,Qv,Qw,Qx,Qy,Qz,QA,QB,QC,QD,QE,QF,QG,QH,QI,QK]
  refine CallC.pure (cut_spec (decBody s) 46 (by omega)) ?_
  rw [f1,f2]
  simp (config:={maxSteps:=1000000}) (disch:=(try simp only [awL]);omega) only [awS,↓awU,awV,awX,awF,↓reduceIte,↓reduceDIte,↓Qe,Qu,Qv,Qw,Qx,Qy,Qz,QA,QB,QC,QD,QE,QF,QG,QH,QI,QK]
  refine CallC.pure (digits_spec (decF s) 15 (by omega)) ?_
  cases d1:digB (decF s) 15
  ·rw [hok,d1,Bool.false_and]
   simp (config:={maxSteps:=1000000}) (disch:=(try simp only [awL]);omega) only [awS,↓awU,awV,awX,awF,↓reduceIte,↓reduceDIte,↓Qe,Qu,Qv,Qw,Qx,Qy,Qz,QA,QB,QC,QD,QE,QF,QG,QH,QI,QK]
   first | done | rfl
  ·rw [d1,Bool.true_and] at hok
   cases dp:decide (46∈decBody s)
   ·rw [dp,Bool.not_false,Bool.true_or] at hok
    obtain ⟨hall,hlen,hlb⟩:=decOk_facts hok
    have hsm:∀ i,i≤(decF s++decB s).length→(toW (decNum ((decF s++decB s).take i))).length≤30:=fun i hi=>by
     have h:=decNum_lt (l:=(decF s++decB s).take i) fun b hb=>hall b (List.mem_of_mem_take hb)
     exact sz_small (Nat.lt_of_lt_of_le h (Nat.pow_le_pow_right (by decide) (by rw [List.length_take];omega)))
    have hlt:∀ i,i≤(decF s++decB s).length→decNum ((decF s++decB s).take i)*10<10 ^ 30:=fun i hi=>by
     have h:=decNum_lt (l:=(decF s++decB s).take i) fun b hb=>hall b (List.mem_of_mem_take hb)
     have h2:10 ^ ((decF s++decB s).take i).length≤10 ^ 29:=Nat.pow_le_pow_right (by decide) (by rw [List.length_take];omega)
     have h3:(10:Nat) ^ 30=10 ^ 29*10:=rfl
     omega
    rw [if_pos hok,hok]
    generalize hL:decF s++decB s=L at *
    simp (config:={maxSteps:=1000000}) (disch:=(try simp only [awL]);omega) only [hG,awS,↓awU,awV,awX,awF,↓reduceIte,↓reduceDIte,↓Qe,Qu,Qv,Qw,Qx,Qy,Qz,QA,QB,QC,QD,QE,QF,QG,QH,QI,QK]
    refine CallC.of (clone_spec [1] (by decide)) (by rfl) ?_
    simp (config:={maxSteps:=1000000}) (disch:=(try simp only [awL]);omega) only [hG,awS,hL,cells_nums,↓awU,awV,awX,awF,↓reduceIte,↓reduceDIte,↓Qe,Qu,Qv,Qw,Qx,Qy,Qz,QA,QB,QC,QD,QE,QF,QG,QH,QI,QK]
    refine LoopC.fr 422212465069220 (α:=Nat) (fun i=>L.length - i) (fun i=>[(9,.d (W (toW (decNum (L.take i))))),(49,.d (.int .i64 i))])
     (fun _=>[.box [.d (.bool false),.d (.sl 0 true []),.d (.bool false),.d (.sl 0 true [])],.row true (nats .u32 [10]),.row false (ints .u8 (nums L))]) (fun i=>i≤L.length) 0 (Nat.zero_le _) ?_ ?_
    ·exact ⟨[some 0,some 1,some 2],rfl,by simp,by simp [sA,kA,SW,AW,decNum,toW_zero,nats],by simp [HW,BW,SW,AW,nats]⟩
    ·intro i hi
     have lt:=hsm i hi
     have nl:=@nums_length L
     simp only [awK,Nat.reduceMod,Nat.reduceDiv,reduceIte]
     rcases Nat.lt_or_ge i L.length with h1 | h1
     ·have hb:=dig_range (hall _ (mem_getDU (d:=0) h1))
      have hp:=decNum_push h1
      have ls:=sz_small (n:=(L.getD i 0).toNat - 48) (k:=2) (by omega)
      have e48:((L.getD i 0).toNat:Int) - 48=(((L.getD i 0).toNat - 48:Nat):Int):=by omega
      have lm:(toW (decNum (L.take i)*10)).length≤40:=sz_small (Nat.lt_of_lt_of_le (hlt i hi) (by decide))
      simp (config:={maxSteps:=1000000}) (disch:=(try simp only [awL]);omega) only [hG,awS,nl,↓awU,awV,awX,awF,↓reduceIte,↓reduceDIte,↓Qe,Qu,Qv,Qw,Qx,Qy,Qz,QA,QB,QC,QD,QE,QF,QG,QH,QI,QK]
      refine CallC.frozenE (times_spec (decNum (L.take i)) 10 (by omega) (by rw [toW_10];decide)) (by rw [toW_10];rfl) ?_
      simp (config:={maxSteps:=1000000}) (disch:=(try simp only [awL]);omega) only [hG,awS,nl,e48,↓awU,awV,awX,awF,↓reduceIte,↓reduceDIte,↓Qe,Qu,Qv,Qw,Qx,Qy,Qz,QA,QB,QC,QD,QE,QF,QG,QH,QI,QK]
      refine CallC.pure (natural_spec ((L.getD i 0).toNat - 48) (by omega)) ?_
      simp (config:={maxSteps:=1000000}) (disch:=(try simp only [awL]);omega) only [hG,awS,nl,↓awU,awV,awX,awF,↓reduceIte,↓reduceDIte,↓Qe,Qu,Qv,Qw,Qx,Qy,Qz,QA,QB,QC,QD,QE,QF,QG,QH,QI,QK]
      refine CallC.pure (plus_spec (decNum (L.take i)*10) ((L.getD i 0).toNat - 48) (by omega) (by omega)) ?_
      rw [hp]
      simp (config:={maxSteps:=1000000}) (disch:=(try simp only [awL]);omega) only [hG,awS,nl,↓awU,awV,awX,awF,↓reduceIte,↓reduceDIte,↓Qe,Qu,Qv,Qw,Qx,Qy,Qz,QA,QB,QC,QD,QE,QF,QG,QH,QI,QK]
      exact ⟨i+1,h1,by simp only;omega,⟨[some 0,some 1,some 2],rfl,by simp,by simp [sA,kA,SW,AW],by simp [HW,BW,SW,AW]⟩⟩
     ·obtain rfl:i=L.length:=by omega
      rw [List.take_length] at *
      simp (config:={maxSteps:=1000000}) (disch:=(try simp only [awL]);omega) only [hG,awS,nl,↓awU,awV,awX,awF,↓reduceIte,↓reduceDIte,↓Qe,Qu,Qv,Qw,Qx,Qy,Qz,QA,QB,QC,QD,QE,QF,QG,QH,QI,QK]
      refine LoopC.fr 9223372036854777380 (α:=Nat) (fun j=>(decB s).length - j) (fun j=>[(11,.d (W (toW (10 ^ j)))),(64,.d (.int .i64 j))])
       (fun _=>[.box [.d (.bool false),.d (.sl 0 true []),.d (.bool false),.d (.sl 0 true [])],.row true (nats .u32 [10]),.row false (ints .u8 (nums L))]) (fun j=>j≤(decB s).length) 0 (Nat.zero_le _) ?_ ?_
      ·exact ⟨[some 0,some 1,some 2],rfl,by simp,by simp [sA,kA,SW,AW,toW_one],by simp [HW,BW,SW,AW,nats]⟩
      ·intro j hj
       have lj:(toW (10 ^ j)).length≤10:=sz_small (Nat.pow_lt_pow_right (by decide) (by omega))
       simp only [awK,Nat.reduceMod,Nat.reduceDiv,reduceIte]
       rcases Nat.lt_or_ge j (decB s).length with h2 | h2
       ·simp (config:={maxSteps:=1000000}) (disch:=(try simp only [awL]);omega) only [hG,awS,↓awU,awV,awX,awF,↓reduceIte,↓reduceDIte,↓Qe,Qu,Qv,Qw,Qx,Qy,Qz,QA,QB,QC,QD,QE,QF,QG,QH,QI,QK]
        refine CallC.frozenE (times_spec (10 ^ j) 10 (by omega) (by rw [toW_10];decide)) (by rw [toW_10];rfl) ?_
        rw [← Nat.pow_succ]
        simp (config:={maxSteps:=1000000}) (disch:=(try simp only [awL]);omega) only [hG,awS,↓awU,awV,awX,awF,↓reduceIte,↓reduceDIte,↓Qe,Qu,Qv,Qw,Qx,Qy,Qz,QA,QB,QC,QD,QE,QF,QG,QH,QI,QK]
        exact ⟨j+1,h2,by simp only;omega,⟨[some 0,some 1,some 2],rfl,by simp,by simp [sA,kA,SW,AW],by simp [HW,BW,SW,AW]⟩⟩
       ·obtain rfl:j=(decB s).length:=by omega
        have hd0:((10 ^ (decB s).length:Nat):Int)≠0:=by
         have:0<10 ^ (decB s).length:=Nat.pow_pos (by decide)
         omega
        simp (config:={maxSteps:=1000000}) (disch:=(try simp only [awL]);omega) only [hG,awS,↓awU,awV,awX,awF,↓reduceIte,↓reduceDIte,↓Qe,Qu,Qv,Qw,Qx,Qy,Qz,QA,QB,QC,QD,QE,QF,QG,QH,QI,QK]
        refine CallC.pure (signed_spec true (decNum L) (by omega)) ?_
        simp (config:={maxSteps:=1000000}) (disch:=(try simp only [awL]);omega) only [hG,awS,↓awU,awV,awX,awF,↓reduceIte,↓reduceDIte,↓Qe,Qu,Qv,Qw,Qx,Qy,Qz,QA,QB,QC,QD,QE,QF,QG,QH,QI,QK]
        refine CallC.pure (signed_spec false (10 ^ (decB s).length) (by omega)) ?_
        simp (config:={maxSteps:=1000000}) (disch:=(try simp only [awL]);omega) only [hG,awS,↓awU,awV,awX,awF,↓reduceIte,↓reduceDIte,↓Qe,Qu,Qv,Qw,Qx,Qy,Qz,QA,QB,QC,QD,QE,QF,QG,QH,QI,QK]
        refine CallC.of (reduced_spec (if true=true then -(decNum L:Int) else (decNum L:Int)) ((10 ^ (decB s).length:Nat):Int) hd0 (by simp only [sz];split<;>simp<;>omega) (by simp only [sz,Int.natAbs_natCast];omega)) (by rfl) ?_
        rw [← hdv]
        simp (config:={maxSteps:=1000000}) (disch:=(try simp only [awL]);omega) only [hG,awS,↓awU,awV,awX,awF,↓reduceIte,↓reduceDIte,↓Qe,Qu,Qv,Qw,Qx,Qy,Qz,QA,QB,QC,QD,QE,QF,QG,QH,QI,QK]
        first | done | rfl
   ·rw [dp,Bool.not_true,Bool.false_or] at hok
    simp (config:={maxSteps:=1000000}) (disch:=(try simp only [awL]);omega) only [awS,↓awU,awV,awX,awF,↓reduceIte,↓reduceDIte,↓Qe,Qu,Qv,Qw,Qx,Qy,Qz,QA,QB,QC,QD,QE,QF,QG,QH,QI,QK]
    refine CallC.pure (digits_spec (decB s) 9 (by omega)) ?_
    cases d2:digB (decB s) 9
    ·rw [hok,d2]
     simp (config:={maxSteps:=1000000}) (disch:=(try simp only [awL]);omega) only [awS,↓awU,awV,awX,awF,↓reduceIte,↓reduceDIte,↓Qe,Qu,Qv,Qw,Qx,Qy,Qz,QA,QB,QC,QD,QE,QF,QG,QH,QI,QK]
     first | done | rfl
    ·rw [d2] at hok
     obtain ⟨hall,hlen,hlb⟩:=decOk_facts hok
     have hsm:∀ i,i≤(decF s++decB s).length→(toW (decNum ((decF s++decB s).take i))).length≤30:=fun i hi=>by
      have h:=decNum_lt (l:=(decF s++decB s).take i) fun b hb=>hall b (List.mem_of_mem_take hb)
      exact sz_small (Nat.lt_of_lt_of_le h (Nat.pow_le_pow_right (by decide) (by rw [List.length_take];omega)))
     have hlt:∀ i,i≤(decF s++decB s).length→decNum ((decF s++decB s).take i)*10<10 ^ 30:=fun i hi=>by
      have h:=decNum_lt (l:=(decF s++decB s).take i) fun b hb=>hall b (List.mem_of_mem_take hb)
      have h2:10 ^ ((decF s++decB s).take i).length≤10 ^ 29:=Nat.pow_le_pow_right (by decide) (by rw [List.length_take];omega)
      have h3:(10:Nat) ^ 30=10 ^ 29*10:=rfl
      omega
     rw [if_pos hok,hok]
     generalize hL:decF s++decB s=L at *
     simp (config:={maxSteps:=1000000}) (disch:=(try simp only [awL]);omega) only [hG,awS,↓awU,awV,awX,awF,↓reduceIte,↓reduceDIte,↓Qe,Qu,Qv,Qw,Qx,Qy,Qz,QA,QB,QC,QD,QE,QF,QG,QH,QI,QK]
     refine CallC.of (clone_spec [1] (by decide)) (by rfl) ?_
     simp (config:={maxSteps:=1000000}) (disch:=(try simp only [awL]);omega) only [hG,awS,hL,cells_nums,↓awU,awV,awX,awF,↓reduceIte,↓reduceDIte,↓Qe,Qu,Qv,Qw,Qx,Qy,Qz,QA,QB,QC,QD,QE,QF,QG,QH,QI,QK]
     refine LoopC.fr 422212465069220 (α:=Nat) (fun i=>L.length - i) (fun i=>[(9,.d (W (toW (decNum (L.take i))))),(49,.d (.int .i64 i))])
      (fun _=>[.box [.d (.bool false),.d (.sl 0 true []),.d (.bool false),.d (.sl 0 true [])],.row true (nats .u32 [10]),.row false (ints .u8 (nums L))]) (fun i=>i≤L.length) 0 (Nat.zero_le _) ?_ ?_
     ·exact ⟨[some 0,some 1,some 2],rfl,by simp,by simp [sA,kA,SW,AW,decNum,toW_zero,nats],by simp [HW,BW,SW,AW,nats]⟩
     ·intro i hi
      have lt:=hsm i hi
      have nl:=@nums_length L
      simp only [awK,Nat.reduceMod,Nat.reduceDiv,reduceIte]
      rcases Nat.lt_or_ge i L.length with h1 | h1
      ·have hb:=dig_range (hall _ (mem_getDU (d:=0) h1))
       have hp:=decNum_push h1
       have ls:=sz_small (n:=(L.getD i 0).toNat - 48) (k:=2) (by omega)
       have e48:((L.getD i 0).toNat:Int) - 48=(((L.getD i 0).toNat - 48:Nat):Int):=by omega
       have lm:(toW (decNum (L.take i)*10)).length≤40:=sz_small (Nat.lt_of_lt_of_le (hlt i hi) (by decide))
       simp (config:={maxSteps:=1000000}) (disch:=(try simp only [awL]);omega) only [hG,awS,nl,↓awU,awV,awX,awF,↓reduceIte,↓reduceDIte,↓Qe,Qu,Qv,Qw,Qx,Qy,Qz,QA,QB,QC,QD,QE,QF,QG,QH,QI,QK]
       refine CallC.frozenE (times_spec (decNum (L.take i)) 10 (by omega) (by rw [toW_10];decide)) (by rw [toW_10];rfl) ?_
       simp (config:={maxSteps:=1000000}) (disch:=(try simp only [awL]);omega) only [hG,awS,nl,e48,↓awU,awV,awX,awF,↓reduceIte,↓reduceDIte,↓Qe,Qu,Qv,Qw,Qx,Qy,Qz,QA,QB,QC,QD,QE,QF,QG,QH,QI,QK]
       refine CallC.pure (natural_spec ((L.getD i 0).toNat - 48) (by omega)) ?_
       simp (config:={maxSteps:=1000000}) (disch:=(try simp only [awL]);omega) only [hG,awS,nl,↓awU,awV,awX,awF,↓reduceIte,↓reduceDIte,↓Qe,Qu,Qv,Qw,Qx,Qy,Qz,QA,QB,QC,QD,QE,QF,QG,QH,QI,QK]
       refine CallC.pure (plus_spec (decNum (L.take i)*10) ((L.getD i 0).toNat - 48) (by omega) (by omega)) ?_
       rw [hp]
       simp (config:={maxSteps:=1000000}) (disch:=(try simp only [awL]);omega) only [hG,awS,nl,↓awU,awV,awX,awF,↓reduceIte,↓reduceDIte,↓Qe,Qu,Qv,Qw,Qx,Qy,Qz,QA,QB,QC,QD,QE,QF,QG,QH,QI,QK]
       exact ⟨i+1,h1,by simp only;omega,⟨[some 0,some 1,some 2],rfl,by simp,by simp [sA,kA,SW,AW],by simp [HW,BW,SW,AW]⟩⟩
      ·obtain rfl:i=L.length:=by omega
       rw [List.take_length] at *
       simp (config:={maxSteps:=1000000}) (disch:=(try simp only [awL]);omega) only [hG,awS,nl,↓awU,awV,awX,awF,↓reduceIte,↓reduceDIte,↓Qe,Qu,Qv,Qw,Qx,Qy,Qz,QA,QB,QC,QD,QE,QF,QG,QH,QI,QK]
       refine LoopC.fr 9223372036854777380 (α:=Nat) (fun j=>(decB s).length - j) (fun j=>[(11,.d (W (toW (10 ^ j)))),(64,.d (.int .i64 j))])
        (fun _=>[.box [.d (.bool false),.d (.sl 0 true []),.d (.bool false),.d (.sl 0 true [])],.row true (nats .u32 [10]),.row false (ints .u8 (nums L))]) (fun j=>j≤(decB s).length) 0 (Nat.zero_le _) ?_ ?_
       ·exact ⟨[some 0,some 1,some 2],rfl,by simp,by simp [sA,kA,SW,AW,toW_one],by simp [HW,BW,SW,AW,nats]⟩
       ·intro j hj
        have lj:(toW (10 ^ j)).length≤10:=sz_small (Nat.pow_lt_pow_right (by decide) (by omega))
        simp only [awK,Nat.reduceMod,Nat.reduceDiv,reduceIte]
        rcases Nat.lt_or_ge j (decB s).length with h2 | h2
        ·simp (config:={maxSteps:=1000000}) (disch:=(try simp only [awL]);omega) only [hG,awS,↓awU,awV,awX,awF,↓reduceIte,↓reduceDIte,↓Qe,Qu,Qv,Qw,Qx,Qy,Qz,QA,QB,QC,QD,QE,QF,QG,QH,QI,QK]
         refine CallC.frozenE (times_spec (10 ^ j) 10 (by omega) (by rw [toW_10];decide)) (by rw [toW_10];rfl) ?_
         rw [← Nat.pow_succ]
         simp (config:={maxSteps:=1000000}) (disch:=(try simp only [awL]);omega) only [hG,awS,↓awU,awV,awX,awF,↓reduceIte,↓reduceDIte,↓Qe,Qu,Qv,Qw,Qx,Qy,Qz,QA,QB,QC,QD,QE,QF,QG,QH,QI,QK]
         exact ⟨j+1,h2,by simp only;omega,⟨[some 0,some 1,some 2],rfl,by simp,by simp [sA,kA,SW,AW],by simp [HW,BW,SW,AW]⟩⟩
        ·obtain rfl:j=(decB s).length:=by omega
         have hd0:((10 ^ (decB s).length:Nat):Int)≠0:=by
          have:0<10 ^ (decB s).length:=Nat.pow_pos (by decide)
          omega
         simp (config:={maxSteps:=1000000}) (disch:=(try simp only [awL]);omega) only [hG,awS,↓awU,awV,awX,awF,↓reduceIte,↓reduceDIte,↓Qe,Qu,Qv,Qw,Qx,Qy,Qz,QA,QB,QC,QD,QE,QF,QG,QH,QI,QK]
         refine CallC.pure (signed_spec true (decNum L) (by omega)) ?_
         simp (config:={maxSteps:=1000000}) (disch:=(try simp only [awL]);omega) only [hG,awS,↓awU,awV,awX,awF,↓reduceIte,↓reduceDIte,↓Qe,Qu,Qv,Qw,Qx,Qy,Qz,QA,QB,QC,QD,QE,QF,QG,QH,QI,QK]
         refine CallC.pure (signed_spec false (10 ^ (decB s).length) (by omega)) ?_
         simp (config:={maxSteps:=1000000}) (disch:=(try simp only [awL]);omega) only [hG,awS,↓awU,awV,awX,awF,↓reduceIte,↓reduceDIte,↓Qe,Qu,Qv,Qw,Qx,Qy,Qz,QA,QB,QC,QD,QE,QF,QG,QH,QI,QK]
         refine CallC.of (reduced_spec (if true=true then -(decNum L:Int) else (decNum L:Int)) ((10 ^ (decB s).length:Nat):Int) hd0 (by simp only [sz];split<;>simp<;>omega) (by simp only [sz,Int.natAbs_natCast];omega)) (by rfl) ?_
         rw [← hdv]
         simp (config:={maxSteps:=1000000}) (disch:=(try simp only [awL]);omega) only [hG,awS,↓awU,awV,awX,awF,↓reduceIte,↓reduceDIte,↓Qe,Qu,Qv,Qw,Qx,Qy,Qz,QA,QB,QC,QD,QE,QF,QG,QH,QI,QK]
         first | done | rfl
def isD (c:UInt8):Prop:=48≤c.toNat∧c.toNat≤57
theorem isD_iff {c:UInt8}:dig10.contains c=true↔isD c:=by
 constructor
 ·exact dig_range
 ·intro h
  have hc:c=UInt8.ofNat c.toNat:=by simp
  rw [hc]
  obtain ⟨h1,h2⟩:=h
  generalize c.toNat=n at *
  rcases (by omega:n=48∨n=49∨n=50∨n=51∨n=52∨n=53∨n=54∨n=55∨n=56∨n=57) with rfl | rfl | rfl | rfl | rfl | rfl | rfl | rfl | rfl | rfl<;>rfl
theorem digB_iff {l:List UInt8} {m:Int}:digB l m=true↔1≤l.length∧(l.length:Int)≤m∧∀ c∈l,isD c:=by
 unfold digB
 rw [Bool.and_eq_true,decide_eq_true_eq,List.all_eq_true,and_assoc]
 constructor
 ·rintro ⟨h1,h2,h3⟩;exact ⟨h1,h2,fun c hc=>isD_iff.1 (h3 c hc)⟩
 ·rintro ⟨h1,h2,h3⟩;exact ⟨h1,h2,fun c hc=>isD_iff.2 (h3 c hc)⟩
theorem cut_first {c:UInt8}:∀ {b:List UInt8} {k:Nat},(∀ d∈b.take k,d≠c)→k<b.length→b.getD k 0=c→c∈b∧cutL c b=b.take k∧cutR c b=b.drop (k+1)
 | [],k,_,h,_=>by cases h
 | d::l,0,_,_,e=>by
   obtain rfl:d=c:=by simpa using e
   simp [cutL,cutR]
 | d::l,k+1,h,hk,e=>by
   have hd:d≠c:=h d (by simp)
   obtain ⟨h1,h2,h3⟩:=cut_first (b:=l) (k:=k) (fun x hx=>h x (by simp [hx])) (by simpa using hk) (by simpa using e)
   simp [cutL,cutR,hd,h1,h2,h3]
theorem not_isD_46 {c:UInt8} (h:isD c):c≠46:=fun e=>by subst e;obtain ⟨h1,_⟩:=h;exact absurd h1 (by decide)
theorem cut_all:∀ {b:List UInt8},(∀ d∈b,isD d)→(46:UInt8)∉b∧cutL 46 b=b∧cutR 46 b=[]
 | b,h=>by
   have hm:(46:UInt8)∉b:=fun hm=>not_isD_46 (h _ hm) rfl
   exact ⟨hm,((cut_index 46 b).2 hm).2⟩
theorem cut_bad:∀ {b:List UInt8} {k:Nat},(∀ d∈b.take k,isD d)→k<b.length→¬ isD (b.getD k 0)→b.getD k 0≠46→∃ c∈cutL 46 b,¬ isD c
 | [],k,_,h,_,_=>by cases h
 | d::l,0,_,_,e,e2=>by
   have e2:d≠46:=by simpa using e2
   exact ⟨d,by simp [cutL,e2],by simpa using e⟩
 | d::l,k+1,h,hk,e,e2=>by
   have hd:d≠46:=not_isD_46 (h d (by simp))
   obtain ⟨c,h1,h2⟩:=cut_bad (b:=l) (k:=k) (fun x hx=>h x (by simp [hx])) (by simpa using hk) (by simpa using e) (by simpa using e2)
   exact ⟨c,by simp [cutL,hd,h1],h2⟩
def okB (b:List UInt8):Bool:=digB (cutL 46 b) 15 && (!decide (46∈b) || digB (cutR 46 b) 9)
theorem ok_front {b:List UInt8} {k:Nat} (hk:k≤b.length) (h1:∀ c∈b.take k,isD c) (h2:k<b.length→¬ isD (b.getD k 0)) (h:k<1∨15<k):okB b=false:=by
 cases e:okB b with
 | false=>rfl
 | true =>
  exfalso
  unfold okB at e
  rw [Bool.and_eq_true] at e
  obtain ⟨q1,q2,q3⟩:=digB_iff.1 e.1
  rcases Nat.lt_or_ge k b.length with hl | hl
  ·by_cases h46:b.getD k 0=46
   ·obtain ⟨_,e1,_⟩:=cut_first (c:=46) (fun d hd=>not_isD_46 (h1 d hd)) hl h46
    rw [e1,List.length_take] at q1 q2
    omega
   ·obtain ⟨c,c1,c2⟩:=cut_bad h1 hl (h2 hl) h46
    exact c2 (q3 c c1)
  ·obtain rfl:k=b.length:=by omega
   rw [List.take_length] at h1
   obtain ⟨_,e1,_⟩:=cut_all h1
   rw [e1] at q1 q2
   omega
theorem ok_whole {b:List UInt8} (h1:∀ c∈b,isD c) (h3:1≤b.length) (h4:b.length≤15):okB b=true∧cutL 46 b=b∧cutR 46 b=[]:=by
 obtain ⟨e1,e2,e3⟩:=cut_all h1
 refine ⟨?_,e2,e3⟩
 unfold okB
 rw [e2,digB_iff.2 ⟨h3,by omega,h1⟩,decide_eq_false e1]
 rfl
theorem ok_bad {b:List UInt8} {k:Nat} (h1:∀ c∈b.take k,isD c) (hl:k<b.length) (h2:¬ isD (b.getD k 0)) (h46:b.getD k 0≠46):okB b=false:=by
 cases e:okB b with
 | false=>rfl
 | true =>
  unfold okB at e
  rw [Bool.and_eq_true] at e
  obtain ⟨c,c1,c2⟩:=cut_bad h1 hl h2 h46
  exact absurd ((digB_iff.1 e.1).2.2 c c1) c2
theorem ok_point {b:List UInt8} {k:Nat} (h1:∀ c∈b.take k,isD c) (hl:k<b.length) (h46:b.getD k 0=46) (h3:1≤k) (h4:k≤15) :
  okB b=digB (b.drop (k+1)) 9∧cutL 46 b=b.take k∧cutR 46 b=b.drop (k+1):=by
 obtain ⟨e0,e1,e2⟩:=cut_first (c:=46) (fun d hd=>not_isD_46 (h1 d hd)) hl h46
 refine ⟨?_,e1,e2⟩
 unfold okB
 rw [e1,e2,digB_iff.2 ⟨by rw [List.length_take];omega,by rw [List.length_take];omega,h1⟩,decide_eq_true e0]
 simp
theorem take_next {b:List UInt8} {k:Nat} {p:UInt8→Prop} (h:∀ c∈b.take k,p c) (hk:k<b.length) (hp:p (b.getD k 0)):∀ c∈b.take (k+1),p c:=by
 rw [take_snoc hk]
 intro c hc
 rcases List.mem_append.1 hc with h' | h'
 ·exact h c h'
 ·simp at h';subst h'
  simpa using hp
def partsD (neg:Bool) (b:List UInt8):D:=.tup [.bool (okB b && neg),S (if okB b=true then cutL 46 b else []),S (if okB b=true then cutR 46 b else []),.bool (okB b)]
theorem rparts_spec (s:List UInt8) (hs:s.length≤9223372036854775807):Ctr TP G 56 [.d (S s)] [] (.d (partsD (decNeg s) (decBody s))) []:=by
 refine Ctr.pure (M:=M0) hmix Tryz.func56 rfl go56 ?_
 have hb:(decBody s).length≤s.length:=by
  unfold decBody
  split
  ·simp
  ·split<;>simp
 have hcase:(s=[]∧decBody s=s∧decNeg s=false)∨(0<s.length∧(s.getD 0 0).toNat=45∧decBody s=s.drop 1∧decNeg s=true)∨(0<s.length∧(s.getD 0 0).toNat=43∧decBody s=s.drop 1∧decNeg s=false)∨(0<s.length∧(s.getD 0 0).toNat≠45∧(s.getD 0 0).toNat≠43∧decBody s=s∧decNeg s=false):=by
  rcases s with _ | ⟨c,r⟩
  ·exact .inl ⟨rfl,rfl,rfl⟩
  ·by_cases e1:c=45
   ·subst e1;exact .inr (.inl ⟨by simp,rfl,rfl,rfl⟩)
   ·by_cases e2:c=43
    ·subst e2;exact .inr (.inr (.inl ⟨by simp,rfl,rfl,rfl⟩))
    ·have n1:hasP (c::r) [45]=false:=by simp [hasP,e1]
     have n2:hasP (c::r) [43]=false:=by simp [hasP,e2]
     refine .inr (.inr (.inr ⟨by simp,fun h=>e1 (UInt8.toNat_inj.1 h),fun h=>e2 (UInt8.toNat_inj.1 h),by simp [decBody,n1,n2],n1⟩))
 rcases hcase with ⟨c1,c2,c3⟩ | ⟨c0,c1,c2,c3⟩ | ⟨c0,c1,c2,c3⟩ | ⟨c0,c1,c1',c2,c3⟩
 ·subst c1
  simp (config:={maxSteps:=1000000}) (disch:=(try simp only [awL]);omega) only [awS,Tryz.f56,↓awU,awV,awX,awF,↓reduceIte,↓reduceDIte,↓Qe,Qu,Qv,Qw,Qx,Qy,Qz,QA,QB,QC,QD,QE,QF,QG,QH,QI,QK]
  have hb:([]:List UInt8).length≤0:=Nat.le_refl _
  rw [c2,c3]
  refine LoopC.fr 4642343326489650161095016453 (α:=Nat) (fun k=>0 - k) (fun k=>[(6,.d (.int .i64 k))]) (fun _=>[]) (fun k=>k=0) 0 rfl ?_ ?_
  ·exact ⟨[],rfl,by simp,by simp [sA,kA,SW,AW],by simp [HW,BW,SW,AW]⟩
  ·rintro k rfl
   simp only [awK,Nat.reduceMod,Nat.reduceDiv,reduceIte]
   have e0:okB []=false:=rfl
   unfold partsD
   rw [e0]
   simp (config:={maxSteps:=1000000}) (disch:=(try simp only [awL]);omega) only [awS,↓awU,awV,awX,awF,↓reduceIte,↓reduceDIte,↓Qe,Qu,Qv,Qw,Qx,Qy,Qz,QA,QB,QC,QD,QE,QF,QG,QH,QI,QK]
   first | done | rfl
 ·simp (config:={maxSteps:=1000000}) (disch:=(try simp only [awL]);omega) only [awS,Tryz.f56,↓awU,awV,awX,awF,↓reduceIte,↓reduceDIte,↓Qe,Qu,Qv,Qw,Qx,Qy,Qz,QA,QB,QC,QD,QE,QF,QG,QH,QI,QK]
  refine ⟨by rfl,?_⟩
  rw [c2] at hb
  generalize hB:List.drop 1 s=b at *
  rw [c2,c3]
  refine LoopC.fr 4642343326489650161095016453 (α:=Nat) (fun k=>b.length - k) (fun k=>[(6,.d (.int .i64 k))]) (fun _=>[]) (fun k=>k≤b.length∧∀ c∈b.take k,isD c) 0 ⟨Nat.zero_le _,by simp⟩ ?_ ?_
  ·exact ⟨[],rfl,by simp,by simp [sA,kA,SW,AW],by simp [HW,BW,SW,AW]⟩
  ·rintro k ⟨hk,hd⟩
   simp only [awK,Nat.reduceMod,Nat.reduceDiv,reduceIte]
   have fin:(k<b.length→¬ isD (b.getD k 0))→∀ K:Prop,((k<1∨15<k→okB b=false→K)∧(1≤k→k≤15→k=b.length→okB b=true∧cutL 46 b=b∧cutR 46 b=[]→K)∧(1≤k→k≤15→k<b.length→(b.getD k 0).toNat≠46→okB b=false→K) ∧
     (1≤k→k≤15→k<b.length→(b.getD k 0).toNat=46→okB b=digB (b.drop (k+1)) 9→cutL 46 b=b.take k→cutR 46 b=b.drop (k+1)→K))→K:=by
    rintro hn K ⟨k1,k2,k3,k4⟩
    by_cases q:k<1∨15<k
    ·exact k1 q (ok_front hk hd hn q)
    ·rcases Nat.lt_or_ge k b.length with hl | hl
     ·by_cases h46:b.getD k 0=46
      ·obtain ⟨x1,x2,x3⟩:=ok_point hd hl h46 (by omega) (by omega)
       exact k4 (by omega) (by omega) hl (by rw [h46];rfl) x1 x2 x3
      ·exact k3 (by omega) (by omega) hl (fun e=>h46 (UInt8.toNat_inj.1 e)) (ok_bad hd hl (hn hl) h46)
     ·obtain rfl:k=b.length:=by omega
      rw [List.take_length] at hd
      exact k2 (by omega) (by omega) rfl (ok_whole hd (by omega) (by omega))
   rcases Nat.lt_or_ge k b.length with hl | hl
   ·by_cases hg:isD (b.getD k 0)
    ·have hg1:=hg.1
     have hg2:=hg.2
     simp (config:={maxSteps:=1000000}) (disch:=(try simp only [awL]);omega) only [awS,↓awU,awV,awX,awF,↓reduceIte,↓reduceDIte,↓Qe,Qu,Qv,Qw,Qx,Qy,Qz,QA,QB,QC,QD,QE,QF,QG,QH,QI,QK]
     exact ⟨k+1,⟨hl,take_next hd hl hg⟩,by simp only;omega,⟨[],rfl,by simp,by simp [sA,kA,SW,AW],by simp [HW,BW,SW,AW]⟩⟩
    ·have hg':(b.getD k 0).toNat<48∨57<(b.getD k 0).toNat:=by unfold isD at hg;omega
     rcases hg' with hg' | hg'
     ·refine fin (fun _=>hg) _ ⟨fun q1 q2=>?_,fun q1 q2 q3=>by omega,fun q1 q2 q3 q4 q5=>?_,fun q1 q2 q3 q4 q5 q6 q7=>?_⟩
      ·rcases q1 with q1 | q1
       ·unfold partsD
        rw [q2]
        simp (config:={maxSteps:=1000000}) (disch:=(try simp only [awL]);omega) only [awS,↓awU,awV,awX,awF,↓reduceIte,↓reduceDIte,↓Qe,Qu,Qv,Qw,Qx,Qy,Qz,QA,QB,QC,QD,QE,QF,QG,QH,QI,QK]
        first | done | rfl
       ·unfold partsD
        rw [q2]
        simp (config:={maxSteps:=1000000}) (disch:=(try simp only [awL]);omega) only [awS,↓awU,awV,awX,awF,↓reduceIte,↓reduceDIte,↓Qe,Qu,Qv,Qw,Qx,Qy,Qz,QA,QB,QC,QD,QE,QF,QG,QH,QI,QK]
        first | done | rfl
      ·unfold partsD
       rw [q5]
       simp (config:={maxSteps:=1000000}) (disch:=(try simp only [awL]);omega) only [awS,↓awU,awV,awX,awF,↓reduceIte,↓reduceDIte,↓Qe,Qu,Qv,Qw,Qx,Qy,Qz,QA,QB,QC,QD,QE,QF,QG,QH,QI,QK]
       first | done | rfl
      ·skip
       have hp3:(b.drop (k+1)).length=b.length - (k+1):=List.length_drop ..
       have hlk:(b.take k).length=k:=by rw [List.length_take];omega
       unfold partsD
       rw [q5,q6,q7]
       generalize hP:b.drop (k+1)=p at *
       by_cases hp1:p.length<1
       ·have e0:digB p 9=false:=by
         cases e:digB p 9 with
         | false=>rfl
         | true=>have:=(digB_iff.1 e).1;omega
        rw [e0]
        simp (config:={maxSteps:=1000000}) (disch:=(try simp only [awL]);omega) only [awS,hP,↓awU,awV,awX,awF,↓reduceIte,↓reduceDIte,↓Qe,Qu,Qv,Qw,Qx,Qy,Qz,QA,QB,QC,QD,QE,QF,QG,QH,QI,QK]
        first | done | rfl
       ·by_cases hp2:9<p.length
        ·have e0:digB p 9=false:=by
          cases e:digB p 9 with
          | false=>rfl
          | true=>have:=(digB_iff.1 e).2.1;omega
         rw [e0]
         simp (config:={maxSteps:=1000000}) (disch:=(try simp only [awL]);omega) only [awS,hP,↓awU,awV,awX,awF,↓reduceIte,↓reduceDIte,↓Qe,Qu,Qv,Qw,Qx,Qy,Qz,QA,QB,QC,QD,QE,QF,QG,QH,QI,QK]
         first | done | rfl
        ·simp (config:={maxSteps:=1000000}) (disch:=(try simp only [awL]);omega) only [awS,hP,↓awU,awV,awX,awF,↓reduceIte,↓reduceDIte,↓Qe,Qu,Qv,Qw,Qx,Qy,Qz,QA,QB,QC,QD,QE,QF,QG,QH,QI,QK]
         refine LoopC.fr 0 (α:=Nat) (fun i=>p.length - i) (fun i=>[(2,.d (.bool true)),(3,.d (S (b.take k))),(4,.d (S p)),(7,.d (.int .i64 i))]) (fun _=>[]) (fun i=>i≤p.length∧∀ c∈p.take i,isD c) 0 ⟨Nat.zero_le _,by simp⟩ ?_ ?_
         ·exact ⟨[],rfl,by simp,by simp [sA,kA,SW,AW],by simp [HW,BW,SW,AW]⟩
         ·rintro i ⟨hi,hdi⟩
          simp only [awK,Nat.reduceMod,Nat.reduceDiv,reduceIte]
          rcases Nat.lt_or_ge i p.length with hil | hil
          ·by_cases hgi:isD (p.getD i 0)
           ·have hg1:=hgi.1
            have hg2:=hgi.2
            simp (config:={maxSteps:=1000000}) (disch:=(try simp only [awL]);omega) only [awS,↓awU,awV,awX,awF,↓reduceIte,↓reduceDIte,↓Qe,Qu,Qv,Qw,Qx,Qy,Qz,QA,QB,QC,QD,QE,QF,QG,QH,QI,QK]
            exact ⟨i+1,⟨hil,take_next hdi hil hgi⟩,by simp only;omega,⟨[],rfl,by simp,by simp [sA,kA,SW,AW],by simp [HW,BW,SW,AW]⟩⟩
           ·have e0:digB p 9=false:=by
             cases e:digB p 9 with
             | false=>rfl
             | true=>exact absurd ((digB_iff.1 e).2.2 _ (mem_getDU hil)) hgi
            have hg':(p.getD i 0).toNat<48∨57<(p.getD i 0).toNat:=by unfold isD at hgi;omega
            rw [e0]
            rcases hg' with hg' | hg'
            ·simp (config:={maxSteps:=1000000}) (disch:=(try simp only [awL]);omega) only [awS,↓awU,awV,awX,awF,↓reduceIte,↓reduceDIte,↓Qe,Qu,Qv,Qw,Qx,Qy,Qz,QA,QB,QC,QD,QE,QF,QG,QH,QI,QK]
             first | done | rfl
            ·simp (config:={maxSteps:=1000000}) (disch:=(try simp only [awL]);omega) only [awS,↓awU,awV,awX,awF,↓reduceIte,↓reduceDIte,↓Qe,Qu,Qv,Qw,Qx,Qy,Qz,QA,QB,QC,QD,QE,QF,QG,QH,QI,QK]
             first | done | rfl
          ·obtain rfl:i=p.length:=by omega
           rw [List.take_length] at hdi
           have e0:digB p 9=true:=digB_iff.2 ⟨by omega,by omega,hdi⟩
           rw [e0]
           simp (config:={maxSteps:=1000000}) (disch:=(try simp only [awL]);omega) only [awS,↓awU,awV,awX,awF,↓reduceIte,↓reduceDIte,↓Qe,Qu,Qv,Qw,Qx,Qy,Qz,QA,QB,QC,QD,QE,QF,QG,QH,QI,QK]
           first | done | rfl
     ·refine fin (fun _=>hg) _ ⟨fun q1 q2=>?_,fun q1 q2 q3=>by omega,fun q1 q2 q3 q4 q5=>?_,fun q1 q2 q3 q4 q5 q6 q7=>?_⟩
      ·rcases q1 with q1 | q1
       ·unfold partsD
        rw [q2]
        simp (config:={maxSteps:=1000000}) (disch:=(try simp only [awL]);omega) only [awS,↓awU,awV,awX,awF,↓reduceIte,↓reduceDIte,↓Qe,Qu,Qv,Qw,Qx,Qy,Qz,QA,QB,QC,QD,QE,QF,QG,QH,QI,QK]
        first | done | rfl
       ·unfold partsD
        rw [q2]
        simp (config:={maxSteps:=1000000}) (disch:=(try simp only [awL]);omega) only [awS,↓awU,awV,awX,awF,↓reduceIte,↓reduceDIte,↓Qe,Qu,Qv,Qw,Qx,Qy,Qz,QA,QB,QC,QD,QE,QF,QG,QH,QI,QK]
        first | done | rfl
      ·unfold partsD
       rw [q5]
       simp (config:={maxSteps:=1000000}) (disch:=(try simp only [awL]);omega) only [awS,↓awU,awV,awX,awF,↓reduceIte,↓reduceDIte,↓Qe,Qu,Qv,Qw,Qx,Qy,Qz,QA,QB,QC,QD,QE,QF,QG,QH,QI,QK]
       first | done | rfl
      ·omega
   ·obtain rfl:k=b.length:=by omega
    refine fin (fun h=>absurd h (Nat.lt_irrefl _)) _ ⟨fun q1 q2=>?_,fun q1 q2 q3 q4=>?_,fun q1 q2 q3=>by omega,fun q1 q2 q3=>by omega⟩
    ·rcases q1 with q1 | q1
     ·unfold partsD
      rw [q2]
      simp (config:={maxSteps:=1000000}) (disch:=(try simp only [awL]);omega) only [awS,↓awU,awV,awX,awF,↓reduceIte,↓reduceDIte,↓Qe,Qu,Qv,Qw,Qx,Qy,Qz,QA,QB,QC,QD,QE,QF,QG,QH,QI,QK]
      first | done | rfl
     ·unfold partsD
      rw [q2]
      simp (config:={maxSteps:=1000000}) (disch:=(try simp only [awL]);omega) only [awS,↓awU,awV,awX,awF,↓reduceIte,↓reduceDIte,↓Qe,Qu,Qv,Qw,Qx,Qy,Qz,QA,QB,QC,QD,QE,QF,QG,QH,QI,QK]
      first | done | rfl
    ·obtain ⟨x1,x2,x3⟩:=q4
     unfold partsD
     rw [x1,x2,x3]
     simp (config:={maxSteps:=1000000}) (disch:=(try simp only [awL]);omega) only [awS,List.take_length,↓awU,awV,awX,awF,↓reduceIte,↓reduceDIte,↓Qe,Qu,Qv,Qw,Qx,Qy,Qz,QA,QB,QC,QD,QE,QF,QG,QH,QI,QK]
     first | done | rfl
 ·simp (config:={maxSteps:=1000000}) (disch:=(try simp only [awL]);omega) only [awS,Tryz.f56,↓awU,awV,awX,awF,↓reduceIte,↓reduceDIte,↓Qe,Qu,Qv,Qw,Qx,Qy,Qz,QA,QB,QC,QD,QE,QF,QG,QH,QI,QK]
  refine ⟨by rfl,?_⟩
  rw [c2] at hb
  generalize hB:List.drop 1 s=b at *
  rw [c2,c3]
  refine LoopC.fr 4642343326489650161095016453 (α:=Nat) (fun k=>b.length - k) (fun k=>[(6,.d (.int .i64 k))]) (fun _=>[]) (fun k=>k≤b.length∧∀ c∈b.take k,isD c) 0 ⟨Nat.zero_le _,by simp⟩ ?_ ?_
  ·exact ⟨[],rfl,by simp,by simp [sA,kA,SW,AW],by simp [HW,BW,SW,AW]⟩
  ·rintro k ⟨hk,hd⟩
   simp only [awK,Nat.reduceMod,Nat.reduceDiv,reduceIte]
   have fin:(k<b.length→¬ isD (b.getD k 0))→∀ K:Prop,((k<1∨15<k→okB b=false→K)∧(1≤k→k≤15→k=b.length→okB b=true∧cutL 46 b=b∧cutR 46 b=[]→K)∧(1≤k→k≤15→k<b.length→(b.getD k 0).toNat≠46→okB b=false→K) ∧
     (1≤k→k≤15→k<b.length→(b.getD k 0).toNat=46→okB b=digB (b.drop (k+1)) 9→cutL 46 b=b.take k→cutR 46 b=b.drop (k+1)→K))→K:=by
    rintro hn K ⟨k1,k2,k3,k4⟩
    by_cases q:k<1∨15<k
    ·exact k1 q (ok_front hk hd hn q)
    ·rcases Nat.lt_or_ge k b.length with hl | hl
     ·by_cases h46:b.getD k 0=46
      ·obtain ⟨x1,x2,x3⟩:=ok_point hd hl h46 (by omega) (by omega)
       exact k4 (by omega) (by omega) hl (by rw [h46];rfl) x1 x2 x3
      ·exact k3 (by omega) (by omega) hl (fun e=>h46 (UInt8.toNat_inj.1 e)) (ok_bad hd hl (hn hl) h46)
     ·obtain rfl:k=b.length:=by omega
      rw [List.take_length] at hd
      exact k2 (by omega) (by omega) rfl (ok_whole hd (by omega) (by omega))
   rcases Nat.lt_or_ge k b.length with hl | hl
   ·by_cases hg:isD (b.getD k 0)
    ·have hg1:=hg.1
     have hg2:=hg.2
     simp (config:={maxSteps:=1000000}) (disch:=(try simp only [awL]);omega) only [awS,↓awU,awV,awX,awF,↓reduceIte,↓reduceDIte,↓Qe,Qu,Qv,Qw,Qx,Qy,Qz,QA,QB,QC,QD,QE,QF,QG,QH,QI,QK]
     exact ⟨k+1,⟨hl,take_next hd hl hg⟩,by simp only;omega,⟨[],rfl,by simp,by simp [sA,kA,SW,AW],by simp [HW,BW,SW,AW]⟩⟩
    ·have hg':(b.getD k 0).toNat<48∨57<(b.getD k 0).toNat:=by unfold isD at hg;omega
     rcases hg' with hg' | hg'
     ·refine fin (fun _=>hg) _ ⟨fun q1 q2=>?_,fun q1 q2 q3=>by omega,fun q1 q2 q3 q4 q5=>?_,fun q1 q2 q3 q4 q5 q6 q7=>?_⟩
      ·rcases q1 with q1 | q1
       ·unfold partsD
        rw [q2]
        simp (config:={maxSteps:=1000000}) (disch:=(try simp only [awL]);omega) only [awS,↓awU,awV,awX,awF,↓reduceIte,↓reduceDIte,↓Qe,Qu,Qv,Qw,Qx,Qy,Qz,QA,QB,QC,QD,QE,QF,QG,QH,QI,QK]
        first | done | rfl
       ·unfold partsD
        rw [q2]
        simp (config:={maxSteps:=1000000}) (disch:=(try simp only [awL]);omega) only [awS,↓awU,awV,awX,awF,↓reduceIte,↓reduceDIte,↓Qe,Qu,Qv,Qw,Qx,Qy,Qz,QA,QB,QC,QD,QE,QF,QG,QH,QI,QK]
        first | done | rfl
      ·unfold partsD
       rw [q5]
       simp (config:={maxSteps:=1000000}) (disch:=(try simp only [awL]);omega) only [awS,↓awU,awV,awX,awF,↓reduceIte,↓reduceDIte,↓Qe,Qu,Qv,Qw,Qx,Qy,Qz,QA,QB,QC,QD,QE,QF,QG,QH,QI,QK]
       first | done | rfl
      ·skip
       have hp3:(b.drop (k+1)).length=b.length - (k+1):=List.length_drop ..
       have hlk:(b.take k).length=k:=by rw [List.length_take];omega
       unfold partsD
       rw [q5,q6,q7]
       generalize hP:b.drop (k+1)=p at *
       by_cases hp1:p.length<1
       ·have e0:digB p 9=false:=by
         cases e:digB p 9 with
         | false=>rfl
         | true=>have:=(digB_iff.1 e).1;omega
        rw [e0]
        simp (config:={maxSteps:=1000000}) (disch:=(try simp only [awL]);omega) only [awS,hP,↓awU,awV,awX,awF,↓reduceIte,↓reduceDIte,↓Qe,Qu,Qv,Qw,Qx,Qy,Qz,QA,QB,QC,QD,QE,QF,QG,QH,QI,QK]
        first | done | rfl
       ·by_cases hp2:9<p.length
        ·have e0:digB p 9=false:=by
          cases e:digB p 9 with
          | false=>rfl
          | true=>have:=(digB_iff.1 e).2.1;omega
         rw [e0]
         simp (config:={maxSteps:=1000000}) (disch:=(try simp only [awL]);omega) only [awS,hP,↓awU,awV,awX,awF,↓reduceIte,↓reduceDIte,↓Qe,Qu,Qv,Qw,Qx,Qy,Qz,QA,QB,QC,QD,QE,QF,QG,QH,QI,QK]
         first | done | rfl
        ·simp (config:={maxSteps:=1000000}) (disch:=(try simp only [awL]);omega) only [awS,hP,↓awU,awV,awX,awF,↓reduceIte,↓reduceDIte,↓Qe,Qu,Qv,Qw,Qx,Qy,Qz,QA,QB,QC,QD,QE,QF,QG,QH,QI,QK]
         refine LoopC.fr 0 (α:=Nat) (fun i=>p.length - i) (fun i=>[(2,.d (.bool false)),(3,.d (S (b.take k))),(4,.d (S p)),(7,.d (.int .i64 i))]) (fun _=>[]) (fun i=>i≤p.length∧∀ c∈p.take i,isD c) 0 ⟨Nat.zero_le _,by simp⟩ ?_ ?_
         ·exact ⟨[],rfl,by simp,by simp [sA,kA,SW,AW],by simp [HW,BW,SW,AW]⟩
         ·rintro i ⟨hi,hdi⟩
          simp only [awK,Nat.reduceMod,Nat.reduceDiv,reduceIte]
          rcases Nat.lt_or_ge i p.length with hil | hil
          ·by_cases hgi:isD (p.getD i 0)
           ·have hg1:=hgi.1
            have hg2:=hgi.2
            simp (config:={maxSteps:=1000000}) (disch:=(try simp only [awL]);omega) only [awS,↓awU,awV,awX,awF,↓reduceIte,↓reduceDIte,↓Qe,Qu,Qv,Qw,Qx,Qy,Qz,QA,QB,QC,QD,QE,QF,QG,QH,QI,QK]
            exact ⟨i+1,⟨hil,take_next hdi hil hgi⟩,by simp only;omega,⟨[],rfl,by simp,by simp [sA,kA,SW,AW],by simp [HW,BW,SW,AW]⟩⟩
           ·have e0:digB p 9=false:=by
             cases e:digB p 9 with
             | false=>rfl
             | true=>exact absurd ((digB_iff.1 e).2.2 _ (mem_getDU hil)) hgi
            have hg':(p.getD i 0).toNat<48∨57<(p.getD i 0).toNat:=by unfold isD at hgi;omega
            rw [e0]
            rcases hg' with hg' | hg'
            ·simp (config:={maxSteps:=1000000}) (disch:=(try simp only [awL]);omega) only [awS,↓awU,awV,awX,awF,↓reduceIte,↓reduceDIte,↓Qe,Qu,Qv,Qw,Qx,Qy,Qz,QA,QB,QC,QD,QE,QF,QG,QH,QI,QK]
             first | done | rfl
            ·simp (config:={maxSteps:=1000000}) (disch:=(try simp only [awL]);omega) only [awS,↓awU,awV,awX,awF,↓reduceIte,↓reduceDIte,↓Qe,Qu,Qv,Qw,Qx,Qy,Qz,QA,QB,QC,QD,QE,QF,QG,QH,QI,QK]
             first | done | rfl
          ·obtain rfl:i=p.length:=by omega
           rw [List.take_length] at hdi
           have e0:digB p 9=true:=digB_iff.2 ⟨by omega,by omega,hdi⟩
           rw [e0]
           simp (config:={maxSteps:=1000000}) (disch:=(try simp only [awL]);omega) only [awS,↓awU,awV,awX,awF,↓reduceIte,↓reduceDIte,↓Qe,Qu,Qv,Qw,Qx,Qy,Qz,QA,QB,QC,QD,QE,QF,QG,QH,QI,QK]
           first | done | rfl
     ·refine fin (fun _=>hg) _ ⟨fun q1 q2=>?_,fun q1 q2 q3=>by omega,fun q1 q2 q3 q4 q5=>?_,fun q1 q2 q3 q4 q5 q6 q7=>?_⟩
      ·rcases q1 with q1 | q1
       ·unfold partsD
        rw [q2]
        simp (config:={maxSteps:=1000000}) (disch:=(try simp only [awL]);omega) only [awS,↓awU,awV,awX,awF,↓reduceIte,↓reduceDIte,↓Qe,Qu,Qv,Qw,Qx,Qy,Qz,QA,QB,QC,QD,QE,QF,QG,QH,QI,QK]
        first | done | rfl
       ·unfold partsD
        rw [q2]
        simp (config:={maxSteps:=1000000}) (disch:=(try simp only [awL]);omega) only [awS,↓awU,awV,awX,awF,↓reduceIte,↓reduceDIte,↓Qe,Qu,Qv,Qw,Qx,Qy,Qz,QA,QB,QC,QD,QE,QF,QG,QH,QI,QK]
        first | done | rfl
      ·unfold partsD
       rw [q5]
       simp (config:={maxSteps:=1000000}) (disch:=(try simp only [awL]);omega) only [awS,↓awU,awV,awX,awF,↓reduceIte,↓reduceDIte,↓Qe,Qu,Qv,Qw,Qx,Qy,Qz,QA,QB,QC,QD,QE,QF,QG,QH,QI,QK]
       first | done | rfl
      ·omega
   ·obtain rfl:k=b.length:=by omega
    refine fin (fun h=>absurd h (Nat.lt_irrefl _)) _ ⟨fun q1 q2=>?_,fun q1 q2 q3 q4=>?_,fun q1 q2 q3=>by omega,fun q1 q2 q3=>by omega⟩
    ·rcases q1 with q1 | q1
     ·unfold partsD
      rw [q2]
      simp (config:={maxSteps:=1000000}) (disch:=(try simp only [awL]);omega) only [awS,↓awU,awV,awX,awF,↓reduceIte,↓reduceDIte,↓Qe,Qu,Qv,Qw,Qx,Qy,Qz,QA,QB,QC,QD,QE,QF,QG,QH,QI,QK]
      first | done | rfl
     ·unfold partsD
      rw [q2]
      simp (config:={maxSteps:=1000000}) (disch:=(try simp only [awL]);omega) only [awS,↓awU,awV,awX,awF,↓reduceIte,↓reduceDIte,↓Qe,Qu,Qv,Qw,Qx,Qy,Qz,QA,QB,QC,QD,QE,QF,QG,QH,QI,QK]
      first | done | rfl
    ·obtain ⟨x1,x2,x3⟩:=q4
     unfold partsD
     rw [x1,x2,x3]
     simp (config:={maxSteps:=1000000}) (disch:=(try simp only [awL]);omega) only [awS,List.take_length,↓awU,awV,awX,awF,↓reduceIte,↓reduceDIte,↓Qe,Qu,Qv,Qw,Qx,Qy,Qz,QA,QB,QC,QD,QE,QF,QG,QH,QI,QK]
     first | done | rfl
 ·simp (config:={maxSteps:=1000000}) (disch:=(try simp only [awL]);omega) only [awS,Tryz.f56,↓awU,awV,awX,awF,↓reduceIte,↓reduceDIte,↓Qe,Qu,Qv,Qw,Qx,Qy,Qz,QA,QB,QC,QD,QE,QF,QG,QH,QI,QK]
  rw [c2,c3]
  refine LoopC.fr 4642343326489650161095016453 (α:=Nat) (fun k=>s.length - k) (fun k=>[(6,.d (.int .i64 k))]) (fun _=>[]) (fun k=>k≤s.length∧∀ c∈s.take k,isD c) 0 ⟨Nat.zero_le _,by simp⟩ ?_ ?_
  ·exact ⟨[],rfl,by simp,by simp [sA,kA,SW,AW],by simp [HW,BW,SW,AW]⟩
  ·rintro k ⟨hk,hd⟩
   simp only [awK,Nat.reduceMod,Nat.reduceDiv,reduceIte]
   have fin:(k<s.length→¬ isD (s.getD k 0))→∀ K:Prop,((k<1∨15<k→okB s=false→K)∧(1≤k→k≤15→k=s.length→okB s=true∧cutL 46 s=s∧cutR 46 s=[]→K)∧(1≤k→k≤15→k<s.length→(s.getD k 0).toNat≠46→okB s=false→K) ∧
     (1≤k→k≤15→k<s.length→(s.getD k 0).toNat=46→okB s=digB (s.drop (k+1)) 9→cutL 46 s=s.take k→cutR 46 s=s.drop (k+1)→K))→K:=by
    rintro hn K ⟨k1,k2,k3,k4⟩
    by_cases q:k<1∨15<k
    ·exact k1 q (ok_front hk hd hn q)
    ·rcases Nat.lt_or_ge k s.length with hl | hl
     ·by_cases h46:s.getD k 0=46
      ·obtain ⟨x1,x2,x3⟩:=ok_point hd hl h46 (by omega) (by omega)
       exact k4 (by omega) (by omega) hl (by rw [h46];rfl) x1 x2 x3
      ·exact k3 (by omega) (by omega) hl (fun e=>h46 (UInt8.toNat_inj.1 e)) (ok_bad hd hl (hn hl) h46)
     ·obtain rfl:k=s.length:=by omega
      rw [List.take_length] at hd
      exact k2 (by omega) (by omega) rfl (ok_whole hd (by omega) (by omega))
   rcases Nat.lt_or_ge k s.length with hl | hl
   ·by_cases hg:isD (s.getD k 0)
    ·have hg1:=hg.1
     have hg2:=hg.2
     simp (config:={maxSteps:=1000000}) (disch:=(try simp only [awL]);omega) only [awS,↓awU,awV,awX,awF,↓reduceIte,↓reduceDIte,↓Qe,Qu,Qv,Qw,Qx,Qy,Qz,QA,QB,QC,QD,QE,QF,QG,QH,QI,QK]
     exact ⟨k+1,⟨hl,take_next hd hl hg⟩,by simp only;omega,⟨[],rfl,by simp,by simp [sA,kA,SW,AW],by simp [HW,BW,SW,AW]⟩⟩
    ·have hg':(s.getD k 0).toNat<48∨57<(s.getD k 0).toNat:=by unfold isD at hg;omega
     rcases hg' with hg' | hg'
     ·refine fin (fun _=>hg) _ ⟨fun q1 q2=>?_,fun q1 q2 q3=>by omega,fun q1 q2 q3 q4 q5=>?_,fun q1 q2 q3 q4 q5 q6 q7=>?_⟩
      ·rcases q1 with q1 | q1
       ·unfold partsD
        rw [q2]
        simp (config:={maxSteps:=1000000}) (disch:=(try simp only [awL]);omega) only [awS,↓awU,awV,awX,awF,↓reduceIte,↓reduceDIte,↓Qe,Qu,Qv,Qw,Qx,Qy,Qz,QA,QB,QC,QD,QE,QF,QG,QH,QI,QK]
        first | done | rfl
       ·unfold partsD
        rw [q2]
        simp (config:={maxSteps:=1000000}) (disch:=(try simp only [awL]);omega) only [awS,↓awU,awV,awX,awF,↓reduceIte,↓reduceDIte,↓Qe,Qu,Qv,Qw,Qx,Qy,Qz,QA,QB,QC,QD,QE,QF,QG,QH,QI,QK]
        first | done | rfl
      ·unfold partsD
       rw [q5]
       simp (config:={maxSteps:=1000000}) (disch:=(try simp only [awL]);omega) only [awS,↓awU,awV,awX,awF,↓reduceIte,↓reduceDIte,↓Qe,Qu,Qv,Qw,Qx,Qy,Qz,QA,QB,QC,QD,QE,QF,QG,QH,QI,QK]
       first | done | rfl
      ·skip
       have hp3:(s.drop (k+1)).length=s.length - (k+1):=List.length_drop ..
       have hlk:(s.take k).length=k:=by rw [List.length_take];omega
       unfold partsD
       rw [q5,q6,q7]
       generalize hP:s.drop (k+1)=p at *
       by_cases hp1:p.length<1
       ·have e0:digB p 9=false:=by
         cases e:digB p 9 with
         | false=>rfl
         | true=>have:=(digB_iff.1 e).1;omega
        rw [e0]
        simp (config:={maxSteps:=1000000}) (disch:=(try simp only [awL]);omega) only [awS,hP,↓awU,awV,awX,awF,↓reduceIte,↓reduceDIte,↓Qe,Qu,Qv,Qw,Qx,Qy,Qz,QA,QB,QC,QD,QE,QF,QG,QH,QI,QK]
        first | done | rfl
       ·by_cases hp2:9<p.length
        ·have e0:digB p 9=false:=by
          cases e:digB p 9 with
          | false=>rfl
          | true=>have:=(digB_iff.1 e).2.1;omega
         rw [e0]
         simp (config:={maxSteps:=1000000}) (disch:=(try simp only [awL]);omega) only [awS,hP,↓awU,awV,awX,awF,↓reduceIte,↓reduceDIte,↓Qe,Qu,Qv,Qw,Qx,Qy,Qz,QA,QB,QC,QD,QE,QF,QG,QH,QI,QK]
         first | done | rfl
        ·simp (config:={maxSteps:=1000000}) (disch:=(try simp only [awL]);omega) only [awS,hP,↓awU,awV,awX,awF,↓reduceIte,↓reduceDIte,↓Qe,Qu,Qv,Qw,Qx,Qy,Qz,QA,QB,QC,QD,QE,QF,QG,QH,QI,QK]
         refine LoopC.fr 0 (α:=Nat) (fun i=>p.length - i) (fun i=>[(2,.d (.bool false)),(3,.d (S (s.take k))),(4,.d (S p)),(7,.d (.int .i64 i))]) (fun _=>[]) (fun i=>i≤p.length∧∀ c∈p.take i,isD c) 0 ⟨Nat.zero_le _,by simp⟩ ?_ ?_
         ·exact ⟨[],rfl,by simp,by simp [sA,kA,SW,AW],by simp [HW,BW,SW,AW]⟩
         ·rintro i ⟨hi,hdi⟩
          simp only [awK,Nat.reduceMod,Nat.reduceDiv,reduceIte]
          rcases Nat.lt_or_ge i p.length with hil | hil
          ·by_cases hgi:isD (p.getD i 0)
           ·have hg1:=hgi.1
            have hg2:=hgi.2
            simp (config:={maxSteps:=1000000}) (disch:=(try simp only [awL]);omega) only [awS,↓awU,awV,awX,awF,↓reduceIte,↓reduceDIte,↓Qe,Qu,Qv,Qw,Qx,Qy,Qz,QA,QB,QC,QD,QE,QF,QG,QH,QI,QK]
            exact ⟨i+1,⟨hil,take_next hdi hil hgi⟩,by simp only;omega,⟨[],rfl,by simp,by simp [sA,kA,SW,AW],by simp [HW,BW,SW,AW]⟩⟩
           ·have e0:digB p 9=false:=by
             cases e:digB p 9 with
             | false=>rfl
             | true=>exact absurd ((digB_iff.1 e).2.2 _ (mem_getDU hil)) hgi
            have hg':(p.getD i 0).toNat<48∨57<(p.getD i 0).toNat:=by unfold isD at hgi;omega
            rw [e0]
            rcases hg' with hg' | hg'
            ·simp (config:={maxSteps:=1000000}) (disch:=(try simp only [awL]);omega) only [awS,↓awU,awV,awX,awF,↓reduceIte,↓reduceDIte,↓Qe,Qu,Qv,Qw,Qx,Qy,Qz,QA,QB,QC,QD,QE,QF,QG,QH,QI,QK]
             first | done | rfl
            ·simp (config:={maxSteps:=1000000}) (disch:=(try simp only [awL]);omega) only [awS,↓awU,awV,awX,awF,↓reduceIte,↓reduceDIte,↓Qe,Qu,Qv,Qw,Qx,Qy,Qz,QA,QB,QC,QD,QE,QF,QG,QH,QI,QK]
             first | done | rfl
          ·obtain rfl:i=p.length:=by omega
           rw [List.take_length] at hdi
           have e0:digB p 9=true:=digB_iff.2 ⟨by omega,by omega,hdi⟩
           rw [e0]
           simp (config:={maxSteps:=1000000}) (disch:=(try simp only [awL]);omega) only [awS,↓awU,awV,awX,awF,↓reduceIte,↓reduceDIte,↓Qe,Qu,Qv,Qw,Qx,Qy,Qz,QA,QB,QC,QD,QE,QF,QG,QH,QI,QK]
           first | done | rfl
     ·refine fin (fun _=>hg) _ ⟨fun q1 q2=>?_,fun q1 q2 q3=>by omega,fun q1 q2 q3 q4 q5=>?_,fun q1 q2 q3 q4 q5 q6 q7=>?_⟩
      ·rcases q1 with q1 | q1
       ·unfold partsD
        rw [q2]
        simp (config:={maxSteps:=1000000}) (disch:=(try simp only [awL]);omega) only [awS,↓awU,awV,awX,awF,↓reduceIte,↓reduceDIte,↓Qe,Qu,Qv,Qw,Qx,Qy,Qz,QA,QB,QC,QD,QE,QF,QG,QH,QI,QK]
        first | done | rfl
       ·unfold partsD
        rw [q2]
        simp (config:={maxSteps:=1000000}) (disch:=(try simp only [awL]);omega) only [awS,↓awU,awV,awX,awF,↓reduceIte,↓reduceDIte,↓Qe,Qu,Qv,Qw,Qx,Qy,Qz,QA,QB,QC,QD,QE,QF,QG,QH,QI,QK]
        first | done | rfl
      ·unfold partsD
       rw [q5]
       simp (config:={maxSteps:=1000000}) (disch:=(try simp only [awL]);omega) only [awS,↓awU,awV,awX,awF,↓reduceIte,↓reduceDIte,↓Qe,Qu,Qv,Qw,Qx,Qy,Qz,QA,QB,QC,QD,QE,QF,QG,QH,QI,QK]
       first | done | rfl
      ·omega
   ·obtain rfl:k=s.length:=by omega
    refine fin (fun h=>absurd h (Nat.lt_irrefl _)) _ ⟨fun q1 q2=>?_,fun q1 q2 q3 q4=>?_,fun q1 q2 q3=>by omega,fun q1 q2 q3=>by omega⟩
    ·rcases q1 with q1 | q1
     ·exfalso;omega
     ·unfold partsD
      rw [q2]
      simp (config:={maxSteps:=1000000}) (disch:=(try simp only [awL]);omega) only [awS,↓awU,awV,awX,awF,↓reduceIte,↓reduceDIte,↓Qe,Qu,Qv,Qw,Qx,Qy,Qz,QA,QB,QC,QD,QE,QF,QG,QH,QI,QK]
      first | done | rfl
    ·obtain ⟨x1,x2,x3⟩:=q4
     unfold partsD
     rw [x1,x2,x3]
     simp (config:={maxSteps:=1000000}) (disch:=(try simp only [awL]);omega) only [awS,List.take_length,↓awU,awV,awX,awF,↓reduceIte,↓reduceDIte,↓Qe,Qu,Qv,Qw,Qx,Qy,Qz,QA,QB,QC,QD,QE,QF,QG,QH,QI,QK]
     first | done | rfl
theorem rtrim_spec (l:List Nat) (hd:Dig l) (hl:l.length<2 ^ 60):Ctr TP G 121 [.d (W l)] [] (.d (W (toW (val l)))) []:=by
 refine Ctr.pure (M:=M0) hmix Tryz.func121 rfl go121 ?_
 simp (config:={maxSteps:=1000000}) (disch:=(try simp only [awL]);omega) only [Tryz.f121,↓awU,awV,awX,awF,↓reduceIte,↓reduceDIte,↓Qe,Qu,Qv,Qw,Qx,Qy,Qz,QA,QB,QC,QD,QE,QF,QG,QH,QI,QK]
 refine LoopC.fr 0 (α:=Nat) (fun k=>k) (fun k=>[(0,.d (.sl k false (nats .u32 (l.take k))))]) (fun _=>[]) (fun k=>k≤l.length∧val (l.take k)=val l) l.length ⟨Nat.le_refl _,by simp⟩ ?_ ?_
 ·exact ⟨[],rfl,by simp,by simp [sA,kA,SW,AW],by simp [HW,BW,SW,AW]⟩
 ·rintro k ⟨hk,hv⟩
  simp only [awK,Nat.reduceMod,Nat.reduceDiv,reduceIte]
  rcases k with _ | k
  ·simp (config:={maxSteps:=1000000}) (disch:=(try simp only [awL]);omega) only [↓awU,awV,awX,awF,↓reduceIte,↓reduceDIte,↓Qe,Qu,Qv,Qw,Qx,Qy,Qz,QA,QB,QC,QD,QE,QF,QG,QH,QI,QK]
   have:toW (val l)=[]:=by rw [← hv];exact toW_zero
   rw [this];rfl
  ·have eg:(l.take (k+1)).getD k 0=l.getD k 0:=by
    rw [List.getD_eq_getElem?_getD,List.getElem?_take,if_pos (by omega),← List.getD_eq_getElem?_getD]
   have et:(l.take (k+1)).take k=l.take k:=by rw [List.take_take];congr 1;omega
   simp (config:={maxSteps:=1000000}) (disch:=(try simp only [awL]);omega) only [eg,et,↓awU,awV,awX,awF,↓reduceIte,↓reduceDIte,↓Qe,Qu,Qv,Qw,Qx,Qy,Qz,QA,QB,QC,QD,QE,QF,QG,QH,QI,QK]
   refine ⟨fun h=>⟨k,⟨by omega,?_⟩,Nat.lt_succ_self _,⟨[],rfl,by simp,by simp [sA,kA,SW,AW],by simp [HW,BW,SW,AW]⟩⟩,fun h=>?_⟩
   ·rw [← hv,take_val l k,show l.getD k 0=0 by omega];simp
   ·have:=toW_take hd (k:=k+1) (by omega) (.inr (by simpa using h))
    rw [hv] at this
    rw [this]
    simp [W];omega
theorem rbig_spec (neg:Bool) (l:List Nat) (hd:Dig l) (hl:l.length<2 ^ 40):Ctr TP G 78 [.d (.bool neg),.d (W l)] [] (.d (Big (if neg then -(val l:Int) else val l))) []:=by
 refine Ctr.pure (M:=M0) hmix Tryz.func78 rfl go78 ?_
 have hlt:=trim_len hd
 simp (config:={maxSteps:=1000000}) (disch:=(try simp only [awL]);omega) only [Tryz.f78,↓awU,awV,awX,awF,↓reduceIte,↓reduceDIte,↓Qe,Qu,Qv,Qw,Qx,Qy,Qz,QA,QB,QC,QD,QE,QF,QG,QH,QI,QK]
 refine CallC.pure (rtrim_spec l hd (by omega)) ?_
 have:=@sz_pos (val l)
 cases neg
 ·simp (config:={maxSteps:=1000000}) (disch:=(try simp only [awL]);omega) only [↓awU,awV,awX,awF,↓reduceIte,↓reduceDIte,↓Qe,Qu,Qv,Qw,Qx,Qy,Qz,QA,QB,QC,QD,QE,QF,QG,QH,QI,QK]
  simp [Big,bigL,W]
 ·simp (config:={maxSteps:=1000000}) (disch:=(try simp only [awL]);omega) only [↓awU,awV,awX,awF,↓reduceIte,↓reduceDIte,↓Qe,Qu,Qv,Qw,Qx,Qy,Qz,QA,QB,QC,QD,QE,QF,QG,QH,QI,QK]
  simp [Big,bigL,W]
  omega
theorem rcmp_spec (a b:Nat) (ha:(toW a).length<2 ^ 40) (hb:(toW b).length<2 ^ 40) :
  Ctr TP G 76 [.d (W (toW a)),.d (W (toW b))] [] (.d (.int .i64 (cmpI a b))) []:=by
 have da:=dig_toW a
 have db:=dig_toW b
 have va:=val_toW a
 have vb:=val_toW b
 have la:=@toW_len_lt a b
 have lb:=@toW_len_lt b a
 generalize toW a=l at *
 generalize toW b=m at *
 refine Ctr.pure (M:=M0) hmix Tryz.func76 rfl go76 ?_
 simp (config:={maxSteps:=1000000}) (disch:=(try simp only [awL]);omega) only [Tryz.f76,↓awU,awV,awX,awF,↓reduceIte,↓reduceDIte,↓Qe,Qu,Qv,Qw,Qx,Qy,Qz,QA,QB,QC,QD,QE,QF,QG,QH,QI,QK]
 refine ⟨fun h=>⟨fun h'=>?_,fun h'=>?_⟩,fun h=>?_⟩
 ·exact (cmpI_lt (by have:=la (by omega);omega)).symm
 ·exact (cmpI_gt (by have:=lb (by omega);omega)).symm
 ·have e:l.length=m.length:=by omega
  refine LoopC.fr 3 (α:=Nat) (fun k=>k) (fun k=>[(5,.d (.int .i64 ((k:Int) - 1)))]) (fun _=>[]) (fun k=>k≤l.length∧l.drop k=m.drop k) l.length ⟨Nat.le_refl _,by rw [List.drop_length,e,List.drop_length]⟩ ?_ ?_
  ·exact ⟨[],rfl,by simp,by simp [sA,kA,SW,AW,e],by simp [HW]⟩
  ·rintro k ⟨hk,hv⟩
   simp only [awK,Nat.reduceMod,Nat.reduceDiv,reduceIte]
   rcases k with _ | k
   ·simp (config:={maxSteps:=1000000}) (disch:=(try simp only [awL]);omega) only [↓awU,awV,awX,awF,↓reduceIte,↓reduceDIte,↓Qe,Qu,Qv,Qw,Qx,Qy,Qz,QA,QB,QC,QD,QE,QF,QG,QH,QI,QK]
    simp only [List.drop_zero] at hv
    rw [← va,← vb,hv]
    exact (cmpI_eq rfl).symm
   ·simp (config:={maxSteps:=1000000}) (disch:=(try simp only [awL]);omega) only [↓awU,awV,awX,awF,↓reduceIte,↓reduceDIte,↓Qe,Qu,Qv,Qw,Qx,Qy,Qz,QA,QB,QC,QD,QE,QF,QG,QH,QI,QK]
    refine ⟨by rfl,fun h1=>?_,fun h1=>⟨by rfl,fun h2=>?_,fun h2=>?_⟩⟩
    ·have:=val_lt_of (k:=k) da (by omega) (by omega) hv (by omega)
     rw [← va,← vb];exact (cmpI_lt (by omega)).symm
    ·have:=val_lt_of (k:=k) db (by omega) (by omega) hv.symm (by omega)
     rw [← va,← vb];exact (cmpI_gt (by omega)).symm
    ·exact ⟨k,⟨by omega,drop_eq (by omega) (by omega) hv (by omega)⟩,Nat.lt_succ_self _,⟨[],rfl,by simp,by simp [sA,kA,SW,AW],by simp [HW,BW,SW,AW]⟩⟩
theorem rvalidBig_spec (n:Int):Ctr TP G 75 [.d (Big n)] [] (.d (.bool (decide (sz n≤256)))) []:=by
 refine Ctr.pure (M:=M0) hmix Tryz.func75 rfl go75 ?_
 by_cases hn:n=0
 ·subst hn
  have e:toW (0:Int).natAbs=[]:=toW_zero
  simp only [Big,bigL,sz,e]
  simp (config:={maxSteps:=1000000}) (disch:=(try simp only [awL]);omega) only [Tryz.f75,↓awU,awV,awX,awF,↓reduceIte,↓reduceDIte,↓Qe,Qu,Qv,Qw,Qx,Qy,Qz,QA,QB,QC,QD,QE,QF,QG,QH,QI,QK]
 ·have h0:=(@sz_pos n.natAbs).2 (by omega)
  have hl:=@toW_last n.natAbs (by omega)
  simp only [Big,bigL,sz]
  obtain ⟨m,hm⟩:∃ m,(toW n.natAbs).length=m+1:=⟨(toW n.natAbs).length - 1,by omega⟩
  rw [hm,Nat.add_sub_cancel] at hl
  have hl':¬ (((toW n.natAbs).getD m 0:Nat):Int)=0:=by omega
  by_cases h256:m+1≤256
  ·simp (config:={maxSteps:=1000000}) (disch:=(try simp only [awL]);omega) only [Tryz.f75,hm,hl',↓awU,awV,awX,awF,↓reduceIte,↓reduceDIte,↓Qe,Qu,Qv,Qw,Qx,Qy,Qz,QA,QB,QC,QD,QE,QF,QG,QH,QI,QK]
  ·simp (config:={maxSteps:=1000000}) (disch:=(try simp only [awL]);omega) only [Tryz.f75,hm,↓awU,awV,awX,awF,↓reduceIte,↓reduceDIte,↓Qe,Qu,Qv,Qw,Qx,Qy,Qz,QA,QB,QC,QD,QE,QF,QG,QH,QI,QK]
theorem rmul_spec (a b:Nat) (ha:(toW a).length<2 ^ 40) (hb:(toW b).length<2 ^ 40) :
  Ctr TP G 81 [.d (W (toW a)),.d (W (toW b))] [] (.d (W (toW (a*b)))) []:=by
 have da:=dig_toW a
 have db:=dig_toW b
 have va:=val_toW a
 have vb:=val_toW b
 generalize toW a=l at *
 generalize toW b=m at *
 refine Ctr.pure (M:=M0) hmix Tryz.func81 rfl go81 ?_
 simp (config:={maxSteps:=1000000}) (disch:=(try simp only [awL]);omega) only [Tryz.f81,↓awU,awV,awX,awF,↓reduceIte,↓reduceDIte,↓Qe,Qu,Qv,Qw,Qx,Qy,Qz,QA,QB,QC,QD,QE,QF,QG,QH,QI,QK]
 refine LoopC.fr 35 (α:=Nat × List Nat) (fun x=>l.length - x.1) (fun x=>[(6,.d (.int .i64 x.1))])
  (fun x=>[.row false (nats .u32 x.2)]) (fun x=>x.1≤l.length∧x.2.length=l.length+m.length∧Dig x.2∧val x.2=val (l.take x.1)*b∧∀ p,x.1+m.length≤p→x.2.getD p 0=0) (0,List.replicate (l.length+m.length) 0)
  ⟨by simp,by simp,Dig.zeros _,by simp [val_zeros,val],fun p _=>by simp only [List.getD_eq_getElem?_getD,List.getElem?_replicate];split<;>rfl⟩ ?_ ?_
 ·exact ⟨[some 0],rfl,by simp,by simp [sA,kA,SW,AW],by simp [HW,BW,SW,AW]⟩
 ·rintro ⟨i,o⟩ ⟨hi,ho,hd,hv,hz⟩
  simp only at hi ho hd hv hz
  simp only [awK,Nat.reduceMod,Nat.reduceDiv,reduceIte]
  simp (config:={maxSteps:=1000000}) (disch:=(try simp only [awL]);omega) only [↓awU,awV,awX,awF,↓reduceIte,↓reduceDIte,↓Qe,Qu,Qv,Qw,Qx,Qy,Qz,QA,QB,QC,QD,QE,QF,QG,QH,QI,QK]
  refine ⟨fun h=>?_,fun h=>?_⟩
  ·refine LoopC.fr 99 (α:=Nat × List Nat × Nat) (fun x=>m.length - x.1) (fun x=>[(7,.d (.int .u64 x.2.2)),(8,.d (.int .i64 x.1))])
    (fun x=>[.row false (nats .u32 x.2.1)]) (fun x=>x.1≤m.length∧x.2.1.length=l.length+m.length∧Dig x.2.1∧x.2.2<B∧val x.2.1+B ^ (i+x.1)*x.2.2=val o+B ^ i*(l.getD i 0*val (m.take x.1))∧∀ p,i+m.length≤p→x.2.1.getD p 0=0) (0,o,0)
    ⟨by simp,ho,hd,by simp [B],by simp [val],hz⟩ ?_ ?_
   ·exact ⟨[some 0],rfl,by simp,by simp [sA,kA,SW,AW],by simp [HW,BW,SW,AW]⟩
   ·rintro ⟨j,q,c⟩ ⟨hj,hq,hdq,hc,hvq,hzq⟩
    simp only at hj hq hdq hc hvq hzq
    simp only [awK,Nat.reduceMod,Nat.reduceDiv,reduceIte]
    replace hv:=Hid.mk hv
    replace hvq:=Hid.mk hvq
    have p1:=mul_digit (da.getD i) (db.getD j)
    have p2:=hdq.getD (i+j)
    have p3:c<4294967296:=hc
    have p4:q.getD (i+j) 0<4294967296:=p2
    have p5:l.getD i 0<4294967296:=da.getD i
    have p6:m.getD j 0<4294967296:=db.getD j
    simp (config:={maxSteps:=1000000}) (disch:=(try simp only [awL]);omega) only [↓awU,awV,awX,awF,↓reduceIte,↓reduceDIte,↓Qe,Qu,Qv,Qw,Qx,Qy,Qz,QA,QB,QC,QD,QE,QF,QG,QH,QI,QK]
    refine ⟨fun h1=>⟨by rfl,?_⟩,fun h1=>?_⟩
    ·simp only [w_u32,nats_set]
     have hsl:c+(l.getD i 0*m.getD j 0+q.getD (i+j) 0)<B*B:=by simp only [B];omega
     generalize hg:c+(l.getD i 0*m.getD j 0+q.getD (i+j) 0)=s at hsl ⊢
     refine ⟨(j+1,q.set (i+j) (s % B),s / B),⟨by simp only;omega,by simp [hq],hdq.set (Nat.mod_lt _ (by decide)),(Nat.div_lt_iff_lt_mul (by decide)).2 hsl,times_step (by omega) hg.symm hvq.out,fun p hp=>?_⟩,
      by simp only;omega,[some 0],rfl,by simp,by simp [SW,AW,B],by simp [HW,BW,w_u32,nats_set,B]⟩
     rw [getD_set_ne (by omega)];exact hzq p hp
    ·have ej:j=m.length:=by omega
     have hvq:=hvq.out
     rw [ej,List.take_of_length_le (Nat.le_refl _),vb] at hvq
     refine ⟨(i+1,q.set (i+m.length) c),⟨by simp only;omega,by simp [hq],hdq.set hc,times_row (by omega) (hzq _ (Nat.le_refl _)) hvq hv.out,fun p hp=>?_⟩,
      by simp only;omega,[some 0],rfl,by simp,by simp [SW,AW],by simp [HW,BW]⟩
     rw [getD_set_ne (by omega)];exact hzq p (by omega)
  ·have e:(D.sl (l.length+m.length) false (nats .u32 o))=W o:=by simp [W,ho]
   have ei:i=l.length:=by omega
   rw [e]
   refine CallC.frozen (rtrim_spec _ hd ?_) ?_
   ·omega
   ·rw [hv,ei,List.take_of_length_le (Nat.le_refl _),va]
    simp (config:={maxSteps:=1000000}) (disch:=(try simp only [awL]);omega) only [↓awU,awV,awX,awF,↓reduceIte,↓reduceDIte,↓Qe,Qu,Qv,Qw,Qx,Qy,Qz,QA,QB,QC,QD,QE,QF,QG,QH,QI,QK]
theorem rfromInt_spec (n:Int) (h1:-9223372036854775808≤n) (h2:n≤9223372036854775807):Ctr TP G 88 [.d (.int .i64 n)] [] (.d (Big n)) []:=by
 refine Ctr.pure (M:=M0) hmix Tryz.func88 rfl go88 ?_
 have hN:n.natAbs<18446744073709551616:=by omega
 have dg:Dig [n.natAbs % B,n.natAbs / B]:=by
  intro x hx
  simp only [List.mem_cons,List.not_mem_nil,or_false] at hx
  rcases hx with rfl | rfl
  ·exact Nat.mod_lt _ (by decide)
  ·simp only [B];omega
 have vv:val [n.natAbs % B,n.natAbs / B]=n.natAbs:=by simp only [val,Nat.mul_zero,Nat.add_zero];exact Nat.mod_add_div _ B
 by_cases hn:n<0
 ·have e:IntKind.u64.wrap (0 - IntKind.u64.wrap n)=((n.natAbs:Nat):Int):=by simp [IntKind.wrap,IntKind.bits,IntKind.signed];omega
  simp (config:={maxSteps:=1000000}) (disch:=(try simp only [awL]);omega) only [Tryz.f88,e,w_u32,↓awU,awV,awX,awF,↓reduceIte,↓reduceDIte,↓Qe,Qu,Qv,Qw,Qx,Qy,Qz,QA,QB,QC,QD,QE,QF,QG,QH,QI,QK]
  refine CallC.frozenE (rbig_spec true [n.natAbs % B,n.natAbs / B] dg (by simp)) (by rfl) ?_
  rw [vv,if_pos rfl,show -((n.natAbs:Nat):Int)=n by omega]
  simp (config:={maxSteps:=1000000}) (disch:=(try simp only [awL]);omega) only [↓awU,awV,awX,awF,↓reduceIte,↓reduceDIte,↓Qe,Qu,Qv,Qw,Qx,Qy,Qz,QA,QB,QC,QD,QE,QF,QG,QH,QI,QK]
  simp [hn]
 ·have e:IntKind.u64.wrap n=((n.natAbs:Nat):Int):=by simp [IntKind.wrap,IntKind.bits,IntKind.signed];omega
  have e2:n=((n.natAbs:Nat):Int):=by omega
  simp (config:={maxSteps:=1000000}) (disch:=(try simp only [awL]);omega) only [Tryz.f88,e,w_u32,↓awU,awV,awX,awF,↓reduceIte,↓reduceDIte,↓Qe,Qu,Qv,Qw,Qx,Qy,Qz,QA,QB,QC,QD,QE,QF,QG,QH,QI,QK]
  refine CallC.frozenE (rbig_spec false [n.natAbs % B,n.natAbs / B] dg (by simp)) ?_ ?_
  ·rfl
  rw [vv,if_neg (by decide),← e2]
  simp (config:={maxSteps:=1000000}) (disch:=(try simp only [awL]);omega) only [↓awU,awV,awX,awF,↓reduceIte,↓reduceDIte,↓Qe,Qu,Qv,Qw,Qx,Qy,Qz,QA,QB,QC,QD,QE,QF,QG,QH,QI,QK]
  simp [hn]
theorem radd_spec (a b:Nat) (ha:(toW a).length<2 ^ 40) (hb:(toW b).length<2 ^ 40) :
  Ctr TP G 79 [.d (W (toW a)),.d (W (toW b))] [] (.d (W (digs (max (toW a).length (toW b).length+1) (a+b)))) []:=by
 have da:=dig_toW a
 have db:=dig_toW b
 have va:=val_toW a
 have vb:=val_toW b
 generalize toW a=l at *
 generalize toW b=m at *
 refine Ctr.pure (M:=M0) hmix Tryz.func79 rfl go79 ?_
 simp (config:={maxSteps:=1000000}) (disch:=(try simp only [awL]);omega) only [Tryz.f79,↓awU,awV,awX,awF,↓reduceIte,↓reduceDIte,↓Qe,Qu,Qv,Qw,Qx,Qy,Qz,QA,QB,QC,QD,QE,QF,QG,QH,QI,QK]
 refine LoopC.fr 3 (α:=Nat × List Nat × Nat) (fun x=>max l.length m.length - x.1) (fun x=>[(5,.lsl 0 1 0 x.1),(6,.d (.int .u64 x.2.2)),(7,.d (.int .i64 x.1))])
  (fun x=>[.row false (nats .u32 x.2.1)]) (fun x=>x.1≤max l.length m.length∧x.2.1.length=x.1∧Dig x.2.1∧x.2.2≤1∧val x.2.1+B ^ x.1*x.2.2=val (l.take x.1)+val (m.take x.1)) (0,[],0) ⟨by simp,rfl,by simp [Dig],by simp,by simp [val]⟩ ?_ ?_
 ·exact ⟨[none],rfl,by simp,by simp [sA,kA,SW,AW],by simp [HW,BW,nats]⟩
 ·rintro ⟨k,out,c⟩ ⟨hk,ho,hd,hc,hv⟩
  simp only at hk ho hd hc hv
  simp only [awK,Nat.reduceMod,Nat.reduceDiv,reduceIte]
  have p1:l.getD k 0<4294967296:=da.getD k
  have p2:m.getD k 0<4294967296:=db.getD k
  replace hv:=Hid.mk hv
  have fin:∀ s,s=l.getD k 0+m.getD k 0+c→k<max l.length m.length→k+1≤max l.length m.length∧(out++[s % B]).length=k+1∧Dig (out++[s % B])∧s / B≤1∧val (out++[s % B])+B ^ (k+1)*(s / B)=val (l.take (k+1))+val (m.take (k+1)):=fun s hs hk2 =>
   ⟨hk2,by simp [ho],hd.append (by intro x hx;simp at hx;subst hx;exact Nat.mod_lt _ (by decide)),by simp only [B];omega,ab_step ho hs hv.out⟩
  have z1:l.length≤k→l.getD k 0=0:=fun h=>by rw [List.getD_eq_getElem?_getD,List.getElem?_eq_none h];rfl
  have z2:m.length≤k→m.getD k 0=0:=fun h=>by rw [List.getD_eq_getElem?_getD,List.getElem?_eq_none h];rfl
  rcases Nat.lt_or_ge k l.length with h1 | h1<;>rcases Nat.lt_or_ge k m.length with h2 | h2
  ·simp (config:={maxSteps:=1000000}) (disch:=(try simp only [awL]);omega) only [w_u32,↓awU,awV,awX,awF,↓reduceIte,↓reduceDIte,↓Qe,Qu,Qv,Qw,Qx,Qy,Qz,QA,QB,QC,QD,QE,QF,QG,QH,QI,QK]
   refine ⟨(k+1,out++[(c+l.getD k 0+m.getD k 0) % B],(c+l.getD k 0+m.getD k 0) / B),fin _ (by omega) (by omega),by simp only;omega,[some 2],rfl,by simp,by simp [SW,AW,B],by simp [HW,BW,B]⟩
  ·have:=z2 h2
   simp (config:={maxSteps:=1000000}) (disch:=(try simp only [awL]);omega) only [w_u32,↓awU,awV,awX,awF,↓reduceIte,↓reduceDIte,↓Qe,Qu,Qv,Qw,Qx,Qy,Qz,QA,QB,QC,QD,QE,QF,QG,QH,QI,QK]
   refine ⟨(k+1,out++[(c+l.getD k 0) % B],(c+l.getD k 0) / B),fin _ (by omega) (by omega),by simp only;omega,[some 2],rfl,by simp,by simp [SW,AW,B],by simp [HW,BW,B]⟩
  ·have:=z1 h1
   simp (config:={maxSteps:=1000000}) (disch:=(try simp only [awL]);omega) only [w_u32,↓awU,awV,awX,awF,↓reduceIte,↓reduceDIte,↓Qe,Qu,Qv,Qw,Qx,Qy,Qz,QA,QB,QC,QD,QE,QF,QG,QH,QI,QK]
   refine ⟨(k+1,out++[(c+m.getD k 0) % B],(c+m.getD k 0) / B),fin _ (by omega) (by omega),by simp only;omega,[some 2],rfl,by simp,by simp [SW,AW,B],by simp [HW,BW,B]⟩
  ·simp (config:={maxSteps:=1000000}) (disch:=(try simp only [awL]);omega) only [w_u32,↓awU,awV,awX,awF,↓reduceIte,↓reduceDIte,↓Qe,Qu,Qv,Qw,Qx,Qy,Qz,QA,QB,QC,QD,QE,QF,QG,QH,QI,QK]
   have hk':k=max l.length m.length:=by omega
   have hv:=hv.out
   rw [List.take_of_length_le (l:=l) (by omega),List.take_of_length_le (l:=m) (by omega),va,vb] at hv
   rw [← digs_eq (l:=out++[c]) (hd.append (by intro x hx;simp at hx;subst hx;simp only [B];omega)) (by simp;omega) (by rw [val_append,ho];simpa [val] using hv)]
   simp [W,ho]
theorem sub_w {x y b:Nat} (hx:x<4294967296) (hy:y<4294967296) (hb:b≤1):IntKind.u32.wrap (-(b:Int)+(x:Int) - (y:Int))=(((x+B - y - b) % B:Nat):Int):=by
 simp [IntKind.wrap,IntKind.bits,IntKind.signed,B];omega
theorem sub_c {x y b:Nat} (hx:x<4294967296) (hy:y<4294967296) (hb:b≤1):(-(b:Int)+(x:Int) - (y:Int)) / 4294967296=-((if x<y+b then 1 else 0:Nat):Int):=by
 split<;>omega
theorem rsub_spec (a b:Nat) (hab:b≤a) (ha:(toW a).length<2 ^ 40) :
  Ctr TP G 80 [.d (W (toW a)),.d (W (toW b))] [] (.d (W (toW (a - b)))) []:=by
 have da:=dig_toW a
 have db:=dig_toW b
 have va:=val_toW a
 have vb:=val_toW b
 have hlen:=toW_len_mono hab
 generalize toW a=l at *
 generalize toW b=m at *
 refine Ctr.pure (M:=M0) hmix Tryz.func80 rfl go80 ?_
 simp (config:={maxSteps:=1000000}) (disch:=(try simp only [awL]);omega) only [Tryz.f80,↓awU,awV,awX,awF,↓reduceIte,↓reduceDIte,↓Qe,Qu,Qv,Qw,Qx,Qy,Qz,QA,QB,QC,QD,QE,QF,QG,QH,QI,QK]
 refine LoopC.fr 3 (α:=Nat × List Nat × Nat) (fun x=>l.length - x.1) (fun x=>[(5,.lsl 0 1 0 x.1),(6,.d (.int .i64 (-(x.2.2:Int)))),(7,.d (.int .i64 x.1))])
  (fun x=>[.row false (nats .u32 x.2.1)]) (fun x=>x.1≤l.length∧x.2.1.length=x.1∧Dig x.2.1∧x.2.2≤1∧val x.2.1+val (m.take x.1)=val (l.take x.1)+B ^ x.1*x.2.2) (0,[],0) ⟨by simp,rfl,by simp [Dig],by simp,by simp [val]⟩ ?_ ?_
 ·exact ⟨[none],rfl,by simp,by simp [sA,kA,SW,AW],by simp [HW,BW,nats]⟩
 ·rintro ⟨k,out,c⟩ ⟨hk,ho,hd,hc,hv⟩
  simp only at hk ho hd hc hv
  simp only [awK,Nat.reduceMod,Nat.reduceDiv,reduceIte]
  have p1:l.getD k 0<4294967296:=da.getD k
  have p2:m.getD k 0<4294967296:=db.getD k
  have sw:=sub_w p1 p2 hc
  have sc:=sub_c p1 p2 hc
  replace hv:=Hid.mk hv
  have fin:∀ s q,s=(l.getD k 0+B - m.getD k 0 - c) % B→q=(if l.getD k 0<m.getD k 0+c then 1 else 0)→k<l.length→k+1≤l.length∧(out++[s]).length=k+1∧Dig (out++[s])∧q≤1∧val (out++[s])+val (m.take (k+1))=val (l.take (k+1))+B ^ (k+1)*q:=fun s q hs hq hk2 =>
   ⟨hk2,by simp [ho],hd.append (by intro x hx;simp at hx;subst hx;rw [hs];exact Nat.mod_lt _ (by decide)),by rw [hq];split<;>omega,minus_step ho hv.out (by rw [hs,hq];exact sub_digit (da.getD k) (db.getD k) hc)⟩
  have z2:m.length≤k→m.getD k 0=0:=fun h=>by rw [List.getD_eq_getElem?_getD,List.getElem?_eq_none h];rfl
  rcases Nat.lt_or_ge k l.length with h1 | h1
  ·rcases Nat.lt_or_ge k m.length with h2 | h2
   ·simp (config:={maxSteps:=1000000}) (disch:=(try simp only [awL]);omega) only [sw,sc,↓awU,awV,awX,awF,↓reduceIte,↓reduceDIte,↓Qe,Qu,Qv,Qw,Qx,Qy,Qz,QA,QB,QC,QD,QE,QF,QG,QH,QI,QK]
    exact ⟨(k+1,out++[(l.getD k 0+B - m.getD k 0 - c) % B],if l.getD k 0<m.getD k 0+c then 1 else 0),fin _ _ rfl rfl h1,by simp only;omega,[some 2],rfl,by simp,by simp [SW,AW],by simp [HW,BW]⟩
   ·have hz:=z2 h2
    have sw2:IntKind.u32.wrap (-(c:Int)+(l.getD k 0:Int))=(((l.getD k 0+B - m.getD k 0 - c) % B:Nat):Int):=by rw [← sw,hz];congr 1;omega
    have sc2:(-(c:Int)+(l.getD k 0:Int)) / 4294967296=-((if l.getD k 0<m.getD k 0+c then 1 else 0:Nat):Int):=by rw [← sc,hz];congr 1;omega
    simp (config:={maxSteps:=1000000}) (disch:=(try simp only [awL]);omega) only [sw2,sc2,↓awU,awV,awX,awF,↓reduceIte,↓reduceDIte,↓Qe,Qu,Qv,Qw,Qx,Qy,Qz,QA,QB,QC,QD,QE,QF,QG,QH,QI,QK]
    exact ⟨(k+1,out++[(l.getD k 0+B - m.getD k 0 - c) % B],if l.getD k 0<m.getD k 0+c then 1 else 0),fin _ _ rfl rfl h1,by simp only;omega,[some 2],rfl,by simp,by simp [SW,AW],by simp [HW,BW]⟩
  ·simp (config:={maxSteps:=1000000}) (disch:=(try simp only [awL]);omega) only [↓awU,awV,awX,awF,↓reduceIte,↓reduceDIte,↓Qe,Qu,Qv,Qw,Qx,Qy,Qz,QA,QB,QC,QD,QE,QF,QG,QH,QI,QK]
   have ek:k=l.length:=by omega
   have hv:=hv.out
   rw [ek,List.take_of_length_le (Nat.le_refl _),List.take_of_length_le hlen,va,vb] at hv
   have h3:=val_lt hd
   rw [ho,ek] at h3
   have hv':val out=a - b:=minus_end hv h3 hab hc
   refine CallC.frozenE (rtrim_spec out hd (by omega)) (by simp [W,ho]) ?_
   rw [hv']
   simp (config:={maxSteps:=1000000}) (disch:=(try simp only [awL]);omega) only [↓awU,awV,awX,awF,↓reduceIte,↓reduceDIte,↓Qe,Qu,Qv,Qw,Qx,Qy,Qz,QA,QB,QC,QD,QE,QF,QG,QH,QI,QK]
theorem tw_step {out l:List Nat} {k c x d0:Nat} (ho:out.length=k) (hx:l.getD k 0=x) (hv:val out+B ^ k*c=2*val (l.take k)+d0) :
  val (out++[(2*x+c) % B])+B ^ (k+1)*((2*x+c) / B)=2*val (l.take (k+1))+d0:=by
 rw [val_append,ho,take_val l k,hx]
 simp only [val,Nat.mul_zero,Nat.add_zero]
 have h1:=Nat.mod_add_div (2*x+c) B
 have e1:B ^ (k+1)*((2*x+c) / B)=B ^ k*(B*((2*x+c) / B)):=by rw [Nat.pow_succ,Nat.mul_assoc]
 have e3:B ^ k*((2*x+c) % B+B*((2*x+c) / B))=B ^ k*(2*x+c):=by rw [h1]
 rw [e1]
 simp only [Nat.mul_add] at e3 ⊢
 have e4:B ^ k*(2*x)=2*(B ^ k*x):=Nat.mul_left_comm ..
 omega
theorem tw_or {x c:Nat} (hx:x<4294967296) (hc:c≤1):bitsI .or .u32 (IntKind.u32.wrap ((x:Int)*2)) (c:Int)=(((2*x+c) % B:Nat):Int):=by
 have e1:IntKind.u32.wrap ((x:Int)*2)=((x*2 ^ 1 % 4294967296:Nat):Int):=by rw [← w_u32];congr 1
 rw [e1,low_mul (by decide),bi_u32_or_nat (by omega) (by omega),Nat.or_comm,or_low (by omega)]
 simp only [B]
 omega
theorem twice_spec (a d:Nat) (hd1:d≤1) (ha:(toW a).length<2 ^ 40) :
  Ctr TP G 120 [.d (W (toW a)),.d (.int .u32 d)] [] (.d (W (toW (2*a+d)))) []:=by
 have da:=dig_toW a
 have va:=val_toW a
 generalize toW a=l at *
 refine Ctr.pure (M:=M0) hmix Tryz.func120 rfl go120 ?_
 simp (config:={maxSteps:=1000000}) (disch:=(try simp only [awL]);omega) only [Tryz.f120,↓awU,awV,awX,awF,↓reduceIte,↓reduceDIte,↓Qe,Qu,Qv,Qw,Qx,Qy,Qz,QA,QB,QC,QD,QE,QF,QG,QH,QI,QK]
 refine LoopC.fr 1 (α:=Nat × List Nat × Nat) (fun x=>l.length - x.1) (fun x=>[(1,.d (.int .u32 x.2.2)),(5,.lsl 0 1 0 x.1),(6,.d (.int .i64 x.1))])
  (fun x=>[.row false (nats .u32 x.2.1)]) (fun x=>x.1≤l.length∧x.2.1.length=x.1∧Dig x.2.1∧x.2.2≤1∧val x.2.1+B ^ x.1*x.2.2=2*val (l.take x.1)+d) (0,[],d) ⟨by simp,rfl,by simp [Dig],hd1,by simp [val]⟩ ?_ ?_
 ·exact ⟨[none],rfl,by simp,by simp [sA,kA,SW,AW],by simp [HW,BW,nats]⟩
 ·rintro ⟨k,out,c⟩ ⟨hk,ho,hd,hc,hv⟩
  simp only at hk ho hd hc hv
  simp only [awK,Nat.reduceMod,Nat.reduceDiv,reduceIte]
  have p1:l.getD k 0<4294967296:=da.getD k
  replace hv:=Hid.mk hv
  rcases Nat.lt_or_ge k l.length with h1 | h1
  ·have hor:=tw_or p1 hc
   simp (config:={maxSteps:=1000000}) (disch:=(try simp only [awL]);omega) only [hor,↓awU,awV,awX,awF,↓reduceIte,↓reduceDIte,↓Qe,Qu,Qv,Qw,Qx,Qy,Qz,QA,QB,QC,QD,QE,QF,QG,QH,QI,QK]
   refine ⟨(k+1,out++[(2*l.getD k 0+c) % B],(2*l.getD k 0+c) / B),⟨by simp only;omega,by simp [ho],hd.append (by intro x hx;simp at hx;subst hx;exact Nat.mod_lt _ (by decide)),by simp only [B];omega,tw_step ho rfl hv.out⟩,by simp only;omega,[some 2],rfl,by simp,?_,by simp [HW,BW]⟩
   have e:((l.getD k 0:Nat):Int) / 2147483648=(((2*l.getD k 0+c) / B:Nat):Int):=by simp only [B];omega
   rw [e]
   simp [SW,AW]
  ·simp (config:={maxSteps:=1000000}) (disch:=(try simp only [awL]);omega) only [↓awU,awV,awX,awF,↓reduceIte,↓reduceDIte,↓Qe,Qu,Qv,Qw,Qx,Qy,Qz,QA,QB,QC,QD,QE,QF,QG,QH,QI,QK]
   have hk':k=l.length:=by omega
   have hv:=hv.out
   rw [List.take_of_length_le (by omega),va] at hv
   have hv':val (out++[c])=2*a+d:=by rw [val_append,ho];simpa [val] using hv
   refine CallC.frozenE (rtrim_spec (out++[c]) (hd.append (by intro x hx;simp at hx;subst hx;simp only [B];omega)) (by simp;omega)) (by simp [W,ho]) ?_
   rw [hv']
   simp (config:={maxSteps:=1000000}) (disch:=(try simp only [awL]);omega) only [↓awU,awV,awX,awF,↓reduceIte,↓reduceDIte,↓Qe,Qu,Qv,Qw,Qx,Qy,Qz,QA,QB,QC,QD,QE,QF,QG,QH,QI,QK]
theorem bit_spec (l:List Nat) (i:Nat) (hi:i<32*l.length) (hl:l.length<2 ^ 40) (hd:Dig l) :
  Ctr TP G 148 [.d (W l),.d (.int .i64 i)] [] (.d (.int .u32 (l.getD (i / 32) 0 / 2 ^ (i % 32) % 2:Nat))) []:=by
 refine Ctr.pure (M:=M0) hmix Tryz.func148 rfl go148 ?_
 have p1:l.getD (i / 32) 0<4294967296:=hd.getD (i / 32)
 have e1:Int.tdiv (i:Int) 32=((i / 32:Nat):Int):=by rw [Int.tdiv_eq_ediv_of_nonneg (by omega)];omega
 have e2:Int.tmod (i:Int) 32=((i % 32:Nat):Int):=by rw [Int.tmod_eq_emod_of_nonneg (by omega)];omega
 have e3:min (i % 32) 32=i % 32:=by omega
 have hm:(2:Int) ^ (i % 32)=((2 ^ (i % 32):Nat):Int):=by simp
 have hle:=Nat.div_le_self (l.getD (i / 32) 0) (2 ^ (i % 32))
 have e4:bitsI .and .u32 ((l.getD (i / 32) 0 / 2 ^ (i % 32):Nat):Int) 1=((l.getD (i / 32) 0 / 2 ^ (i % 32) % 2:Nat):Int):=by
  have:=bi_u32_and_nat (a:=l.getD (i / 32) 0 / 2 ^ (i % 32)) (b:=1) (by omega) (by omega)
  rw [Nat.and_one_is_mod] at this
  exact this
 simp (config:={maxSteps:=1000000}) (disch:=(try simp only [awL]);omega) only [Tryz.f148,e1,e2,e3,hm,fdiv_nat,e4,↓awU,awV,awX,awF,↓reduceIte,↓reduceDIte,↓Qe,Qu,Qv,Qw,Qx,Qy,Qz,QA,QB,QC,QD,QE,QF,QG,QH,QI,QK]
theorem set_get {l:List Nat} {i v:Nat} (h:i<l.length):(l.set i v).getD i 0=v:=by
 rw [List.getD_eq_getElem?_getD,List.getElem?_set_self h];rfl
theorem hf_or {x y:Nat} (hx:x<4294967296):bitsI .or .u32 ((x / 2:Nat):Int) (IntKind.u32.wrap ((y:Int)*2147483648))=(((y*B+x) / 2 ^ 1 % B:Nat):Int):=by
 have e1:IntKind.u32.wrap ((y:Int)*2147483648)=((y*2 ^ 31 % 4294967296:Nat):Int):=by rw [← w_u32];congr 1
 rw [e1,low_mul (by decide),bi_u32_or_nat (by omega) (by omega),or_low (by omega)]
 simp only [B]
 omega
theorem half_spec (a:Nat) (ha:(toW a).length<2 ^ 38) :
  Ctr TP G 119 [.d (W (toW a))] [] (.d (W (toW (a / 2)))) []:=by
 have da:=dig_toW a
 have va:=val_toW a
 have la:=lt_of_toW a
 have ea:=toW_digs a
 generalize toW a=l at *
 refine Ctr.pure (M:=M0) hmix Tryz.func119 rfl go119 ?_
 simp (config:={maxSteps:=1000000}) (disch:=(try simp only [awL]);omega) only [Tryz.f119,↓awU,awV,awX,awF,↓reduceIte,↓reduceDIte,↓Qe,Qu,Qv,Qw,Qx,Qy,Qz,QA,QB,QC,QD,QE,QF,QG,QH,QI,QK]
 refine LoopC.fr 513 (α:=Nat) (fun i=>l.length - i) (fun i=>[(3,.lsl 0 1 0 l.length),(10,.d (.int .i64 i))])
  (fun i=>[.row false (nats .u32 (backRow l.length 1 a i))]) (fun i=>i≤l.length) 0 (Nat.zero_le _) ?_ ?_
 ·exact ⟨[some 1],rfl,by simp,by simp [sA,kA,SW,AW],by simp [HW,BW,backRow_zero,← ea]⟩
 ·intro i hi
  simp only [awK,Nat.reduceMod,Nat.reduceDiv,reduceIte]
  have b1:=backRow_length (s:=1) (r:=a) hi
  rcases Nat.lt_or_ge i l.length with h1 | h1
  ·have b3:=backRow_getD (s:=1) (r:=a) h1
   have hun:=unshift (r:=a) (i:=i) (show 1<32 by decide)
   have bs:=backRow_set (s:=1) (r:=a) h1
   have bg:∀ v,((backRow l.length 1 a i).set i v).getD i 0=v:=fun v=>set_get (by rw [b1];exact h1)
   have p1:a / B ^ i % B<4294967296:=Nat.mod_lt _ (by decide)
   have p2:l.getD (i+1) 0<4294967296:=da.getD _
   rcases Nat.lt_or_ge (i+1) l.length with h2 | h2
   ·have hy:l.getD (i+1) 0=a / B ^ (i+1) % B:=by
     have:=digs_getD (k:=l.length) (n:=a) h2
     rwa [← ea] at this
    have hor:=hf_or (x:=a / B ^ i % B) (y:=l.getD (i+1) 0) p1
    have ed:((a / B ^ i % B:Nat):Int) / 2=((a / B ^ i % B / 2:Nat):Int):=rfl
    rw [hy] at hor
    have hun':(a / B ^ (i+1) % B*B+a / B ^ i % B) / 2 ^ 1 % B=a / 2 ^ 1 / B ^ i % B:=hun
    rw [hun'] at hor
    simp (config:={maxSteps:=1000000}) (disch:=(try simp only [awL]);omega) only [b1,b3,bg,ed,hy,hor,List.set_set,↓awU,awV,awX,awF,↓reduceIte,↓reduceDIte,↓Qe,Qu,Qv,Qw,Qx,Qy,Qz,QA,QB,QC,QD,QE,QF,QG,QH,QI,QK]
    refine ⟨by rfl,i+1,h1,by simp only;omega,[some 0],rfl,by simp,by simp [SW,AW],?_⟩
    simp only [bs]
    simp [HW,BW]
   ·have hy:a / B ^ (i+1)=0:=Nat.div_eq_of_lt (Nat.lt_of_lt_of_le la (Nat.pow_le_pow_right (by decide) h2))
    have ed:((a / B ^ i % B:Nat):Int) / 2=((a / 2 ^ 1 / B ^ i % B:Nat):Int):=by
     rw [← hun,hy]
     simp only [B] at p1 ⊢
     omega
    simp (config:={maxSteps:=1000000}) (disch:=(try simp only [awL]);omega) only [b1,b3,bg,ed,↓awU,awV,awX,awF,↓reduceIte,↓reduceDIte,↓Qe,Qu,Qv,Qw,Qx,Qy,Qz,QA,QB,QC,QD,QE,QF,QG,QH,QI,QK]
    refine ⟨i+1,h1,by simp only;omega,[some 0],rfl,by simp,by simp [SW,AW],?_⟩
    simp only [bs]
    simp [HW,BW]
  ·simp (config:={maxSteps:=1000000}) (disch:=(try simp only [awL]);omega) only [b1,↓awU,awV,awX,awF,↓reduceIte,↓reduceDIte,↓Qe,Qu,Qv,Qw,Qx,Qy,Qz,QA,QB,QC,QD,QE,QF,QG,QH,QI,QK]
   have ei:i=l.length:=by omega
   subst ei
   have er:backRow l.length 1 a l.length=digs l.length (a / 2):=by
    rw [backRow,List.drop_of_length_le (by rw [digs_length];omega),List.append_nil]
   refine CallC.frozenE (rtrim_spec (backRow l.length 1 a l.length) dig_backRow (by rw [b1];omega)) (by simp [W,b1]) ?_
   rw [er,val_digs (by omega)]
   simp (config:={maxSteps:=1000000}) (disch:=(try simp only [awL]);omega) only [↓awU,awV,awX,awF,↓reduceIte,↓reduceDIte,↓Qe,Qu,Qv,Qw,Qx,Qy,Qz,QA,QB,QC,QD,QE,QF,QG,QH,QI,QK]
theorem digs_getD' {k n i:Nat} (h:i<k):(digs k n).getD i 0=n / B ^ i % B:=by
 induction k generalizing n i with
 | zero=>omega
 | succ k ih =>
  cases i with
  | zero=>simp [digs]
  | succ i =>
   have:=@ih (n / B) i (by omega)
   simp only [digs,List.getD_cons_succ,this]
   rw [Nat.div_div_eq_div_mul,← Nat.pow_succ']
theorem B_pow:B=2 ^ 32:=rfl
theorem set_bit {n X j:Nat} (hj:j / 32<n) (hX:X<B ^ n) (hd:2 ^ (j+1) ∣ X) :
  (digs n X).set (j / 32) (X / B ^ (j / 32) % B ||| 2 ^ (j % 32))=digs n (X+2 ^ j)∧X / B ^ (j / 32) % B ||| 2 ^ (j % 32)<4294967296:=by
 have hs:j % 32<32:=Nat.mod_lt _ (by decide)
 have hw:X / B ^ (j / 32) % B<4294967296:=Nat.mod_lt _ (by decide)
 have hlt:X / B ^ (j / 32) % B ||| 2 ^ (j % 32)<2 ^ 32:=Nat.or_lt_two_pow (by omega) (Nat.pow_lt_pow_right (by decide) hs)
 have hp:B ^ (j / 32)*2 ^ (j % 32)=2 ^ j:=by
  rw [B_pow,← Nat.pow_mul,← Nat.pow_add,Nat.div_add_mod]
 have hm:2 ^ (j % 32+1) ∣ X / B ^ (j / 32) % B:=by
  have h1:2 ^ (j % 32+1) ∣ B:=by rw [B_pow];exact Nat.pow_dvd_pow 2 hs
  have h2:2 ^ (j % 32+1) ∣ X / B ^ (j / 32):=by
   obtain ⟨c,hc⟩:=hd
   have:X=B ^ (j / 32)*(2 ^ (j % 32+1)*c):=by
    rw [hc,Nat.pow_succ,← hp,Nat.pow_succ,Nat.mul_assoc,Nat.mul_assoc,Nat.mul_assoc]
   rw [this,Nat.mul_div_cancel_left _ (Nat.pow_pos (by decide))]
   exact ⟨c,rfl⟩
  exact (Nat.dvd_mod_iff h1).2 h2
 obtain ⟨c,hc⟩:=hm
 have hor:X / B ^ (j / 32) % B ||| 2 ^ (j % 32)=X / B ^ (j / 32) % B+2 ^ (j % 32):=by
  rw [Nat.or_comm,Nat.add_comm,hc,Nat.mul_comm]
  exact or_low (Nat.pow_lt_pow_right (by decide) (Nat.lt_succ_self _))
 refine ⟨?_,hlt⟩
 refine digs_eq ((dig_digs _ _).set hlt) (by rw [List.length_set,digs_length]) ?_
 have h1:=val_set (l:=digs n X) (p:=j / 32) (d:=X / B ^ (j / 32) % B ||| 2 ^ (j % 32)) (by rw [digs_length];exact hj)
 rw [digs_getD' hj,val_digs hX,hor,Nat.mul_add,hp] at h1
 rw [hor]
 omega
theorem div_bit {a b j:Nat} (hb:0<b):∃ bit r',bit=a / 2 ^ j % 2∧r'=2*(a / 2 ^ (j+1) % b)+bit ∧
  (b≤r'→a / 2 ^ j % b=r' - b∧a / 2 ^ j / b*2 ^ j=a / 2 ^ (j+1) / b*2 ^ (j+1)+2 ^ j) ∧
  (r'<b→a / 2 ^ j % b=r'∧a / 2 ^ j / b*2 ^ j=a / 2 ^ (j+1) / b*2 ^ (j+1)):=by
 refine ⟨_,_,rfl,rfl,?_⟩
 have e1:a / 2 ^ (j+1)=a / 2 ^ j / 2:=by rw [Nat.pow_succ,Nat.div_div_eq_div_mul]
 have e2:∀ q,q*2 ^ (j+1)=2*q*2 ^ j:=fun q=>by rw [Nat.pow_succ];rw [Nat.mul_comm 2 q,Nat.mul_assoc,Nat.mul_comm 2]
 rw [e1]
 generalize a / 2 ^ j=x
 have h1:=Nat.mod_add_div x 2
 have h2:=Nat.mod_add_div (x / 2) b
 have h3:=Nat.mod_lt (x / 2) hb
 generalize x / 2 / b=q at *
 generalize x / 2 % b=r at *
 have hx:x=b*(2*q)+(2*r+x % 2):=by
  have:b*(2*q)=2*(b*q):=Nat.mul_left_comm ..
  omega
 generalize x % 2=c at *
 have hc:c≤1∨True:=.inr trivial
 refine ⟨fun h=>?_,fun h=>?_⟩
 ·have hq:x / b=2*q+1∧x % b=2*r+c - b:=by
   have hlt:2*r+c - b<b:=by omega
   have:x=(2*r+c - b)+b*(2*q+1):=by rw [Nat.mul_add,Nat.mul_one];omega
   rw [this]
   exact ⟨by rw [Nat.add_mul_div_left _ _ hb,Nat.div_eq_of_lt hlt,Nat.zero_add],by rw [Nat.add_mul_mod_self_left,Nat.mod_eq_of_lt hlt]⟩
  rw [hq.1,hq.2,e2,Nat.add_mul,Nat.one_mul]
  exact ⟨rfl,rfl⟩
 ·have hq:x / b=2*q∧x % b=2*r+c:=by
   have:x=(2*r+c)+b*(2*q):=by omega
   rw [this]
   exact ⟨by rw [Nat.add_mul_div_left _ _ hb,Nat.div_eq_of_lt h,Nat.zero_add],by rw [Nat.add_mul_mod_self_left,Nat.mod_eq_of_lt h]⟩
  rw [hq.1,hq.2,e2]
  exact ⟨rfl,rfl⟩
theorem bit_of {a j:Nat} (hj:j / 32<(toW a).length):(toW a).getD (j / 32) 0 / 2 ^ (j % 32) % 2=a / 2 ^ j % 2:=by
 have h1:(toW a).getD (j / 32) 0=a / B ^ (j / 32) % B:=by
  have:=digs_getD' (k:=(toW a).length) (n:=a) hj
  rwa [← toW_digs a] at this
 rw [h1]
 have hp:B ^ (j / 32)*2 ^ (j % 32)=2 ^ j:=by
  rw [B_pow,← Nat.pow_mul,← Nat.pow_add,Nat.div_add_mod]
 rw [← hp,← Nat.div_div_eq_div_mul]
 generalize a / B ^ (j / 32)=y
 have hs:j % 32<32:=Nat.mod_lt _ (by decide)
 have:B=2 ^ (j % 32)*(2*2 ^ (31 - j % 32)):=by
  rw [← Nat.pow_succ',← Nat.pow_add,B_pow];congr 1;omega
 rw [this,Nat.mod_mul_right_div_self,Nat.mod_mul_right_mod]
theorem div_spec (a b:Nat) (hb:b≠0) (ha:(toW a).length<2 ^ 38) (hb':(toW b).length<2 ^ 38) :
  Ctr TP G 124 [.d (W (toW a)),.d (W (toW b))] [] (.d (.tup [W (toW (a / b)),W (toW (a % b))])) []:=by
 have da:=dig_toW a
 have la:=lt_of_toW a
 have hbp:0<b:=Nat.pos_of_ne_zero hb
 have hbit:∀ j,j / 32<(toW a).length→_:=fun j hj=>bit_of (a:=a) (j:=j) hj
 refine Ctr.pure (M:=M0) hmix Tryz.func124 rfl go124 ?_
 generalize hl:(toW a).length=n at *
 have e0:a / 2 ^ (32*n)=0:=Nat.div_eq_of_lt (by rw [Nat.pow_mul];exact la)
 simp (config:={maxSteps:=1000000}) (disch:=(try simp only [awL]);omega) only [Tryz.f124,hl,↓awU,awV,awX,awF,↓reduceIte,↓reduceDIte,↓Qe,Qu,Qv,Qw,Qx,Qy,Qz,QA,QB,QC,QD,QE,QF,QG,QH,QI,QK]
 refine LoopC.fx 19 (α:=Nat) (β:=Unit) (fun k=>k) (fun k=>[(5,.d (W (toW (a / 2 ^ k % b)))),(6,.d (.int .i64 ((k:Int) - 1)))])
  (fun k=>[.row false (nats .u32 (digs n (a / 2 ^ k / b*2 ^ k)))]) (fun k=>k≤32*n)
  16 (fun _=>[(5,.d (W (toW (a % b))))]) (fun _=>[.row false (nats .u32 (digs n (a / b)))]) (fun _=>True) (32*n) (Nat.le_refl _) ?_ ?_ ?_
 ·rw [e0,Nat.zero_mod,Nat.zero_div,Nat.zero_mul]
  have hz:digs n 0=List.replicate n 0:=(digs_eq (Dig.zeros n) (by simp) (val_zeros n)).symm
  refine ⟨[some 0],rfl,by simp,?_,?_⟩
  ·simp [sA,kA,SW,AW,toW_zero,nats]
  ·simp [HW,BW,hz]
 ·intro k hk
  simp only [awK,Nat.reduceMod,Nat.reduceDiv,reduceIte]
  rcases k with _ | j
  ·simp (config:={maxSteps:=1000000}) (disch:=(try simp only [awL]);omega) only [hl,↓awU,awV,awX,awF,↓reduceIte,↓reduceDIte,↓Qe,Qu,Qv,Qw,Qx,Qy,Qz,QA,QB,QC,QD,QE,QF,QG,QH,QI,QK]
   refine ⟨(),trivial,[some 0],rfl,by simp,?_,?_⟩
   ·simp [sA,kA,SW,AW]
   ·simp [HW,BW]
  ·have hj:j / 32<n:=by omega
   obtain ⟨bit,r',hbit1,hr',hge,hlt⟩:=div_bit (a:=a) (b:=b) (j:=j) hbp
   have hb1:bit≤1:=by omega
   have hmod:=Nat.mod_lt (a / 2 ^ (j+1)) hbp
   have hrl:(toW (a / 2 ^ (j+1) % b)).length≤(toW b).length:=toW_len_mono (Nat.le_of_lt hmod)
   have hrl2:(toW r').length≤(toW b).length+1:=by
    have h1:=toW_len_mono (show r'≤b+b by omega)
    have h2:=@plus_len b b
    omega
   have e2:Int.tdiv (j:Int) 32=((j / 32:Nat):Int):=by rw [Int.tdiv_eq_ediv_of_nonneg (by omega)];omega
   have e3:Int.tmod (j:Int) 32=((j % 32:Nat):Int):=by rw [Int.tmod_eq_emod_of_nonneg (by omega)];omega
   have e4:min (j % 32) 32=j % 32:=by omega
   have dl:=digs_length n (a / 2 ^ (j+1) / b*2 ^ (j+1))
   simp (config:={maxSteps:=1000000}) (disch:=(try simp only [awL]);omega) only [hl,↓awU,awV,awX,awF,↓reduceIte,↓reduceDIte,↓Qe,Qu,Qv,Qw,Qx,Qy,Qz,QA,QB,QC,QD,QE,QF,QG,QH,QI,QK]
   refine CallC.of (bit_spec (toW a) j (by rw [hl];omega) (by omega) da) (by rw [W,hl]) ?_
   rw [hbit j hj,← hbit1]
   simp (config:={maxSteps:=1000000}) (disch:=(try simp only [awL]);omega) only [hl,↓awU,awV,awX,awF,↓reduceIte,↓reduceDIte,↓Qe,Qu,Qv,Qw,Qx,Qy,Qz,QA,QB,QC,QD,QE,QF,QG,QH,QI,QK]
   refine CallC.pure (twice_spec _ bit hb1 (by omega)) ?_
   rw [← hr']
   simp (config:={maxSteps:=1000000}) (disch:=(try simp only [awL]);omega) only [hl,↓awU,awV,awX,awF,↓reduceIte,↓reduceDIte,↓Qe,Qu,Qv,Qw,Qx,Qy,Qz,QA,QB,QC,QD,QE,QF,QG,QH,QI,QK]
   refine CallC.pure (rcmp_spec r' b (by omega) (by omega)) ?_
   by_cases hc:b≤r'
   ·have hge':=hge hc
    have hci:(0:Int)≤cmpI (r':Int) b:=by unfold cmpI;split<;>first | omega | (split<;>omega)
    simp (config:={maxSteps:=1000000}) (disch:=(try simp only [awL]);omega) only [hl,↓awU,awV,awX,awF,↓reduceIte,↓reduceDIte,↓Qe,Qu,Qv,Qw,Qx,Qy,Qz,QA,QB,QC,QD,QE,QF,QG,QH,QI,QK]
    refine CallC.pure (rsub_spec r' b hc (by omega)) ?_
    have hX:a / 2 ^ (j+1) / b*2 ^ (j+1)<B ^ n:=by
     refine Nat.lt_of_le_of_lt ?_ la
     rw [Nat.div_div_eq_div_mul,Nat.mul_comm (2 ^ (j+1)),← Nat.div_div_eq_div_mul]
     exact Nat.le_trans (Nat.div_mul_le_self _ _) (Nat.div_le_self _ _)
    obtain ⟨s1,s2⟩:=set_bit (n:=n) hj hX ⟨_,Nat.mul_comm _ _⟩
    have g1:=digs_getD' (k:=n) (n:=a / 2 ^ (j+1) / b*2 ^ (j+1)) hj
    have hw1:(2 ^ (j % 32):Int)=((2 ^ (j % 32):Nat):Int):=by simp
    have hpl:2 ^ (j % 32)<4294967296:=Nat.pow_lt_pow_right (m:=j % 32) (n:=32) (by decide) (by omega)
    have hwr:IntKind.u32.wrap ((2 ^ (j % 32):Nat):Int)=((2 ^ (j % 32):Nat):Int):=by rw [w_u32,Nat.mod_eq_of_lt hpl]
    have hor:=bi_u32_or_nat (a:=a / 2 ^ (j+1) / b*2 ^ (j+1) / B ^ (j / 32) % B) (b:=2 ^ (j % 32)) (Nat.mod_lt _ (by decide)) hpl
    simp (config:={maxSteps:=1000000}) (disch:=(try simp only [awL]);omega) only [hl,e2,e3,e4,dl,g1,hw1,hwr,hor,Int.one_mul,↓awU,awV,awX,awF,↓reduceIte,↓reduceDIte,↓Qe,Qu,Qv,Qw,Qx,Qy,Qz,QA,QB,QC,QD,QE,QF,QG,QH,QI,QK]
    refine ⟨j,by omega,Nat.lt_succ_self _,[some 0],rfl,by simp,?_,?_⟩
    ·simp [sA,kA,SW,AW,hge'.1]
    ·simp [HW,BW,hge'.2,s1]
   ·have hlt':=hlt (by omega)
    have hci:cmpI (r':Int) b<0:=by rw [cmpI_lt (by omega)];decide
    simp (config:={maxSteps:=1000000}) (disch:=(try simp only [awL]);omega) only [hl,↓awU,awV,awX,awF,↓reduceIte,↓reduceDIte,↓Qe,Qu,Qv,Qw,Qx,Qy,Qz,QA,QB,QC,QD,QE,QF,QG,QH,QI,QK]
    refine ⟨j,by omega,Nat.lt_succ_self _,[some 0],rfl,by simp,?_,?_⟩
    ·simp [sA,kA,SW,AW,hlt'.1]
    ·simp [HW,BW,hlt'.2]
 ·rintro ⟨⟩ -
  simp only [awK,Nat.reduceMod,Nat.reduceDiv,reduceIte]
  simp (config:={maxSteps:=1000000}) (disch:=(try simp only [awL]);omega) only [hl,↓awU,awV,awX,awF,↓reduceIte,↓reduceDIte,↓Qe,Qu,Qv,Qw,Qx,Qy,Qz,QA,QB,QC,QD,QE,QF,QG,QH,QI,QK]
  have hq:a / b<B ^ n:=Nat.lt_of_le_of_lt (Nat.div_le_self _ _) la
  refine CallC.frozenE (rtrim_spec (digs n (a / b)) (dig_digs _ _) (by rw [digs_length];omega)) (by rw [W,digs_length,List.take_of_length_le (by rw [digs_length];omega)]) ?_
  rw [val_digs hq]
  simp (config:={maxSteps:=1000000}) (disch:=(try simp only [awL]);omega) only [↓awU,awV,awX,awF,↓reduceIte,↓reduceDIte,↓Qe,Qu,Qv,Qw,Qx,Qy,Qz,QA,QB,QC,QD,QE,QF,QG,QH,QI,QK]
theorem toW_0 {a:Nat} (h:a≠0):(toW a).getD 0 0=a % B:=by rw [toW_pos h];rfl
theorem and1 {x:Nat} (h:x<4294967296):bitsI .and .u32 (x:Int) 1=((x % 2:Nat):Int):=by
 have:=bi_u32_and_nat (a:=x) (b:=1) h (by decide)
 rw [Nat.and_one_is_mod] at this
 exact this
theorem low_bit {a:Nat} (h:a≠0):bitsI .and .u32 (((toW a).getD 0 0:Nat):Int) 1=((a % 2:Nat):Int):=by
 rw [toW_0 h,and1 (show a % B<4294967296 from Nat.mod_lt _ (by decide)),Nat.mod_mod_of_dvd _ (by decide)]
theorem gcd_even {a b g:Nat} (h:Nat.gcd a b=g) (ha:a % 2=0) (hg:g % 2=1):Nat.gcd (a / 2) b=g:=by
 have hb:b % 2=1:=by
  rcases Nat.mod_two_eq_zero_or_one b with hb | hb
  ·have:2 ∣ g:=h▸Nat.dvd_gcd (Nat.dvd_of_mod_eq_zero ha) (Nat.dvd_of_mod_eq_zero hb)
   omega
  ·exact hb
 have hc:Nat.Coprime 2 b:=by rw [Nat.Coprime,Nat.gcd_rec,hb];rfl
 have:=Nat.Coprime.gcd_mul_left_cancel (a / 2) hc
 rw [← this,Nat.mul_div_cancel' (Nat.dvd_of_mod_eq_zero ha),h]
theorem gcd_even' {a b g:Nat} (h:Nat.gcd a b=g) (hb:b % 2=0) (hg:g % 2=1):Nat.gcd a (b / 2)=g:=by
 rw [Nat.gcd_comm] at h ⊢
 exact gcd_even h hb hg
theorem gcd_odd {a b:Nat} (h:¬ (a % 2=0∧b % 2=0)):Nat.gcd a b % 2=1:=by
 rcases Nat.mod_two_eq_zero_or_one (Nat.gcd a b) with hg | hg
 ·have hd:=Nat.dvd_of_mod_eq_zero hg
  have h1:=Nat.dvd_trans hd (Nat.gcd_dvd_left a b)
  have h2:=Nat.dvd_trans hd (Nat.gcd_dvd_right a b)
  exact absurd ⟨Nat.mod_eq_zero_of_dvd h1,Nat.mod_eq_zero_of_dvd h2⟩ h
 ·exact hg
theorem two_bound {a k n:Nat} (h:a*2 ^ k=n) (ha:a≠0):k<32*(toW n).length:=by
 have h1:=lt_of_toW n
 rw [B_pow,← Nat.pow_mul] at h1
 have h2:2 ^ k≤n:=by rw [← h];exact Nat.le_mul_of_pos_left _ (Nat.pos_of_ne_zero ha)
 exact (Nat.pow_lt_pow_iff_right (by decide)).1 (Nat.lt_of_le_of_lt h2 h1)
theorem half_pow {a k n:Nat} (h:a*2 ^ k=n) (ha:a % 2=0):a / 2*2 ^ (k+1)=n:=by
 rw [Nat.pow_succ',← Nat.mul_assoc,Nat.div_mul_cancel (Nat.dvd_of_mod_eq_zero ha)];exact h
theorem le_of_pow {a k n:Nat} (h:a*2 ^ k=n):a≤n:=by
 rw [← h];exact Nat.le_mul_of_pos_right _ (Nat.two_pow_pos k)
theorem gcd_spec (a0 b0:Nat) (ha0:a0≠0) (hb0:b0≠0) (hla:(toW a0).length<2 ^ 37) (hlb:(toW b0).length<2 ^ 37) :
  Ctr TP G 77 [.d (W (toW a0)),.d (W (toW b0))] [] (.d (W (toW (Nat.gcd a0 b0)))) []:=by
 have le1:∀ {x},x≤a0→(toW x).length<2 ^ 37:=fun h=>Nat.lt_of_le_of_lt (toW_len_mono h) hla
 have le2:∀ {x},x≤max a0 b0→(toW x).length<2 ^ 37:=fun {x} h=>by
  rcases Nat.le_total a0 b0 with h2 | h2
  ·exact Nat.lt_of_le_of_lt (toW_len_mono (by omega:x≤b0)) hlb
  ·exact Nat.lt_of_le_of_lt (toW_len_mono (by omega:x≤a0)) hla
 refine Ctr.pure (M:=M0) hmix Tryz.func77 rfl go77 ?_
 simp (config:={maxSteps:=1000000}) (disch:=(try simp only [awL]);omega) only [Tryz.f77,↓awU,awV,awX,awF,↓reduceIte,↓reduceDIte,↓Qe,Qu,Qv,Qw,Qx,Qy,Qz,QA,QB,QC,QD,QE,QF,QG,QH,QI,QK]
 refine LoopC.fx 0 (α:=Nat × Nat × Nat) (β:=Nat × Nat × Nat) (fun x=>x.1) (fun x=>[(0,.d (W (toW x.1))),(1,.d (W (toW x.2.1))),(5,.d (.int .i64 x.2.2))])
  (fun _=>[]) (fun x=>x.1≠0∧x.2.1≠0∧x.1*2 ^ x.2.2=a0∧x.2.1*2 ^ x.2.2=b0)
  0 (fun x=>[(0,.d (W (toW x.1))),(1,.d (W (toW x.2.1))),(5,.d (.int .i64 x.2.2))]) (fun _=>[]) (fun x=>(x.1≠0∧x.2.1≠0∧x.1*2 ^ x.2.2=a0∧x.2.1*2 ^ x.2.2=b0)∧¬ (x.1 % 2=0∧x.2.1 % 2=0))
  (a0,b0,0) ⟨ha0,hb0,by simp,by simp⟩ ?_ ?_ ?_
 ·exact ⟨[],rfl,by simp,by simp [sA,kA,SW,AW],by simp [HW,BW,SW,AW]⟩
 ·rintro ⟨a,b,k⟩ hR
  have hR':=hR
  obtain ⟨ha,hb,hak,hbk⟩:=hR'
  simp only at ha hb hak hbk
  simp only [awK,Nat.reduceMod,Nat.reduceDiv,reduceIte]
  have l1:=low_bit ha
  have l2:=low_bit hb
  have p1:=sz_pos.2 ha
  have p2:=sz_pos.2 hb
  have q1:=le1 (le_of_pow hak)
  have q2:=le2 (show b≤max a0 b0 by have:=le_of_pow hbk;omega)
  have q3:=two_bound hak ha
  have m1:=Nat.mod_two_eq_zero_or_one a
  have m2:=Nat.mod_two_eq_zero_or_one b
  by_cases e1:a % 2=0
  ·by_cases e2:b % 2=0
   ·simp (config:={maxSteps:=1000000}) (disch:=(try simp only [awL]);omega) only [l1,l2,e1,e2,↓awU,awV,awX,awF,↓reduceIte,↓reduceDIte,↓Qe,Qu,Qv,Qw,Qx,Qy,Qz,QA,QB,QC,QD,QE,QF,QG,QH,QI,QK]
    refine CallC.pure (half_spec a (by omega)) ?_
    simp (config:={maxSteps:=1000000}) (disch:=(try simp only [awL]);omega) only [↓awU,awV,awX,awF,↓reduceIte,↓reduceDIte,↓Qe,Qu,Qv,Qw,Qx,Qy,Qz,QA,QB,QC,QD,QE,QF,QG,QH,QI,QK]
    refine CallC.pure (half_spec b (by omega)) ?_
    simp (config:={maxSteps:=1000000}) (disch:=(try simp only [awL]);omega) only [↓awU,awV,awX,awF,↓reduceIte,↓reduceDIte,↓Qe,Qu,Qv,Qw,Qx,Qy,Qz,QA,QB,QC,QD,QE,QF,QG,QH,QI,QK]
    exact ⟨(a / 2,b / 2,k+1),⟨by simp only;omega,by simp only;omega,half_pow hak e1,half_pow hbk e2⟩,by simp only;omega,⟨[],rfl,by simp,by simp [sA,kA,SW,AW],by simp [HW,BW,SW,AW]⟩⟩
   ·simp (config:={maxSteps:=1000000}) (disch:=(try simp only [awL]);omega) only [l1,l2,e1,e2,↓awU,awV,awX,awF,↓reduceIte,↓reduceDIte,↓Qe,Qu,Qv,Qw,Qx,Qy,Qz,QA,QB,QC,QD,QE,QF,QG,QH,QI,QK]
    exact ⟨(a,b,k),⟨hR,fun h=>e2 h.2⟩,⟨[],rfl,by simp,by simp [sA,kA,SW,AW],by simp [HW,BW,SW,AW]⟩⟩
  ·simp (config:={maxSteps:=1000000}) (disch:=(try simp only [awL]);omega) only [l1,l2,e1,↓awU,awV,awX,awF,↓reduceIte,↓reduceDIte,↓Qe,Qu,Qv,Qw,Qx,Qy,Qz,QA,QB,QC,QD,QE,QF,QG,QH,QI,QK]
   exact ⟨(a,b,k),⟨hR,fun h=>e1 h.1⟩,⟨[],rfl,by simp,by simp [sA,kA,SW,AW],by simp [HW,BW,SW,AW]⟩⟩
 ·rintro ⟨a1,b1,K⟩ ⟨⟨ha1,hb1,hak1,hbk1⟩,hodd⟩
  simp only at ha1 hb1 hak1 hbk1 hodd
  simp only [awK,Nat.reduceMod,Nat.reduceDiv,reduceIte]
  have hgo:=gcd_odd hodd
  have hgg:Nat.gcd a0 b0=Nat.gcd a1 b1*2 ^ K:=by rw [← hak1,← hbk1,Nat.gcd_mul_right]
  have hg0:Nat.gcd a1 b1≠0:=by omega
  have hKb:=two_bound hak1 ha1
  rw [hgg]
  have hgl:Nat.gcd a1 b1*2 ^ K≤a0:=by rw [← hgg];exact Nat.gcd_le_left _ (Nat.pos_of_ne_zero ha0)
  generalize Nat.gcd a0 b0=gg at *
  generalize hg:Nat.gcd a1 b1=g at *
  have ma1:a1≤max a0 b0:=by have:=le_of_pow hak1;omega
  have mb1:b1≤max a0 b0:=by have:=le_of_pow hbk1;omega
  simp (config:={maxSteps:=1000000}) (disch:=(try simp only [awL]);omega) only [↓awU,awV,awX,awF,↓reduceIte,↓reduceDIte,↓Qe,Qu,Qv,Qw,Qx,Qy,Qz,QA,QB,QC,QD,QE,QF,QG,QH,QI,QK]
  refine LoopC.fx 32 (α:=Nat × Nat) (β:=Unit) (fun x=>x.1+x.2) (fun x=>[(0,.d (W (toW x.1))),(1,.d (W (toW x.2)))])
   (fun _=>[]) (fun x=>x.1≠0∧x.1≤max a0 b0∧x.2≤max a0 b0∧Nat.gcd x.1 x.2=g)
   32 (fun _=>[(0,.d (W (toW g)))]) (fun _=>[]) (fun _=>True) (a1,b1) ⟨ha1,ma1,mb1,hg⟩ ?_ ?_ ?_
  ·exact ⟨[],rfl,by simp,by simp [sA,kA,SW,AW],by simp [HW,BW,SW,AW]⟩
  ·rintro ⟨a,b⟩ ⟨ha,hma,hmb,hgab⟩
   simp only at ha hma hmb hgab
   simp only [awK,Nat.reduceMod,Nat.reduceDiv,reduceIte]
   by_cases hb:b=0
   ·subst hb
    rw [Nat.gcd_zero_right] at hgab
    subst hgab
    have e:toW 0=[]:=toW_zero
    rw [e]
    simp (config:={maxSteps:=1000000}) (disch:=(try simp only [awL]);omega) only [↓awU,awV,awX,awF,↓reduceIte,↓reduceDIte,↓Qe,Qu,Qv,Qw,Qx,Qy,Qz,QA,QB,QC,QD,QE,QF,QG,QH,QI,QK]
    exact ⟨(),trivial,⟨[],rfl,by simp,by simp [sA,kA,SW,AW],by simp [HW,BW,SW,AW]⟩⟩
   ·have p2:=sz_pos.2 hb
    simp (config:={maxSteps:=1000000}) (disch:=(try simp only [awL]);omega) only [↓awU,awV,awX,awF,↓reduceIte,↓reduceDIte,↓Qe,Qu,Qv,Qw,Qx,Qy,Qz,QA,QB,QC,QD,QE,QF,QG,QH,QI,QK]
    refine LoopC.fx 34 (α:=Nat) (β:=Nat) (fun x=>x) (fun x=>[(0,.d (W (toW x)))])
     (fun _=>[]) (fun x=>x≠0∧x≤a∧Nat.gcd x b=g)
     34 (fun x=>[(0,.d (W (toW x)))]) (fun _=>[]) (fun x=>x≠0∧x≤a∧Nat.gcd x b=g∧x % 2=1) a ⟨ha,Nat.le_refl _,hgab⟩ ?_ ?_ ?_
    ·exact ⟨[],rfl,by simp,by simp [sA,kA,SW,AW],by simp [HW,BW,SW,AW]⟩
    ·rintro x ⟨hx,hxa,hxg⟩
     simp only [awK,Nat.reduceMod,Nat.reduceDiv,reduceIte]
     have l1:=low_bit hx
     have p1:=sz_pos.2 hx
     have q1:=le2 (show x≤max a0 b0 by omega)
     have m1:=Nat.mod_two_eq_zero_or_one x
     by_cases e1:x % 2=0
     ·simp (config:={maxSteps:=1000000}) (disch:=(try simp only [awL]);omega) only [l1,e1,↓awU,awV,awX,awF,↓reduceIte,↓reduceDIte,↓Qe,Qu,Qv,Qw,Qx,Qy,Qz,QA,QB,QC,QD,QE,QF,QG,QH,QI,QK]
      refine CallC.pure (half_spec x (by omega)) ?_
      simp (config:={maxSteps:=1000000}) (disch:=(try simp only [awL]);omega) only [↓awU,awV,awX,awF,↓reduceIte,↓reduceDIte,↓Qe,Qu,Qv,Qw,Qx,Qy,Qz,QA,QB,QC,QD,QE,QF,QG,QH,QI,QK]
      exact ⟨x / 2,⟨by omega,by omega,gcd_even hxg e1 hgo⟩,by simp only;omega,⟨[],rfl,by simp,by simp [sA,kA,SW,AW],by simp [HW,BW,SW,AW]⟩⟩
     ·simp (config:={maxSteps:=1000000}) (disch:=(try simp only [awL]);omega) only [l1,e1,↓awU,awV,awX,awF,↓reduceIte,↓reduceDIte,↓Qe,Qu,Qv,Qw,Qx,Qy,Qz,QA,QB,QC,QD,QE,QF,QG,QH,QI,QK]
      exact ⟨x,⟨hx,hxa,hxg,by omega⟩,⟨[],rfl,by simp,by simp [sA,kA,SW,AW],by simp [HW,BW,SW,AW]⟩⟩
    ·rintro a' ⟨ha',haa',hga',hoa⟩
     simp only [awK,Nat.reduceMod,Nat.reduceDiv,reduceIte]
     simp (config:={maxSteps:=1000000}) (disch:=(try simp only [awL]);omega) only [↓awU,awV,awX,awF,↓reduceIte,↓reduceDIte,↓Qe,Qu,Qv,Qw,Qx,Qy,Qz,QA,QB,QC,QD,QE,QF,QG,QH,QI,QK]
     refine LoopC.fx 33 (α:=Nat) (β:=Nat) (fun x=>x) (fun x=>[(1,.d (W (toW x)))])
      (fun _=>[]) (fun x=>x≠0∧x≤b∧Nat.gcd a' x=g)
      33 (fun x=>[(1,.d (W (toW x)))]) (fun _=>[]) (fun x=>x≠0∧x≤b∧Nat.gcd a' x=g) b ⟨hb,Nat.le_refl _,hga'⟩ ?_ ?_ ?_
     ·exact ⟨[],rfl,by simp,by simp [sA,kA,SW,AW],by simp [HW,BW,SW,AW]⟩
     ·rintro x ⟨hx,hxa,hxg⟩
      simp only [awK,Nat.reduceMod,Nat.reduceDiv,reduceIte]
      have l1:=low_bit hx
      have p1:=sz_pos.2 hx
      have q1:=le2 (show x≤max a0 b0 by omega)
      have m1:=Nat.mod_two_eq_zero_or_one x
      by_cases e1:x % 2=0
      ·simp (config:={maxSteps:=1000000}) (disch:=(try simp only [awL]);omega) only [l1,e1,↓awU,awV,awX,awF,↓reduceIte,↓reduceDIte,↓Qe,Qu,Qv,Qw,Qx,Qy,Qz,QA,QB,QC,QD,QE,QF,QG,QH,QI,QK]
       refine CallC.pure (half_spec x (by omega)) ?_
       simp (config:={maxSteps:=1000000}) (disch:=(try simp only [awL]);omega) only [↓awU,awV,awX,awF,↓reduceIte,↓reduceDIte,↓Qe,Qu,Qv,Qw,Qx,Qy,Qz,QA,QB,QC,QD,QE,QF,QG,QH,QI,QK]
       exact ⟨x / 2,⟨by omega,by omega,gcd_even' hxg e1 hgo⟩,by simp only;omega,⟨[],rfl,by simp,by simp [sA,kA,SW,AW],by simp [HW,BW,SW,AW]⟩⟩
      ·simp (config:={maxSteps:=1000000}) (disch:=(try simp only [awL]);omega) only [l1,e1,↓awU,awV,awX,awF,↓reduceIte,↓reduceDIte,↓Qe,Qu,Qv,Qw,Qx,Qy,Qz,QA,QB,QC,QD,QE,QF,QG,QH,QI,QK]
       exact ⟨x,⟨hx,hxa,hxg⟩,⟨[],rfl,by simp,by simp [sA,kA,SW,AW],by simp [HW,BW,SW,AW]⟩⟩
     ·rintro b' ⟨hb',hbb',hgb'⟩
      simp only [awK,Nat.reduceMod,Nat.reduceDiv,reduceIte]
      have q1:=le2 (show a'≤max a0 b0 by omega)
      have q2:=le2 (show b'≤max a0 b0 by omega)
      simp (config:={maxSteps:=1000000}) (disch:=(try simp only [awL]);omega) only [↓awU,awV,awX,awF,↓reduceIte,↓reduceDIte,↓Qe,Qu,Qv,Qw,Qx,Qy,Qz,QA,QB,QC,QD,QE,QF,QG,QH,QI,QK]
      refine CallC.pure (rcmp_spec a' b' (by omega) (by omega)) ?_
      by_cases hc:b'<a'
      ·have hci:cmpI (a':Int) b'=1:=cmpI_gt (by omega)
       simp (config:={maxSteps:=1000000}) (disch:=(try simp only [awL]);omega) only [hci,↓awU,awV,awX,awF,↓reduceIte,↓reduceDIte,↓Qe,Qu,Qv,Qw,Qx,Qy,Qz,QA,QB,QC,QD,QE,QF,QG,QH,QI,QK]
       refine CallC.pure (rsub_spec a' b' (by omega) (by omega)) ?_
       simp (config:={maxSteps:=1000000}) (disch:=(try simp only [awL]);omega) only [↓awU,awV,awX,awF,↓reduceIte,↓reduceDIte,↓Qe,Qu,Qv,Qw,Qx,Qy,Qz,QA,QB,QC,QD,QE,QF,QG,QH,QI,QK]
       exact ⟨(b',a' - b'),⟨hb',by simp only;omega,by simp only;omega,by simp only;rw [Nat.gcd_sub_self_right (by omega),Nat.gcd_comm];exact hgb'⟩,by simp only;omega,⟨[],rfl,by simp,by simp [sA,kA,SW,AW],by simp [HW,BW,SW,AW]⟩⟩
      ·have hci:¬ cmpI (a':Int) b' > 0:=by unfold cmpI;split<;>first | omega | (split<;>omega)
       simp (config:={maxSteps:=1000000}) (disch:=(try simp only [awL]);omega) only [hci,↓awU,awV,awX,awF,↓reduceIte,↓reduceDIte,↓Qe,Qu,Qv,Qw,Qx,Qy,Qz,QA,QB,QC,QD,QE,QF,QG,QH,QI,QK]
       refine CallC.pure (rsub_spec b' a' (by omega) (by omega)) ?_
       simp (config:={maxSteps:=1000000}) (disch:=(try simp only [awL]);omega) only [↓awU,awV,awX,awF,↓reduceIte,↓reduceDIte,↓Qe,Qu,Qv,Qw,Qx,Qy,Qz,QA,QB,QC,QD,QE,QF,QG,QH,QI,QK]
       exact ⟨(a',b' - a'),⟨ha',by simp only;omega,by simp only;omega,by simp only;rw [Nat.gcd_sub_self_right (by omega)];exact hgb'⟩,by simp only;omega,⟨[],rfl,by simp,by simp [sA,kA,SW,AW],by simp [HW,BW,SW,AW]⟩⟩
  ·rintro ⟨⟩ -
   simp only [awK,Nat.reduceMod,Nat.reduceDiv,reduceIte]
   simp (config:={maxSteps:=1000000}) (disch:=(try simp only [awL]);omega) only [↓awU,awV,awX,awF,↓reduceIte,↓reduceDIte,↓Qe,Qu,Qv,Qw,Qx,Qy,Qz,QA,QB,QC,QD,QE,QF,QG,QH,QI,QK]
   refine LoopC.fx 0 (α:=Nat × Nat) (β:=Unit) (fun x=>x.2) (fun x=>[(0,.d (W (toW x.1))),(5,.d (.int .i64 x.2))])
    (fun _=>[]) (fun x=>x.1*2 ^ x.2=g*2 ^ K∧x.2≤K) 0 (fun _=>[(0,.d (W (toW (g*2 ^ K))))]) (fun _=>[]) (fun _=>True) (g,K) ⟨rfl,Nat.le_refl _⟩ ?_ ?_ ?_
   ·exact ⟨[],rfl,by simp,by simp [sA,kA,SW,AW],by simp [HW,BW,SW,AW]⟩
   ·rintro ⟨x,k⟩ ⟨hx,hk⟩
    simp only at hx hk
    simp only [awK,Nat.reduceMod,Nat.reduceDiv,reduceIte]
    rcases k with _ | k
    ·rw [Nat.pow_zero,Nat.mul_one] at hx
     subst hx
     simp (config:={maxSteps:=1000000}) (disch:=(try simp only [awL]);omega) only [↓awU,awV,awX,awF,↓reduceIte,↓reduceDIte,↓Qe,Qu,Qv,Qw,Qx,Qy,Qz,QA,QB,QC,QD,QE,QF,QG,QH,QI,QK]
     exact ⟨(),trivial,⟨[],rfl,by simp,by simp [sA,kA,SW,AW],by simp [HW,BW,SW,AW]⟩⟩
    ·have q1:=le1 (Nat.le_trans (le_of_pow hx) hgl)
     simp (config:={maxSteps:=1000000}) (disch:=(try simp only [awL]);omega) only [↓awU,awV,awX,awF,↓reduceIte,↓reduceDIte,↓Qe,Qu,Qv,Qw,Qx,Qy,Qz,QA,QB,QC,QD,QE,QF,QG,QH,QI,QK]
     refine CallC.pure (twice_spec x 0 (by decide) (by omega)) ?_
     simp (config:={maxSteps:=1000000}) (disch:=(try simp only [awL]);omega) only [↓awU,awV,awX,awF,↓reduceIte,↓reduceDIte,↓Qe,Qu,Qv,Qw,Qx,Qy,Qz,QA,QB,QC,QD,QE,QF,QG,QH,QI,QK]
     refine ⟨(2*x,k),⟨?_,by simp only;omega⟩,Nat.lt_succ_self _,⟨[],rfl,by simp,by simp [sA,kA,SW,AW],by simp [HW,BW,SW,AW]⟩⟩
     rw [← hx,Nat.pow_succ']
     simp only
     rw [Nat.mul_comm 2 x,Nat.mul_assoc]
   ·rintro ⟨⟩ -
    simp only [awK,Nat.reduceMod,Nat.reduceDiv,reduceIte]
    simp (config:={maxSteps:=1000000}) (disch:=(try simp only [awL]);omega) only [↓awU,awV,awX,awF,↓reduceIte,↓reduceDIte,↓Qe,Qu,Qv,Qw,Qx,Qy,Qz,QA,QB,QC,QD,QE,QF,QG,QH,QI,QK]
theorem rminus_spec (n:Int) (hn:sz n<2 ^ 36):Ctr TP G 47 [.d (Big n)] [] (.d (Big (-n))) []:=by
 refine Ctr.pure (M:=M0) hmix Tryz.func47 rfl go47 ?_
 simp only [sz] at hn
 simp (config:={maxSteps:=1000000}) (disch:=(try simp only [awL]);omega) only [Tryz.f47,↓awU,awV,awX,awF,↓reduceIte,↓reduceDIte,↓Qe,Qu,Qv,Qw,Qx,Qy,Qz,QA,QB,QC,QD,QE,QF,QG,QH,QI,QK]
 refine CallC.pure (rbig_spec _ _ (dig_toW _) (by omega)) ?_
 rw [val_toW]
 have e:(if decide (¬ n<0)=true then -((n.natAbs:Nat):Int) else ((n.natAbs:Nat):Int))=-n:=by
  by_cases h:n<0
  ·simp [h];omega
  ·simp [h];omega
 rw [e]
 simp (config:={maxSteps:=1000000}) (disch:=(try simp only [awL]);omega) only [↓awU,awV,awX,awF,↓reduceIte,↓reduceDIte,↓Qe,Qu,Qv,Qw,Qx,Qy,Qz,QA,QB,QC,QD,QE,QF,QG,QH,QI,QK]
theorem rtimes_spec (a b:Int) (ha:sz a<2 ^ 36) (hb:sz b<2 ^ 36):Ctr TP G 46 [.d (Big a),.d (Big b)] [] (.d (Big (a*b))) []:=by
 refine Ctr.pure (M:=M0) hmix Tryz.func46 rfl go46 ?_
 simp only [sz] at ha hb
 have hl:=@times_len a.natAbs b.natAbs
 simp (config:={maxSteps:=1000000}) (disch:=(try simp only [awL]);omega) only [Tryz.f46,↓awU,awV,awX,awF,↓reduceIte,↓reduceDIte,↓Qe,Qu,Qv,Qw,Qx,Qy,Qz,QA,QB,QC,QD,QE,QF,QG,QH,QI,QK]
 refine CallC.pure (rmul_spec _ _ (by omega) (by omega)) ?_
 simp (config:={maxSteps:=1000000}) (disch:=(try simp only [awL]);omega) only [↓awU,awV,awX,awF,↓reduceIte,↓reduceDIte,↓Qe,Qu,Qv,Qw,Qx,Qy,Qz,QA,QB,QC,QD,QE,QF,QG,QH,QI,QK]
 refine CallC.pure (rbig_spec _ _ (dig_toW _) (by omega)) ?_
 rw [val_toW]
 have e:(if decide (¬ decide (a<0)=decide (b<0))=true then -((a.natAbs*b.natAbs:Nat):Int) else ((a.natAbs*b.natAbs:Nat):Int))=a*b:=by
  have ea:((a.natAbs:Nat):Int)=if a<0 then -a else a:=by split<;>omega
  have eb:((b.natAbs:Nat):Int)=if b<0 then -b else b:=by split<;>omega
  rw [Int.natCast_mul,ea,eb]
  by_cases ha':a<0<;>by_cases hb':b<0<;>simp [ha',hb',Int.neg_mul,Int.mul_neg]
 rw [e]
 simp (config:={maxSteps:=1000000}) (disch:=(try simp only [awL]);omega) only [↓awU,awV,awX,awF,↓reduceIte,↓reduceDIte,↓Qe,Qu,Qv,Qw,Qx,Qy,Qz,QA,QB,QC,QD,QE,QF,QG,QH,QI,QK]
 try rfl
theorem rplus_spec (a b:Int) (ha:sz a<2 ^ 36) (hb:sz b<2 ^ 36):Ctr TP G 45 [.d (Big a),.d (Big b)] [] (.d (Big (a+b))) []:=by
 have hpl:=@plus_len a.natAbs b.natAbs
 have ka:((a.natAbs:Nat):Int)=if a<0 then -a else a:=by split<;>omega
 have kb:((b.natAbs:Nat):Int)=if b<0 then -b else b:=by split<;>omega
 have hcmp:0≤cmpI (a.natAbs:Int) b.natAbs↔b.natAbs≤a.natAbs:=by
  unfold cmpI;split
  ·omega
  ·split<;>omega
 refine Ctr.pure (M:=M0) hmix Tryz.func45 rfl go45 ?_
 simp only [sz] at ha hb
 have hdl:=digs_length (max (toW a.natAbs).length (toW b.natAbs).length+1) (a.natAbs+b.natAbs)
 have hdv:val (digs (max (toW a.natAbs).length (toW b.natAbs).length+1) (a.natAbs+b.natAbs))=a.natAbs+b.natAbs:=val_digs (Nat.lt_of_lt_of_le (lt_of_toW _) (Nat.pow_le_pow_right (by decide) hpl))
 have hsub1:=toW_len_mono (Nat.sub_le a.natAbs b.natAbs)
 have hsub2:=toW_len_mono (Nat.sub_le b.natAbs a.natAbs)
 by_cases hs:decide (a<0)=decide (b<0)
 ·simp (config:={maxSteps:=1000000}) (disch:=(try simp only [awL]);omega) only [Tryz.f45,hs,↓awU,awV,awX,awF,↓reduceIte,↓reduceDIte,↓Qe,Qu,Qv,Qw,Qx,Qy,Qz,QA,QB,QC,QD,QE,QF,QG,QH,QI,QK]
  refine CallC.pure (radd_spec _ _ (by omega) (by omega)) ?_
  simp (config:={maxSteps:=1000000}) (disch:=(try simp only [awL]);omega) only [hs,↓awU,awV,awX,awF,↓reduceIte,↓reduceDIte,↓Qe,Qu,Qv,Qw,Qx,Qy,Qz,QA,QB,QC,QD,QE,QF,QG,QH,QI,QK]
  refine CallC.pure (rbig_spec _ _ (dig_digs _ _) (by omega)) ?_
  rw [hdv]
  have e:(if decide (b<0)=true then -((a.natAbs+b.natAbs:Nat):Int) else ((a.natAbs+b.natAbs:Nat):Int))=a+b:=by
   have hs':=decide_eq_decide.1 hs
   rw [Int.natCast_add,ka,kb]
   by_cases hb':b<0<;>simp [hs',hb']<;>omega
  rw [e]
  simp (config:={maxSteps:=1000000}) (disch:=(try simp only [awL]);omega) only [↓awU,awV,awX,awF,↓reduceIte,↓reduceDIte,↓Qe,Qu,Qv,Qw,Qx,Qy,Qz,QA,QB,QC,QD,QE,QF,QG,QH,QI,QK]
  try rfl
 ·simp (config:={maxSteps:=1000000}) (disch:=(try simp only [awL]);omega) only [Tryz.f45,hs,↓awU,awV,awX,awF,↓reduceIte,↓reduceDIte,↓Qe,Qu,Qv,Qw,Qx,Qy,Qz,QA,QB,QC,QD,QE,QF,QG,QH,QI,QK]
  refine CallC.pure (rcmp_spec _ _ (by omega) (by omega)) ?_
  have hsg:¬ (a<0)∨¬ (b<0):=by
   by_cases h1:a<0
   ·right;intro h2;exact hs (by simp [h1,h2])
   ·left;exact h1
  have hsg2:a<0∨b<0:=by
   by_cases h1:a<0
   ·left;exact h1
   ·right
    by_cases h2:b<0
    ·exact h2
    ·exact absurd (by simp [h1,h2]) hs
  by_cases h:b.natAbs≤a.natAbs
  ·have h':=hcmp.2 h
   simp (config:={maxSteps:=1000000}) (disch:=(try simp only [awL]);omega) only [h',↓awU,awV,awX,awF,↓reduceIte,↓reduceDIte,↓Qe,Qu,Qv,Qw,Qx,Qy,Qz,QA,QB,QC,QD,QE,QF,QG,QH,QI,QK]
   refine CallC.pure (rsub_spec _ _ h (by omega)) ?_
   simp (config:={maxSteps:=1000000}) (disch:=(try simp only [awL]);omega) only [↓awU,awV,awX,awF,↓reduceIte,↓reduceDIte,↓Qe,Qu,Qv,Qw,Qx,Qy,Qz,QA,QB,QC,QD,QE,QF,QG,QH,QI,QK]
   refine CallC.pure (rbig_spec _ _ (dig_toW _) (by omega)) ?_
   rw [val_toW]
   have e:(if decide (a<0)=true then -((a.natAbs - b.natAbs:Nat):Int) else ((a.natAbs - b.natAbs:Nat):Int))=a+b:=by
    by_cases h1:a<0
    ·simp only [h1,decide_true,if_true];omega
    ·simp only [h1,decide_false,Bool.false_eq_true,if_false];omega
   rw [e]
   simp (config:={maxSteps:=1000000}) (disch:=(try simp only [awL]);omega) only [↓awU,awV,awX,awF,↓reduceIte,↓reduceDIte,↓Qe,Qu,Qv,Qw,Qx,Qy,Qz,QA,QB,QC,QD,QE,QF,QG,QH,QI,QK]
   try rfl
  ·have h':¬ 0≤cmpI (a.natAbs:Int) b.natAbs:=fun h2=>h (hcmp.1 h2)
   simp (config:={maxSteps:=1000000}) (disch:=(try simp only [awL]);omega) only [h',↓awU,awV,awX,awF,↓reduceIte,↓reduceDIte,↓Qe,Qu,Qv,Qw,Qx,Qy,Qz,QA,QB,QC,QD,QE,QF,QG,QH,QI,QK]
   refine CallC.pure (rsub_spec _ _ (by omega) (by omega)) ?_
   simp (config:={maxSteps:=1000000}) (disch:=(try simp only [awL]);omega) only [↓awU,awV,awX,awF,↓reduceIte,↓reduceDIte,↓Qe,Qu,Qv,Qw,Qx,Qy,Qz,QA,QB,QC,QD,QE,QF,QG,QH,QI,QK]
   refine CallC.pure (rbig_spec _ _ (dig_toW _) (by omega)) ?_
   rw [val_toW]
   have e:(if decide (b<0)=true then -((b.natAbs - a.natAbs:Nat):Int) else ((b.natAbs - a.natAbs:Nat):Int))=a+b:=by
    by_cases h1:b<0
    ·simp only [h1,decide_true,if_true];omega
    ·simp only [h1,decide_false,Bool.false_eq_true,if_false];omega
   rw [e]
   simp (config:={maxSteps:=1000000}) (disch:=(try simp only [awL]);omega) only [↓awU,awV,awX,awF,↓reduceIte,↓reduceDIte,↓Qe,Qu,Qv,Qw,Qx,Qy,Qz,QA,QB,QC,QD,QE,QF,QG,QH,QI,QK]
   try rfl
theorem rlowest_spec (n d:Int) (hd:d≠0) (hn:sz n<2 ^ 36) (hds:sz d<2 ^ 36):Ctr TP G 89 [.d (Big n),.d (Big d)] [] (.d (Frac (Rat.divInt n d))) []:=by
 simp only [sz] at hn hds
 have hg0:Nat.gcd n.natAbs d.natAbs≠0:=by
  intro h;exact hd (Int.natAbs_eq_zero.1 (Nat.gcd_eq_zero_iff.1 h).2)
 have hgl:(toW (Nat.gcd n.natAbs d.natAbs)).length≤(toW d.natAbs).length:=toW_len_mono (Nat.gcd_le_right _ (by omega))
 have hx:=@div_len n.natAbs (Nat.gcd n.natAbs d.natAbs)
 have hy:=@div_len d.natAbs (Nat.gcd n.natAbs d.natAbs)
 have e1:(Rat.divInt n d).num=if ¬ decide (n<0)=decide (d<0) then -((n.natAbs / Nat.gcd n.natAbs d.natAbs:Nat):Int) else ((n.natAbs / Nat.gcd n.natAbs d.natAbs:Nat):Int):=by
  rw [Rat.num_divInt,sign_mul hd,Int.gcd,Nat.gcd_comm d.natAbs]
  split
  ·exact neg_div (Nat.gcd_dvd_left _ _)
  ·rfl
 have e2:(Rat.divInt n d).den=d.natAbs / Nat.gcd n.natAbs d.natAbs:=by
  rw [Rat.den_divInt,if_neg hd,Int.gcd,Nat.gcd_comm d.natAbs]
 refine Ctr.pure (M:=M0) hmix Tryz.func89 rfl go89 ?_
 by_cases h0:n=0
 ·subst h0
  have hF:Frac (Rat.divInt 0 d)=Frac 0:=by rw [Rat.zero_divInt]
  have e:toW (0:Int).natAbs=[]:=toW_zero
  rw [hF]
  simp only [Big,bigL,e]
  simp (config:={maxSteps:=1000000}) (disch:=(try simp only [awL]);omega) only [Tryz.f89,↓awU,awV,awX,awF,↓reduceIte,↓reduceDIte,↓Qe,Qu,Qv,Qw,Qx,Qy,Qz,QA,QB,QC,QD,QE,QF,QG,QH,QI,QK]
  refine CallC.pure (rfromInt_spec 1 (by decide) (by decide)) ?_
  have e1:(0:Rat).num=0:=rfl
  have e2:(0:Rat).den=1:=rfl
  have e3:(0:Int).natAbs=0:=rfl
  have e4:(1:Int).natAbs=1:=rfl
  simp (config:={maxSteps:=1000000}) (disch:=(try simp only [awL]);omega) only [e1,e2,e3,e4,toW_zero,toW_one,↓awU,awV,awX,awF,↓reduceIte,↓reduceDIte,↓Qe,Qu,Qv,Qw,Qx,Qy,Qz,QA,QB,QC,QD,QE,QF,QG,QH,QI,QK]
  simp only [Frac,W,e1,e2,e3,toW_zero,toW_one]
  rfl
 ·have hnz:n.natAbs≠0:=by omega
  have e0:=sz_pos.2 hnz
  simp (config:={maxSteps:=1000000}) (disch:=(try simp only [awL]);omega) only [Tryz.f89,↓awU,awV,awX,awF,↓reduceIte,↓reduceDIte,↓Qe,Qu,Qv,Qw,Qx,Qy,Qz,QA,QB,QC,QD,QE,QF,QG,QH,QI,QK]
  refine CallC.pure (gcd_spec _ _ hnz (by omega) (by omega) (by omega)) ?_
  generalize Nat.gcd n.natAbs d.natAbs=g at *
  simp (config:={maxSteps:=1000000}) (disch:=(try simp only [awL]);omega) only [↓awU,awV,awX,awF,↓reduceIte,↓reduceDIte,↓Qe,Qu,Qv,Qw,Qx,Qy,Qz,QA,QB,QC,QD,QE,QF,QG,QH,QI,QK]
  refine CallC.pure (div_spec _ g hg0 (by omega) (by omega)) ?_
  simp (config:={maxSteps:=1000000}) (disch:=(try simp only [awL]);omega) only [↓awU,awV,awX,awF,↓reduceIte,↓reduceDIte,↓Qe,Qu,Qv,Qw,Qx,Qy,Qz,QA,QB,QC,QD,QE,QF,QG,QH,QI,QK]
  refine CallC.pure (div_spec _ g hg0 (by omega) (by omega)) ?_
  simp (config:={maxSteps:=1000000}) (disch:=(try simp only [awL]);omega) only [↓awU,awV,awX,awF,↓reduceIte,↓reduceDIte,↓Qe,Qu,Qv,Qw,Qx,Qy,Qz,QA,QB,QC,QD,QE,QF,QG,QH,QI,QK]
  refine CallC.pure (rbig_spec _ _ (dig_toW _) (by omega)) ?_
  simp (config:={maxSteps:=1000000}) (disch:=(try simp only [awL]);omega) only [↓awU,awV,awX,awF,↓reduceIte,↓reduceDIte,↓Qe,Qu,Qv,Qw,Qx,Qy,Qz,QA,QB,QC,QD,QE,QF,QG,QH,QI,QK]
  refine CallC.pure (rbig_spec false _ (dig_toW _) (by omega)) ?_
  simp only [Frac]
  rw [e1,e2,val_toW,val_toW]
  simp (config:={maxSteps:=1000000}) (disch:=(try simp only [awL]);omega) only [↓awU,awV,awX,awF,↓reduceIte,↓reduceDIte,↓Qe,Qu,Qv,Qw,Qx,Qy,Qz,QA,QB,QC,QD,QE,QF,QG,QH,QI,QK]
theorem rmake_spec (a b:Int) (ha:sz a≤256) (hb:sz b≤256):Ctr TP G 90 [.d (Big a),.d (Big b)] [] (.d (.tup [if b=0 then Zf else Frac (Rat.divInt a b),.int .i64 (if b=0 then 8 else 0)])) []:=by
 refine Ctr.pure (M:=M0) hmix Tryz.func90 rfl go90 ?_
 simp (config:={maxSteps:=1000000}) (disch:=(try simp only [awL]);omega) only [Tryz.f90,↓awU,awV,awX,awF,↓reduceIte,↓reduceDIte,↓Qe,Qu,Qv,Qw,Qx,Qy,Qz,QA,QB,QC,QD,QE,QF,QG,QH,QI,QK]
 refine CallC.pure (rvalidBig_spec a) ?_
 rw [decide_eq_true ha]
 simp (config:={maxSteps:=1000000}) (disch:=(try simp only [awL]);omega) only [↓awU,awV,awX,awF,↓reduceIte,↓reduceDIte,↓Qe,Qu,Qv,Qw,Qx,Qy,Qz,QA,QB,QC,QD,QE,QF,QG,QH,QI,QK]
 refine CallC.pure (rvalidBig_spec b) ?_
 rw [decide_eq_true hb]
 simp only [sz] at ha hb
 by_cases h0:b=0
 ·subst h0
  have e:(toW (0:Int).natAbs).length=0:=by rw [show (0:Int).natAbs=0 from rfl,toW_zero];rfl
  rw [if_pos rfl,if_pos rfl]
  simp (config:={maxSteps:=1000000}) (disch:=(try simp only [awL]);omega) only [e,↓awU,awV,awX,awF,↓reduceIte,↓reduceDIte,↓Qe,Qu,Qv,Qw,Qx,Qy,Qz,QA,QB,QC,QD,QE,QF,QG,QH,QI,QK]
 ·have e:=(@sz_pos b.natAbs).2 (by omega)
  rw [if_neg h0,if_neg h0]
  simp (config:={maxSteps:=1000000}) (disch:=(try simp only [awL]);omega) only [↓awU,awV,awX,awF,↓reduceIte,↓reduceDIte,↓Qe,Qu,Qv,Qw,Qx,Qy,Qz,QA,QB,QC,QD,QE,QF,QG,QH,QI,QK]
  refine CallC.pure (rlowest_spec a b h0 (by simp only [sz];omega) (by simp only [sz];omega)) ?_
  simp (config:={maxSteps:=1000000}) (disch:=(try simp only [awL]);omega) only [↓awU,awV,awX,awF,↓reduceIte,↓reduceDIte,↓Qe,Qu,Qv,Qw,Qx,Qy,Qz,QA,QB,QC,QD,QE,QF,QG,QH,QI,QK]
theorem rof_spec (a b:Int) (h1:-9223372036854775808≤a) (h2:a≤9223372036854775807) (h3:-9223372036854775808≤b) (h4:b≤9223372036854775807) :
  Ctr TP G 62 [.d (.int .i64 a),.d (.int .i64 b)] [] (.d (.tup [if b=0 then Zf else Frac (Rat.divInt a b),.int .i64 (if b=0 then 8 else 0)])) []:=by
 have ka:=sz_int h1 h2
 have kb:=sz_int h3 h4
 refine Ctr.pure (M:=M0) hmix Tryz.func62 rfl go62 ?_
 simp (config:={maxSteps:=1000000}) (disch:=(try simp only [awL]);omega) only [Tryz.f62,↓awU,awV,awX,awF,↓reduceIte,↓reduceDIte,↓Qe,Qu,Qv,Qw,Qx,Qy,Qz,QA,QB,QC,QD,QE,QF,QG,QH,QI,QK]
 refine CallC.pure (rfromInt_spec a h1 h2) ?_
 simp (config:={maxSteps:=1000000}) (disch:=(try simp only [awL]);omega) only [↓awU,awV,awX,awF,↓reduceIte,↓reduceDIte,↓Qe,Qu,Qv,Qw,Qx,Qy,Qz,QA,QB,QC,QD,QE,QF,QG,QH,QI,QK]
 refine CallC.pure (rfromInt_spec b h3 h4) ?_
 simp (config:={maxSteps:=1000000}) (disch:=(try simp only [awL]);omega) only [↓awU,awV,awX,awF,↓reduceIte,↓reduceDIte,↓Qe,Qu,Qv,Qw,Qx,Qy,Qz,QA,QB,QC,QD,QE,QF,QG,QH,QI,QK]
 refine CallC.pure (rmake_spec a b (by omega) (by omega)) ?_
 by_cases h0:b=0
 ·rw [if_pos h0,if_pos h0]
  simp (config:={maxSteps:=1000000}) (disch:=(try simp only [awL]);omega) only [↓awU,awV,awX,awF,↓reduceIte,↓reduceDIte,↓Qe,Qu,Qv,Qw,Qx,Qy,Qz,QA,QB,QC,QD,QE,QF,QG,QH,QI,QK]
 ·rw [if_neg h0,if_neg h0]
  simp (config:={maxSteps:=1000000}) (disch:=(try simp only [awL]);omega) only [↓awU,awV,awX,awF,↓reduceIte,↓reduceDIte,↓Qe,Qu,Qv,Qw,Qx,Qy,Qz,QA,QB,QC,QD,QE,QF,QG,QH,QI,QK]
theorem nums_lt {l:List UInt8} (h:∀ b∈l,isD b) {i:Nat} (hi:i<l.length):48≤(l.getD i 0).toNat∧(l.getD i 0).toNat≤57:=h _ (mem_getDU hi)
theorem rdecimal_spec (s:List UInt8) (hs:s.length≤9223372036854775807):Ctr TP G 61 [.d (S s)] [] (.d (.tup [if decOk s=true then Frac (decVal s) else Zf,.bool (decOk s)])) []:=by
 refine Ctr.pure (M:=M0) hmix Tryz.func61 rfl go61 ?_
 simp (config:={maxSteps:=1000000}) (disch:=(try simp only [awL]);omega) only [awS,Tryz.f61,↓awU,awV,awX,awF,↓reduceIte,↓reduceDIte,↓Qe,Qu,Qv,Qw,Qx,Qy,Qz,QA,QB,QC,QD,QE,QF,QG,QH,QI,QK]
 refine CallC.pure (rparts_spec s hs) ?_
 have hok:decOk s=okB (decBody s):=rfl
 have f1:cutL 46 (decBody s)=decF s:=rfl
 have f2:cutR 46 (decBody s)=decB s:=rfl
 have hdv:decVal s=Rat.divInt (if decNeg s then -(decNum (decF s++decB s):Int) else (decNum (decF s++decB s):Int)) ((10 ^ (decB s).length:Nat):Int):=rfl
 unfold partsD
 rw [f1,f2,← hok]
 cases ho:decOk s
 ·simp (config:={maxSteps:=1000000}) (disch:=(try simp only [awL]);omega) only [awS,↓awU,awV,awX,awF,↓reduceIte,↓reduceDIte,↓Qe,Qu,Qv,Qw,Qx,Qy,Qz,QA,QB,QC,QD,QE,QF,QG,QH,QI,QK]
  first | done | rfl
 ·obtain ⟨hall,hlen,hlb⟩:=decOk_facts ho
  have hsm:∀ i,i≤(decF s++decB s).length→(toW (decNum ((decF s++decB s).take i))).length≤30:=fun i hi=>by
   have h:=decNum_lt (l:=(decF s++decB s).take i) fun b hb=>hall b (List.mem_of_mem_take hb)
   exact sz_small (Nat.lt_of_lt_of_le h (Nat.pow_le_pow_right (by decide) (by rw [List.length_take];omega)))
  have hlt:∀ i,i≤(decF s++decB s).length→decNum ((decF s++decB s).take i)*10<10 ^ 30:=fun i hi=>by
   have h:=decNum_lt (l:=(decF s++decB s).take i) fun b hb=>hall b (List.mem_of_mem_take hb)
   have h2:10 ^ ((decF s++decB s).take i).length≤10 ^ 29:=Nat.pow_le_pow_right (by decide) (by rw [List.length_take];omega)
   have h3:(10:Nat) ^ 30=10 ^ 29*10:=rfl
   omega
  have hpl:∀ b∈decB s,isD b:=fun b hb=>isD_iff.1 (hall b (List.mem_append_right _ hb))
  have hfl:(decF s).length≤24:=by rw [List.length_append] at hlen;omega
  have hall':∀ b∈decF s++decB s,isD b:=fun b hb=>isD_iff.1 (hall b hb)
  generalize decNeg s=neg at *
  generalize hL:decF s++decB s=L at *
  generalize decB s=Bk at *
  simp (config:={maxSteps:=1000000}) (disch:=(try simp only [awL]);omega) only [awS,hL,↓awU,awV,awX,awF,↓reduceIte,↓reduceDIte,↓Qe,Qu,Qv,Qw,Qx,Qy,Qz,QA,QB,QC,QD,QE,QF,QG,QH,QI,QK]
  first
  | refine CallC.of (rfromInt_spec 1 (by decide) (by decide)) (by rfl) ?_
  | refine ⟨by rfl,CallC.of (rfromInt_spec 1 (by decide) (by decide)) (by rfl) ?_⟩
  simp (config:={maxSteps:=1000000}) (disch:=(try simp only [awL]);omega) only [awS,hL,bigL,cells_nums,↓awU,awV,awX,awF,↓reduceIte,↓reduceDIte,↓Qe,Qu,Qv,Qw,Qx,Qy,Qz,QA,QB,QC,QD,QE,QF,QG,QH,QI,QK]
  refine LoopC.fr 402654036 (α:=Nat) (fun i=>L.length - i) (fun i=>[(29,.d (.int .i64 i))])
   (fun i=>[.box [.d (.bool false),.d (.sl 0 true []),.d (.bool false),.d (.sl 0 true [])],.box [.d (.bool false),.d (W (toW (decNum (L.take i))))],.box [.d (.bool false),.d (W (toW 1))],.row false (ints .u8 (nums L))]) (fun i=>i≤L.length) 0 (Nat.zero_le _) ?_ ?_
  ·exact ⟨[some 0,some 1,some 2,some 3],rfl,by simp,by simp [sA,kA,SW,AW],by simp [HW,BW,SW,AW,decNum,toW_zero,nats]⟩
  ·intro i hi
   have lt:=hsm i hi
   have nl:=@nums_length L
   simp only [awK,Nat.reduceMod,Nat.reduceDiv,reduceIte]
   rcases Nat.lt_or_ge i L.length with h1 | h1
   ·obtain ⟨hb1,hb2⟩:=nums_lt hall' h1
    have hp:=decNum_push h1
    have ls:=sz_small (n:=(L.getD i 0).toNat - 48) (k:=2) (by omega)
    have e48:((L.getD i 0).toNat:Int) - 48=(((L.getD i 0).toNat - 48:Nat):Int):=by omega
    have lm:(toW (decNum (L.take i)*10)).length≤40:=sz_small (Nat.lt_of_lt_of_le (hlt i hi) (by decide))
    have sz1:sz (decNum (L.take i):Int)≤30:=by simp only [sz,Int.natAbs_natCast];exact lt
    have sz2:sz ((decNum (L.take i):Int)*10)≤40:=by
     rw [show ((decNum (L.take i):Int)*10)=((decNum (L.take i)*10:Nat):Int) by omega];simp only [sz,Int.natAbs_natCast];exact lm
    have sz3:sz ((((L.getD i 0).toNat - 48:Nat):Int))≤2:=by simp only [sz,Int.natAbs_natCast];exact ls
    have sz4:sz (10:Int)≤2:=sz_int (by decide) (by decide)
    have hsum:(decNum (L.take i):Int)*10+(((L.getD i 0).toNat - 48:Nat):Int)=(decNum (L.take (i+1)):Int):=by rw [← hp];omega
    simp (config:={maxSteps:=1000000}) (disch:=(try simp only [awL]);omega) only [awS,nl,↓awU,awV,awX,awF,↓reduceIte,↓reduceDIte,↓Qe,Qu,Qv,Qw,Qx,Qy,Qz,QA,QB,QC,QD,QE,QF,QG,QH,QI,QK]
    first
    | refine CallC.of (rfromInt_spec 10 (by decide) (by decide)) (by rfl) ?_
    | refine ⟨by rfl,CallC.of (rfromInt_spec 10 (by decide) (by decide)) (by rfl) ?_⟩
    simp (config:={maxSteps:=1000000}) (disch:=(try simp only [awL]);omega) only [awS,nl,↓awU,awV,awX,awF,↓reduceIte,↓reduceDIte,↓Qe,Qu,Qv,Qw,Qx,Qy,Qz,QA,QB,QC,QD,QE,QF,QG,QH,QI,QK]
    first
    | refine CallC.of (rtimes_spec (decNum (L.take i):Int) 10 (by omega) (by omega)) (by (try simp only [Big_nat]);try rfl) ?_
    | refine ⟨by rfl,CallC.of (rtimes_spec (decNum (L.take i):Int) 10 (by omega) (by omega)) (by (try simp only [Big_nat]);try rfl) ?_⟩
    simp (config:={maxSteps:=1000000}) (disch:=(try simp only [awL]);omega) only [awS,nl,e48,↓awU,awV,awX,awF,↓reduceIte,↓reduceDIte,↓Qe,Qu,Qv,Qw,Qx,Qy,Qz,QA,QB,QC,QD,QE,QF,QG,QH,QI,QK]
    first
    | refine CallC.of (rfromInt_spec (((L.getD i 0).toNat - 48:Nat):Int) (by omega) (by omega)) (by rfl) ?_
    | refine ⟨by rfl,CallC.of (rfromInt_spec (((L.getD i 0).toNat - 48:Nat):Int) (by omega) (by omega)) (by rfl) ?_⟩
    simp (config:={maxSteps:=1000000}) (disch:=(try simp only [awL]);omega) only [awS,nl,e48,↓awU,awV,awX,awF,↓reduceIte,↓reduceDIte,↓Qe,Qu,Qv,Qw,Qx,Qy,Qz,QA,QB,QC,QD,QE,QF,QG,QH,QI,QK]
    first
    | refine CallC.of (rplus_spec ((decNum (L.take i):Int)*10) (((L.getD i 0).toNat - 48:Nat):Int) (by omega) (by omega)) (by rfl) ?_
    | refine ⟨by rfl,CallC.of (rplus_spec ((decNum (L.take i):Int)*10) (((L.getD i 0).toNat - 48:Nat):Int) (by omega) (by omega)) (by rfl) ?_⟩
    rw [hsum,Big_nat]
    simp (config:={maxSteps:=1000000}) (disch:=(try simp only [awL]);omega) only [awS,nl,↓awU,awV,awX,awF,↓reduceIte,↓reduceDIte,↓Qe,Qu,Qv,Qw,Qx,Qy,Qz,QA,QB,QC,QD,QE,QF,QG,QH,QI,QK]
    exact ⟨by rfl,i+1,h1,by simp only;omega,⟨[some 0,some 1,some 2,some 3],rfl,by simp,by simp [sA,kA,SW,AW],by simp [HW,BW,SW,AW]⟩⟩
   ·obtain rfl:i=L.length:=by omega
    rw [List.take_length] at *
    simp (config:={maxSteps:=1000000}) (disch:=(try simp only [awL]);omega) only [awS,nl,↓awU,awV,awX,awF,↓reduceIte,↓reduceDIte,↓Qe,Qu,Qv,Qw,Qx,Qy,Qz,QA,QB,QC,QD,QE,QF,QG,QH,QI,QK]
    refine LoopC.fr 8796093022996 (α:=Nat) (fun j=>Bk.length - j) (fun j=>[])
     (fun j=>[.box [.d (.bool false),.d (.sl 0 true []),.d (.bool false),.d (.sl 0 true [])],.box [.d (.bool false),.d (W (toW (decNum L)))],.box [.d (.bool false),.d (W (toW (10 ^ j)))],.row false (ints .u8 (nums L)),.iter (bs Bk) j]) (fun j=>j≤Bk.length) 0 (Nat.zero_le _) ?_ ?_
    ·exact ⟨[some 0,some 1,some 2,some 3,some 4],rfl,by simp,by simp [sA,kA,SW,AW],by simp [HW,BW,SW,AW]⟩
    ·intro j hj
     have lj:(toW (10 ^ j)).length≤10:=sz_small (Nat.pow_lt_pow_right (by decide) (by omega))
     have szj:sz ((10 ^ j:Nat):Int)≤10:=by simp only [sz,Int.natAbs_natCast];exact lj
     have sz4:sz (10:Int)≤2:=sz_int (by decide) (by decide)
     simp only [awK,Nat.reduceMod,Nat.reduceDiv,reduceIte]
     rcases Nat.lt_or_ge j Bk.length with h2 | h2
     ·obtain ⟨hb1,hb2⟩:=nums_lt hpl h2
      have hdec:=dec_ascii h2 (by omega)
      have hmul:((10 ^ j:Nat):Int)*10=((10 ^ (j+1):Nat):Int):=by rw [Nat.pow_succ];omega
      simp (config:={maxSteps:=1000000}) (disch:=(try simp only [awL]);omega) only [awS,hdec,↓awU,awV,awX,awF,↓reduceIte,↓reduceDIte,↓Qe,Qu,Qv,Qw,Qx,Qy,Qz,QA,QB,QC,QD,QE,QF,QG,QH,QI,QK]
      first
      | refine CallC.of (rfromInt_spec 10 (by decide) (by decide)) (by rfl) ?_
      | refine ⟨by rfl,CallC.of (rfromInt_spec 10 (by decide) (by decide)) (by rfl) ?_⟩
      simp (config:={maxSteps:=1000000}) (disch:=(try simp only [awL]);omega) only [awS,↓awU,awV,awX,awF,↓reduceIte,↓reduceDIte,↓Qe,Qu,Qv,Qw,Qx,Qy,Qz,QA,QB,QC,QD,QE,QF,QG,QH,QI,QK]
      first
      | refine CallC.of (rtimes_spec ((10 ^ j:Nat):Int) 10 (by omega) (by omega)) (by (try simp only [Big_nat]);try rfl) ?_
      | refine ⟨by rfl,CallC.of (rtimes_spec ((10 ^ j:Nat):Int) 10 (by omega) (by omega)) (by (try simp only [Big_nat]);try rfl) ?_⟩
      rw [hmul,Big_nat]
      simp (config:={maxSteps:=1000000}) (disch:=(try simp only [awL]);omega) only [awS,↓awU,awV,awX,awF,↓reduceIte,↓reduceDIte,↓Qe,Qu,Qv,Qw,Qx,Qy,Qz,QA,QB,QC,QD,QE,QF,QG,QH,QI,QK]
      exact ⟨by rfl,j+1,h2,by simp only;omega,⟨[some 0,some 1,some 2,some 3,some 4],rfl,by simp,by simp [sA,kA,SW,AW],by simp [HW,BW,SW,AW]⟩⟩
     ·obtain rfl:j=Bk.length:=by omega
      have hd0:((10 ^ Bk.length:Nat):Int)≠0:=by
       have:0<10 ^ Bk.length:=Nat.pow_pos (by decide)
       omega
      have szv:sz (decNum L:Int)≤30:=by simp only [sz,Int.natAbs_natCast];exact lt
      have szm:sz (-(decNum L:Int))≤30:=by simp only [sz,Int.natAbs_neg,Int.natAbs_natCast];exact lt
      cases neg
      ·rw [if_neg Bool.false_ne_true] at hdv
       simp (config:={maxSteps:=1000000}) (disch:=(try simp only [awL]);omega) only [awS,↓awU,awV,awX,awF,↓reduceIte,↓reduceDIte,↓Qe,Qu,Qv,Qw,Qx,Qy,Qz,QA,QB,QC,QD,QE,QF,QG,QH,QI,QK]
       first
       | refine CallC.of (rlowest_spec (decNum L:Int) ((10 ^ Bk.length:Nat):Int) hd0 (by omega) (by omega)) (by (try simp only [Big_nat]);try rfl) ?_
       | refine ⟨by rfl,CallC.of (rlowest_spec (decNum L:Int) ((10 ^ Bk.length:Nat):Int) hd0 (by omega) (by omega)) (by (try simp only [Big_nat]);try rfl) ?_⟩
       rw [← hdv]
       simp (config:={maxSteps:=1000000}) (disch:=(try simp only [awL]);omega) only [awS,↓awU,awV,awX,awF,↓reduceIte,↓reduceDIte,↓Qe,Qu,Qv,Qw,Qx,Qy,Qz,QA,QB,QC,QD,QE,QF,QG,QH,QI,QK]
       first | done | rfl
      ·rw [if_pos rfl] at hdv
       simp (config:={maxSteps:=1000000}) (disch:=(try simp only [awL]);omega) only [awS,↓awU,awV,awX,awF,↓reduceIte,↓reduceDIte,↓Qe,Qu,Qv,Qw,Qx,Qy,Qz,QA,QB,QC,QD,QE,QF,QG,QH,QI,QK]
       first
       | refine CallC.of (rminus_spec (decNum L:Int) (by omega)) (by (try simp only [Big_nat]);try rfl) ?_
       | refine ⟨by rfl,CallC.of (rminus_spec (decNum L:Int) (by omega)) (by (try simp only [Big_nat]);try rfl) ?_⟩
       simp (config:={maxSteps:=1000000}) (disch:=(try simp only [awL]);omega) only [awS,↓awU,awV,awX,awF,↓reduceIte,↓reduceDIte,↓Qe,Qu,Qv,Qw,Qx,Qy,Qz,QA,QB,QC,QD,QE,QF,QG,QH,QI,QK]
       first
       | refine CallC.of (rlowest_spec (-(decNum L:Int)) ((10 ^ Bk.length:Nat):Int) hd0 (by omega) (by omega)) (by (try simp only [Big_nat]);try rfl) ?_
       | refine ⟨by rfl,CallC.of (rlowest_spec (-(decNum L:Int)) ((10 ^ Bk.length:Nat):Int) hd0 (by omega) (by omega)) (by (try simp only [Big_nat]);try rfl) ?_⟩
       rw [← hdv]
       simp (config:={maxSteps:=1000000}) (disch:=(try simp only [awL]);omega) only [awS,↓awU,awV,awX,awF,↓reduceIte,↓reduceDIte,↓Qe,Qu,Qv,Qw,Qx,Qy,Qz,QA,QB,QC,QD,QE,QF,QG,QH,QI,QK]
       first | done | rfl
end Go.Proofs.YtdpjcghiegggbaaGreatDoor.Num
namespace Go.Proofs.YtdpjcghiegggbaaGreatDoor
open Go Go.Proofs Go.Abs Go.RowKit Go.Shelf
variable {G:Globals}
theorem trimLeftC_spec (c:UInt8) (hc:c.toNat<128) (s:List UInt8):Ctr TP G 104 [.d (S s),.d (S [c])] [] (.d (S (Lib.trimLeftB s c))) [] :=
 Ctr.of_calls_ss go104 fun h w=>(Any.strings_TrimLeft_one Tryz.laysTrimLeft (bs s) c hc w).mono (by rintro e w' ⟨rfl,rfl⟩;exact ⟨_,rfl,.str _,.refl _ _⟩)
theorem trimRightC_spec (c:UInt8) (hc:c.toNat<128) (s:List UInt8) (hs:s.length≤9223372036854775807):Ctr TP G 105 [.d (S s),.d (S [c])] [] (.d (S (Lib.trimRightB s c))) [] :=
 Ctr.of_calls_ss go105 fun h w=>(Any.strings_TrimRight_one Tryz.laysTrimRight (bs s) c hc w (by rw [bs_size];exact hs)).mono (by rintro e w' ⟨rfl,rfl⟩;exact ⟨_,rfl,.str _,.refl _ _⟩)
def OrI (x y:List UInt8) (i:Nat):Prop:=i≤2∧(1≤i→x=[])∧(2≤i→y=[])
theorem trimRB_le (l:List UInt8) (c:UInt8):(Lib.trimRightB l c).length≤l.length:=by
 unfold Lib.trimRightB
 rw [List.length_reverse]
 have:=(List.dropWhile_sublist (p:=(· == c)) (l:=l.reverse)).length_le
 rwa [List.length_reverse] at this
theorem orS_spec (x y:List UInt8) (full:Bool):Ctr TP G 106 [.d (.sl 2 full [S x,S y])] [] (.d (S (if x=[] then y else x))) []:=by
 obtain ⟨r,hr⟩:∃ r,r=if x=[] then y else x:=⟨_,rfl⟩
 rw [← hr]
 refine Ctr.pure (M:=M0) hmix Tryz.func106 rfl go106 ?_
 have hb0:ByteArray.empty=bs []:=rfl
 simp (config:={maxSteps:=1000000}) (disch:=(try simp only [awL]);omega) only [awS,Tryz.f106,↓awU,awV,awX,awF,↓reduceIte,↓reduceDIte,↓Qe,Qu,Qv,Qw,Qx,Qy,Qz,QA,QB,QC,QD,QE,QF,QG,QH,QI,QK]
 refine LoopC.fr 200 (α:=Nat) (fun i=>2 - i) (fun i=>[(8,.d (.int .i64 (i:Nat)))]) (fun _=>[]) (OrI x y) 0 ⟨by omega,fun h=>absurd h (by omega),fun h=>absurd h (by omega)⟩ ?_ ?_
 ·exact ⟨[],rfl,by simp,by simp [sA,kA,SW,AW],by simp [HW,BW,SW,AW]⟩
 ·intro i hI
  obtain ⟨h1,h2,h3⟩:=hI
  simp only [awK,Nat.reduceMod,Nat.reduceDiv,reduceIte]
  rcases (by omega:i=0∨i=1∨i=2) with e | e | e
  ·subst e
   by_cases q:x=[]
   ·have q':(x=[])=True:=eq_true q
    simp (config:={maxSteps:=1000000}) (disch:=(try simp only [awL]);omega) only [awS,q',↓awU,awV,awX,awF,↓reduceIte,↓reduceDIte,↓Qe,Qu,Qv,Qw,Qx,Qy,Qz,QA,QB,QC,QD,QE,QF,QG,QH,QI,QK]
    exact ⟨0+1,(⟨by omega,fun _=>q,fun h=>absurd h (by omega)⟩:OrI x y (0+1)),by simp only;omega,⟨[],rfl,by simp,by simp [sA,kA,SW,AW],by simp [HW,BW,SW,AW]⟩⟩
   ·have q':(x=[])=False:=eq_false q
    rw [if_neg q] at hr
    subst hr
    simp (config:={maxSteps:=1000000}) (disch:=(try simp only [awL]);omega) only [awS,q',↓awU,awV,awX,awF,↓reduceIte,↓reduceDIte,↓Qe,Qu,Qv,Qw,Qx,Qy,Qz,QA,QB,QC,QD,QE,QF,QG,QH,QI,QK]
    first | done | rfl
  ·subst e
   have x0:=h2 (by omega)
   rw [if_pos x0] at hr
   by_cases q:y=[]
   ·have q':(y=[])=True:=eq_true q
    simp (config:={maxSteps:=1000000}) (disch:=(try simp only [awL]);omega) only [awS,q',↓awU,awV,awX,awF,↓reduceIte,↓reduceDIte,↓Qe,Qu,Qv,Qw,Qx,Qy,Qz,QA,QB,QC,QD,QE,QF,QG,QH,QI,QK]
    exact ⟨1+1,(⟨by omega,fun _=>x0,fun _=>q⟩:OrI x y (1+1)),by simp only;omega,⟨[],rfl,by simp,by simp [sA,kA,SW,AW],by simp [HW,BW,SW,AW]⟩⟩
   ·have q':(y=[])=False:=eq_false q
    subst hr
    simp (config:={maxSteps:=1000000}) (disch:=(try simp only [awL]);omega) only [awS,q',↓awU,awV,awX,awF,↓reduceIte,↓reduceDIte,↓Qe,Qu,Qv,Qw,Qx,Qy,Qz,QA,QB,QC,QD,QE,QF,QG,QH,QI,QK]
    first | done | rfl
  ·subst e
   have x0:=h2 (by omega)
   rw [if_pos x0,h3 (by omega)] at hr
   subst hr
   simp (config:={maxSteps:=1000000}) (disch:=(try simp only [awL]);omega) only [awS,↓awU,awV,awX,awF,↓reduceIte,↓reduceDIte,↓Qe,Qu,Qv,Qw,Qx,Qy,Qz,QA,QB,QC,QD,QE,QF,QG,QH,QI,QK]
   first | done | rfl
def canO (f b:List UInt8):List UInt8:=(if f=[] then [48] else f)++(if b=[] then [] else 46::b)
def canS (neg:Bool) (o:List UInt8):List UInt8:=if neg=true∧o≠[48] then 45::o else o
def canD (t:List UInt8):List UInt8:=canS (decide (t.getD 0 0=45)) (canO (Lib.trimLeftB (cutL 46 (Num.trimL [43,45] t)) 48) (Lib.trimRightB (cutR 46 (Num.trimL [43,45] t)) 48))
theorem trimL_len (l s:List UInt8):(Num.trimL l s).length≤s.length:=(List.dropWhile_sublist _).length_le
theorem cutL_len (c:UInt8):∀ s:List UInt8,(cutL c s).length≤s.length
 | []=>by simp [cutL]
 | b::l=>by
   rw [cutL]
   split
   ·simp
   ·have:=cutL_len c l;simp only [List.length_cons];omega
theorem cutR_len (c:UInt8):∀ s:List UInt8,(cutR c s).length≤s.length
 | []=>by simp [cutR]
 | b::l=>by
   rw [cutR]
   split
   ·simp
   ·have:=cutR_len c l;simp only [List.length_cons];omega
theorem tdecimal_spec (hG:Num.HG G) (t:List UInt8) (ht:t.length≤2000000):Ctr TP G 70 [.d (S t)] [] (.d (.tup [S (if Num.decOk t=true then canD t else []),.bool (Num.decOk t)])) []:=by
 refine Ctr.pure (M:=M0) hmix Tryz.func70 rfl go70 ?_
 have sp:=Num.decimalF_spec hG t (by omega)
 cases ok:Num.decOk t
 ·rw [ok] at sp
  rw [if_neg Bool.false_ne_true] at sp ⊢
  simp (config:={maxSteps:=1000000}) (disch:=(try simp only [awL]);omega) only [awS,Tryz.f70,↓awU,awV,awX,awF,↓reduceIte,↓reduceDIte,↓Qe,Qu,Qv,Qw,Qx,Qy,Qz,QA,QB,QC,QD,QE,QF,QG,QH,QI,QK]
  refine CallC.of sp (by rfl) ?_
  simp (config:={maxSteps:=1000000}) (disch:=(try simp only [awL]);omega) only [awS,↓awU,awV,awX,awF,↓reduceIte,↓reduceDIte,↓Qe,Qu,Qv,Qw,Qx,Qy,Qz,QA,QB,QC,QD,QE,QF,QG,QH,QI,QK]
  first | done | rfl
 ·rw [ok] at sp
  rw [if_pos rfl] at sp ⊢
  have tne:0<t.length:=by
   rcases t with _ | ⟨b,u⟩
   ·exact absurd ok (by decide +kernel)
   ·simp
  have l1:=trimL_len [43,45] t
  have l2:=cutL_len 46 (Num.trimL [43,45] t)
  have l3:=cutR_len 46 (Num.trimL [43,45] t)
  simp (config:={maxSteps:=1000000}) (disch:=(try simp only [awL]);omega) only [awS,Tryz.f70,↓awU,awV,awX,awF,↓reduceIte,↓reduceDIte,↓Qe,Qu,Qv,Qw,Qx,Qy,Qz,QA,QB,QC,QD,QE,QF,QG,QH,QI,QK]
  refine CallC.of sp (by rfl) ?_
  simp (config:={maxSteps:=1000000}) (disch:=(try simp only [awL]);omega) only [awS,↓awU,awV,awX,awF,↓reduceIte,↓reduceDIte,↓Qe,Qu,Qv,Qw,Qx,Qy,Qz,QA,QB,QC,QD,QE,QF,QG,QH,QI,QK]
  refine CallC.of (Num.trimLeftSet_spec t [43,45] (by omega) (by decide) (by decide) (by decide)) (by rfl) ?_
  simp (config:={maxSteps:=1000000}) (disch:=(try simp only [awL]);omega) only [awS,↓awU,awV,awX,awF,↓reduceIte,↓reduceDIte,↓Qe,Qu,Qv,Qw,Qx,Qy,Qz,QA,QB,QC,QD,QE,QF,QG,QH,QI,QK]
  refine CallC.of (cut_spec (Num.trimL [43,45] t) 46 (by omega)) (by rfl) ?_
  simp (config:={maxSteps:=1000000}) (disch:=(try simp only [awL]);omega) only [awS,↓awU,awV,awX,awF,↓reduceIte,↓reduceDIte,↓Qe,Qu,Qv,Qw,Qx,Qy,Qz,QA,QB,QC,QD,QE,QF,QG,QH,QI,QK]
  refine CallC.of (trimLeftC_spec 48 (by decide) (cutL 46 (Num.trimL [43,45] t))) (by rfl) ?_
  simp (config:={maxSteps:=1000000}) (disch:=(try simp only [awL]);omega) only [awS,↓awU,awV,awX,awF,↓reduceIte,↓reduceDIte,↓Qe,Qu,Qv,Qw,Qx,Qy,Qz,QA,QB,QC,QD,QE,QF,QG,QH,QI,QK]
  refine CallC.of (trimRightC_spec 48 (by decide) (cutR 46 (Num.trimL [43,45] t)) (by omega)) (by rfl) ?_
  obtain ⟨r,hr⟩:∃ r,r=canD t:=⟨_,rfl⟩
  rw [← hr]
  unfold canD at hr
  have f1:(Lib.trimLeftB (cutL 46 (Num.trimL [43,45] t)) 48).length≤2000000:=Nat.le_trans (List.dropWhile_sublist _).length_le (by omega)
  have f2:(Lib.trimRightB (cutR 46 (Num.trimL [43,45] t)) 48).length≤2000000:=Nat.le_trans (trimRB_le _ _) (by omega)
  generalize Lib.trimLeftB (cutL 46 (Num.trimL [43,45] t)) 48=f at *
  generalize Lib.trimRightB (cutR 46 (Num.trimL [43,45] t)) 48=b at *
  simp (config:={maxSteps:=1000000}) (disch:=(try simp only [awL]);omega) only [awS,↓awU,awV,awX,awF,↓reduceIte,↓reduceDIte,↓Qe,Qu,Qv,Qw,Qx,Qy,Qz,QA,QB,QC,QD,QE,QF,QG,QH,QI,QK]
  have os:=orS_spec (G:=G) f [48] false
  refine CallC.frozenE os (by rfl) ?_
  obtain ⟨o1,ho1⟩:∃ o1,o1=if f=[] then [48] else f:=⟨_,rfl⟩
  rw [← ho1]
  have o1l:o1.length≤2000001:=by
   rw [ho1]
   split
   ·simp
   ·omega
  unfold canO at hr
  rw [← ho1] at hr
  have g0:t.getD 0 0=t.getD 0 0:=rfl
  by_cases e1:b=[]
  ·have e1':(b=[])=True:=eq_true e1
   rw [if_pos e1,List.append_nil] at hr
   unfold canS at hr
   by_cases e2:t.getD 0 0=45
   ·have e2':(((t.getD 0 0).toNat:Int)=45)=True:=eq_true (by rw [e2];rfl)
    rw [decide_eq_true e2] at hr
    by_cases e3:o1=[48]
    ·have e3':(o1=[48])=True:=eq_true e3
     rw [if_neg (fun q=>q.2 e3)] at hr
     subst hr
     simp (config:={maxSteps:=1000000}) (disch:=(try simp only [awL]);omega) only [awS,e1',e2',e3',↓awU,awV,awX,awF,↓reduceIte,↓reduceDIte,↓Qe,Qu,Qv,Qw,Qx,Qy,Qz,QA,QB,QC,QD,QE,QF,QG,QH,QI,QK]
     first | done | rfl
    ·have e3':(o1=[48])=False:=eq_false e3
     rw [if_pos ⟨rfl,e3⟩] at hr
     subst hr
     simp (config:={maxSteps:=1000000}) (disch:=(try simp only [awL]);omega) only [awS,e1',e2',e3',↓awU,awV,awX,awF,↓reduceIte,↓reduceDIte,↓Qe,Qu,Qv,Qw,Qx,Qy,Qz,QA,QB,QC,QD,QE,QF,QG,QH,QI,QK]
     first | done | rfl
   ·have e2':(((t.getD 0 0).toNat:Int)=45)=False:=eq_false (fun q=>e2 (UInt8.toNat_inj.1 (by show (t.getD 0 0).toNat=45;omega)))
    rw [decide_eq_false e2,if_neg (fun q=>Bool.false_ne_true q.1)] at hr
    subst hr
    simp (config:={maxSteps:=1000000}) (disch:=(try simp only [awL]);omega) only [awS,e1',e2',↓awU,awV,awX,awF,↓reduceIte,↓reduceDIte,↓Qe,Qu,Qv,Qw,Qx,Qy,Qz,QA,QB,QC,QD,QE,QF,QG,QH,QI,QK]
    first | done | rfl
  ·have e1':(b=[])=False:=eq_false e1
   rw [if_neg e1] at hr
   unfold canS at hr
   by_cases e2:t.getD 0 0=45
   ·have e2':(((t.getD 0 0).toNat:Int)=45)=True:=eq_true (by rw [e2];rfl)
    rw [decide_eq_true e2] at hr
    by_cases e3:o1++46::b=[48]
    ·have e3':(o1++46::b=[48])=True:=eq_true e3
     rw [if_neg (fun q=>q.2 e3)] at hr
     subst hr
     simp (config:={maxSteps:=1000000}) (disch:=(try simp only [awL]);omega) only [awS,e1',e2',e3',↓awU,awV,awX,awF,↓reduceIte,↓reduceDIte,↓Qe,Qu,Qv,Qw,Qx,Qy,Qz,QA,QB,QC,QD,QE,QF,QG,QH,QI,QK]
     first | done | rfl
    ·have e3':(o1++46::b=[48])=False:=eq_false e3
     rw [if_pos ⟨rfl,e3⟩] at hr
     subst hr
     simp (config:={maxSteps:=1000000}) (disch:=(try simp only [awL]);omega) only [awS,e1',e2',e3',↓awU,awV,awX,awF,↓reduceIte,↓reduceDIte,↓Qe,Qu,Qv,Qw,Qx,Qy,Qz,QA,QB,QC,QD,QE,QF,QG,QH,QI,QK]
     first | done | rfl
   ·have e2':(((t.getD 0 0).toNat:Int)=45)=False:=eq_false (fun q=>e2 (UInt8.toNat_inj.1 (by show (t.getD 0 0).toNat=45;omega)))
    rw [decide_eq_false e2,if_neg (fun q=>Bool.false_ne_true q.1)] at hr
    subst hr
    simp (config:={maxSteps:=1000000}) (disch:=(try simp only [awL]);omega) only [awS,e1',e2',↓awU,awV,awX,awF,↓reduceIte,↓reduceDIte,↓Qe,Qu,Qv,Qw,Qx,Qy,Qz,QA,QB,QC,QD,QE,QF,QG,QH,QI,QK]
    first | done | rfl
end Go.Proofs.YtdpjcghiegggbaaGreatDoor
namespace Go.Proofs.YtdpjcghiegggbaaGreatDoor
open Go Go.Proofs Go.Abs
variable {G:Globals}
theorem leap_spec (y:Int) (y1:-9223372036854775808≤y) (y2:y≤9223372036854775807):Ctr TP G 64 [.d (.int .i64 y)] [] (.d (.bool (leapB y))) []:=by
 refine Ctr.pure (M:=M0) hmix Tryz.func64 rfl go64 ?_
 obtain ⟨r,hr⟩:∃ r,r=leapB y:=⟨_,rfl⟩
 rw [← hr]
 unfold leapB at hr
 have b1:-4<y.tmod 4∧y.tmod 4<4:=⟨Int.lt_tmod_of_pos y (by decide),Int.tmod_lt_of_pos y (by decide)⟩
 have b2:-100<y.tmod 100∧y.tmod 100<100:=⟨Int.lt_tmod_of_pos y (by decide),Int.tmod_lt_of_pos y (by decide)⟩
 have b3:-400<y.tmod 400∧y.tmod 400<400:=⟨Int.lt_tmod_of_pos y (by decide),Int.tmod_lt_of_pos y (by decide)⟩
 by_cases e1:y.tmod 4=0
 ·have f1:(y.tmod 4=0)=True:=eq_true e1
  rw [decide_eq_true e1] at hr
  by_cases e2:y.tmod 100=0
  ·have f2:(y.tmod 100=0)=True:=eq_true e2
   rw [decide_eq_true e2] at hr
   by_cases e3:y.tmod 400=0
   ·have f3:(y.tmod 400=0)=True:=eq_true e3
    rw [decide_eq_true e3] at hr
    subst hr
    simp (config:={maxSteps:=1000000}) (disch:=(try simp only [awL]);omega) only [awS,f1,f2,f3,Tryz.f64,↓awU,awV,awX,awF,↓reduceIte,↓reduceDIte,↓Qe,Qu,Qv,Qw,Qx,Qy,Qz,QA,QB,QC,QD,QE,QF,QG,QH,QI,QK]
    first | done | rfl | simp [f2,f3]
   ·have f3:(y.tmod 400=0)=False:=eq_false e3
    rw [decide_eq_false e3] at hr
    subst hr
    simp (config:={maxSteps:=1000000}) (disch:=(try simp only [awL]);omega) only [awS,f1,f2,f3,Tryz.f64,↓awU,awV,awX,awF,↓reduceIte,↓reduceDIte,↓Qe,Qu,Qv,Qw,Qx,Qy,Qz,QA,QB,QC,QD,QE,QF,QG,QH,QI,QK]
    first | done | rfl | simp [f2,f3]
  ·have f2:(y.tmod 100=0)=False:=eq_false e2
   rw [decide_eq_false e2] at hr
   subst hr
   simp (config:={maxSteps:=1000000}) (disch:=(try simp only [awL]);omega) only [awS,f1,f2,Tryz.f64,↓awU,awV,awX,awF,↓reduceIte,↓reduceDIte,↓Qe,Qu,Qv,Qw,Qx,Qy,Qz,QA,QB,QC,QD,QE,QF,QG,QH,QI,QK]
   first | done | rfl | simp [f2]
 ·have f1:(y.tmod 4=0)=False:=eq_false e1
  rw [decide_eq_false e1] at hr
  subst hr
  simp (config:={maxSteps:=1000000}) (disch:=(try simp only [awL]);omega) only [awS,f1,Tryz.f64,↓awU,awV,awX,awF,↓reduceIte,↓reduceDIte,↓Qe,Qu,Qv,Qw,Qx,Qy,Qz,QA,QB,QC,QD,QE,QF,QG,QH,QI,QK]
  first | done | rfl | simp [f1]
theorem rleap_spec (y:Int) (y1:-9223372036854775808≤y) (y2:y≤9223372036854775807):Ctr TP G 87 [.d (.int .i64 y)] [] (.d (.bool (leapB y))) []:=by
 refine Ctr.pure (M:=M0) hmix Tryz.func87 rfl go87 ?_
 obtain ⟨r,hr⟩:∃ r,r=leapB y:=⟨_,rfl⟩
 rw [← hr]
 unfold leapB at hr
 have b1:-4<y.tmod 4∧y.tmod 4<4:=⟨Int.lt_tmod_of_pos y (by decide),Int.tmod_lt_of_pos y (by decide)⟩
 have b2:-100<y.tmod 100∧y.tmod 100<100:=⟨Int.lt_tmod_of_pos y (by decide),Int.tmod_lt_of_pos y (by decide)⟩
 have b3:-400<y.tmod 400∧y.tmod 400<400:=⟨Int.lt_tmod_of_pos y (by decide),Int.tmod_lt_of_pos y (by decide)⟩
 by_cases e1:y.tmod 4=0
 ·have f1:(y.tmod 4=0)=True:=eq_true e1
  rw [decide_eq_true e1] at hr
  by_cases e2:y.tmod 100=0
  ·have f2:(y.tmod 100=0)=True:=eq_true e2
   rw [decide_eq_true e2] at hr
   by_cases e3:y.tmod 400=0
   ·have f3:(y.tmod 400=0)=True:=eq_true e3
    rw [decide_eq_true e3] at hr
    subst hr
    simp (config:={maxSteps:=1000000}) (disch:=(try simp only [awL]);omega) only [awS,f1,f2,f3,Tryz.f87,↓awU,awV,awX,awF,↓reduceIte,↓reduceDIte,↓Qe,Qu,Qv,Qw,Qx,Qy,Qz,QA,QB,QC,QD,QE,QF,QG,QH,QI,QK]
    first | done | rfl | simp [f2,f3]
   ·have f3:(y.tmod 400=0)=False:=eq_false e3
    rw [decide_eq_false e3] at hr
    subst hr
    simp (config:={maxSteps:=1000000}) (disch:=(try simp only [awL]);omega) only [awS,f1,f2,f3,Tryz.f87,↓awU,awV,awX,awF,↓reduceIte,↓reduceDIte,↓Qe,Qu,Qv,Qw,Qx,Qy,Qz,QA,QB,QC,QD,QE,QF,QG,QH,QI,QK]
    first | done | rfl | simp [f2,f3]
  ·have f2:(y.tmod 100=0)=False:=eq_false e2
   rw [decide_eq_false e2] at hr
   subst hr
   simp (config:={maxSteps:=1000000}) (disch:=(try simp only [awL]);omega) only [awS,f1,f2,Tryz.f87,↓awU,awV,awX,awF,↓reduceIte,↓reduceDIte,↓Qe,Qu,Qv,Qw,Qx,Qy,Qz,QA,QB,QC,QD,QE,QF,QG,QH,QI,QK]
   first | done | rfl | simp [f2]
 ·have f1:(y.tmod 4=0)=False:=eq_false e1
  rw [decide_eq_false e1] at hr
  subst hr
  simp (config:={maxSteps:=1000000}) (disch:=(try simp only [awL]);omega) only [awS,f1,Tryz.f87,↓awU,awV,awX,awF,↓reduceIte,↓reduceDIte,↓Qe,Qu,Qv,Qw,Qx,Qy,Qz,QA,QB,QC,QD,QE,QF,QG,QH,QI,QK]
  first | done | rfl | simp [f1]
theorem length_spec (y m:Int) (y1:-9223372036854775808≤y) (y2:y≤9223372036854775807) (m1:-9223372036854775808≤m) (m2:m≤9223372036854775807):Ctr TP G 38 [.d (.int .i64 y),.d (.int .i64 m)] [] (.d (.int .i64 (lenM y m))) []:=by
 refine Ctr.pure (M:=M0) hmix Tryz.func38 rfl go38 ?_
 obtain ⟨r,hr⟩:∃ r,r=lenM y m:=⟨_,rfl⟩
 rw [← hr]
 unfold lenM at hr
 by_cases e1:m=2
 ·subst e1
  rw [if_pos rfl] at hr
  simp (config:={maxSteps:=1000000}) (disch:=(try simp only [awL]);omega) only [awS,Tryz.f38,↓awU,awV,awX,awF,↓reduceIte,↓reduceDIte,↓Qe,Qu,Qv,Qw,Qx,Qy,Qz,QA,QB,QC,QD,QE,QF,QG,QH,QI,QK]
  refine CallC.of (leap_spec y y1 y2) (by rfl) ?_
  cases e2:leapB y
  ·rw [e2,if_neg Bool.false_ne_true] at hr
   subst hr
   simp (config:={maxSteps:=1000000}) (disch:=(try simp only [awL]);omega) only [awS,↓awU,awV,awX,awF,↓reduceIte,↓reduceDIte,↓Qe,Qu,Qv,Qw,Qx,Qy,Qz,QA,QB,QC,QD,QE,QF,QG,QH,QI,QK]
   first | done | rfl
  ·rw [e2,if_pos rfl] at hr
   subst hr
   simp (config:={maxSteps:=1000000}) (disch:=(try simp only [awL]);omega) only [awS,↓awU,awV,awX,awF,↓reduceIte,↓reduceDIte,↓Qe,Qu,Qv,Qw,Qx,Qy,Qz,QA,QB,QC,QD,QE,QF,QG,QH,QI,QK]
   first | done | rfl
 ·have f1:(m=2)=False:=eq_false e1
  rw [if_neg e1] at hr
  by_cases e4:m=4
  ·subst e4;rw [if_pos (by omega)] at hr;subst hr
   simp (config:={maxSteps:=1000000}) (disch:=(try simp only [awL]);omega) only [awS,Tryz.f38,↓awU,awV,awX,awF,↓reduceIte,↓reduceDIte,↓Qe,Qu,Qv,Qw,Qx,Qy,Qz,QA,QB,QC,QD,QE,QF,QG,QH,QI,QK]
   first | done | rfl
  by_cases e6:m=6
  ·subst e6;rw [if_pos (by omega)] at hr;subst hr
   simp (config:={maxSteps:=1000000}) (disch:=(try simp only [awL]);omega) only [awS,Tryz.f38,↓awU,awV,awX,awF,↓reduceIte,↓reduceDIte,↓Qe,Qu,Qv,Qw,Qx,Qy,Qz,QA,QB,QC,QD,QE,QF,QG,QH,QI,QK]
   first | done | rfl
  by_cases e9:m=9
  ·subst e9;rw [if_pos (by omega)] at hr;subst hr
   simp (config:={maxSteps:=1000000}) (disch:=(try simp only [awL]);omega) only [awS,Tryz.f38,↓awU,awV,awX,awF,↓reduceIte,↓reduceDIte,↓Qe,Qu,Qv,Qw,Qx,Qy,Qz,QA,QB,QC,QD,QE,QF,QG,QH,QI,QK]
   first | done | rfl
  by_cases e11:m=11
  ·subst e11;rw [if_pos (by omega)] at hr;subst hr
   simp (config:={maxSteps:=1000000}) (disch:=(try simp only [awL]);omega) only [awS,Tryz.f38,↓awU,awV,awX,awF,↓reduceIte,↓reduceDIte,↓Qe,Qu,Qv,Qw,Qx,Qy,Qz,QA,QB,QC,QD,QE,QF,QG,QH,QI,QK]
   first | done | rfl
  rw [if_neg (by omega)] at hr
  subst hr
  have f4:(m=4)=False:=eq_false e4
  have f6:(m=6)=False:=eq_false e6
  have f9:(m=9)=False:=eq_false e9
  have f11:(m=11)=False:=eq_false e11
  simp (config:={maxSteps:=1000000}) (disch:=(try simp only [awL]);omega) only [awS,f1,f4,f6,f9,f11,Tryz.f38,↓awU,awV,awX,awF,↓reduceIte,↓reduceDIte,↓Qe,Qu,Qv,Qw,Qx,Qy,Qz,QA,QB,QC,QD,QE,QF,QG,QH,QI,QK]
  first | done | rfl
theorem rlength_spec (y m:Int) (y1:-9223372036854775808≤y) (y2:y≤9223372036854775807) (m1:-9223372036854775808≤m) (m2:m≤9223372036854775807):Ctr TP G 86 [.d (.int .i64 y),.d (.int .i64 m)] [] (.d (.int .i64 (lenM y m))) []:=by
 refine Ctr.pure (M:=M0) hmix Tryz.func86 rfl go86 ?_
 obtain ⟨r,hr⟩:∃ r,r=lenM y m:=⟨_,rfl⟩
 rw [← hr]
 unfold lenM at hr
 by_cases e1:m=2
 ·subst e1
  rw [if_pos rfl] at hr
  simp (config:={maxSteps:=1000000}) (disch:=(try simp only [awL]);omega) only [awS,Tryz.f86,↓awU,awV,awX,awF,↓reduceIte,↓reduceDIte,↓Qe,Qu,Qv,Qw,Qx,Qy,Qz,QA,QB,QC,QD,QE,QF,QG,QH,QI,QK]
  refine CallC.of (rleap_spec y y1 y2) (by rfl) ?_
  cases e2:leapB y
  ·rw [e2,if_neg Bool.false_ne_true] at hr
   subst hr
   simp (config:={maxSteps:=1000000}) (disch:=(try simp only [awL]);omega) only [awS,↓awU,awV,awX,awF,↓reduceIte,↓reduceDIte,↓Qe,Qu,Qv,Qw,Qx,Qy,Qz,QA,QB,QC,QD,QE,QF,QG,QH,QI,QK]
   first | done | rfl
  ·rw [e2,if_pos rfl] at hr
   subst hr
   simp (config:={maxSteps:=1000000}) (disch:=(try simp only [awL]);omega) only [awS,↓awU,awV,awX,awF,↓reduceIte,↓reduceDIte,↓Qe,Qu,Qv,Qw,Qx,Qy,Qz,QA,QB,QC,QD,QE,QF,QG,QH,QI,QK]
   first | done | rfl
 ·have f1:(m=2)=False:=eq_false e1
  rw [if_neg e1] at hr
  by_cases e4:m=4
  ·subst e4;rw [if_pos (by omega)] at hr;subst hr
   simp (config:={maxSteps:=1000000}) (disch:=(try simp only [awL]);omega) only [awS,Tryz.f86,↓awU,awV,awX,awF,↓reduceIte,↓reduceDIte,↓Qe,Qu,Qv,Qw,Qx,Qy,Qz,QA,QB,QC,QD,QE,QF,QG,QH,QI,QK]
   first | done | rfl
  by_cases e6:m=6
  ·subst e6;rw [if_pos (by omega)] at hr;subst hr
   simp (config:={maxSteps:=1000000}) (disch:=(try simp only [awL]);omega) only [awS,Tryz.f86,↓awU,awV,awX,awF,↓reduceIte,↓reduceDIte,↓Qe,Qu,Qv,Qw,Qx,Qy,Qz,QA,QB,QC,QD,QE,QF,QG,QH,QI,QK]
   first | done | rfl
  by_cases e9:m=9
  ·subst e9;rw [if_pos (by omega)] at hr;subst hr
   simp (config:={maxSteps:=1000000}) (disch:=(try simp only [awL]);omega) only [awS,Tryz.f86,↓awU,awV,awX,awF,↓reduceIte,↓reduceDIte,↓Qe,Qu,Qv,Qw,Qx,Qy,Qz,QA,QB,QC,QD,QE,QF,QG,QH,QI,QK]
   first | done | rfl
  by_cases e11:m=11
  ·subst e11;rw [if_pos (by omega)] at hr;subst hr
   simp (config:={maxSteps:=1000000}) (disch:=(try simp only [awL]);omega) only [awS,Tryz.f86,↓awU,awV,awX,awF,↓reduceIte,↓reduceDIte,↓Qe,Qu,Qv,Qw,Qx,Qy,Qz,QA,QB,QC,QD,QE,QF,QG,QH,QI,QK]
   first | done | rfl
  rw [if_neg (by omega)] at hr
  subst hr
  have f4:(m=4)=False:=eq_false e4
  have f6:(m=6)=False:=eq_false e6
  have f9:(m=9)=False:=eq_false e9
  have f11:(m=11)=False:=eq_false e11
  simp (config:={maxSteps:=1000000}) (disch:=(try simp only [awL]);omega) only [awS,f1,f4,f6,f9,f11,Tryz.f86,↓awU,awV,awX,awF,↓reduceIte,↓reduceDIte,↓Qe,Qu,Qv,Qw,Qx,Qy,Qz,QA,QB,QC,QD,QE,QF,QG,QH,QI,QK]
  first | done | rfl
theorem began_spec (y:Int) (y1:1≤y) (y2:y≤100000):Ctr TP G 37 [.d (.int .i64 y)] [] (.d (.int .i64 (bgn y))) []:=by
 refine Ctr.pure (M:=M0) hmix Tryz.func37 rfl go37 ?_
 have d1:(y - 1).tdiv 4=(y - 1) / 4:=tdiv_pos _ (by omega)
 have d2:(y - 1).tdiv 100=(y - 1) / 100:=tdiv_pos _ (by omega)
 have d3:(y - 1).tdiv 400=(y - 1) / 400:=tdiv_pos _ (by omega)
 rw [bgn_eq y1]
 simp (config:={maxSteps:=1000000}) (disch:=(try simp only [awL]);omega) only [awS,d1,d2,d3,Tryz.f37,↓awU,awV,awX,awF,↓reduceIte,↓reduceDIte,↓Qe,Qu,Qv,Qw,Qx,Qy,Qz,QA,QB,QC,QD,QE,QF,QG,QH,QI,QK]
 first | done | rfl
def dayV (y m d:Int):Int:=if okDt y m d=true then dayN y m d else 0
theorem bgn_le {y:Int} (h1:1≤y) (h2:y≤10000):0≤bgn y∧bgn y≤3700000:=by
 rw [bgn_eq h1];omega
end Go.Proofs.YtdpjcghiegggbaaGreatDoor
