/-
  Contracts of the functions, one after another.
-/
import Derived.Test.YtkgbbdoeodmkgaaGreatDoorMb1
import Derived.Lib.Strings
import Derived.Lib.Slices
import Derived.Lib.Walk
import Derived.Lib.Bytealg
set_option linter.all false
open Go.Abs renaming ofVal→Qa,ofVal0→Qb,isShift→Qc,aggK→Qd,purePost→Qe,combine→Qf,idsA→Qg,cellsA→Qh,numsOf→Qi,srcA→Qj,calleeA→Qk,refsA→Ql,isScalar→Qm,scalarD→Qn,scalar0→Qo,putL→Qr,unfA→Qs,sidsB→QJ,keyKD→QL,isIntK→QM,aggD→QN,aggL→QO,eqKs→QP,boxRow→QQ,nextC_more→QT,nextC_over→QU,bs_size→QV,bs_extract→QW,bs_toList→QX,bs_append→QY,byteAt_bs→QZ,bs_cells→Q0,nums_length→Q1,nums_getD→Q2
open Go.Abs.AV renaming one→Qp
open Go.Abs.D renaming one→Qq
open Go.IntKind renaming signed→Qt
open Nat renaming reduceAdd→Qu,reduceSub→Qv,reduceMul→Qw,reducePow→Qx,reduceDiv→Qy,reduceMod→Qz,reduceEqDiff→QI,reduceBEq→QK
open Int renaming reduceAdd→QA,reduceSub→QB,reduceMul→QC,reducePow→QD,reduceNeg→QE,reduceToNat→QF,reduceLT→QG,reduceLE→QH
open Option renaming toList_some→QR,toList_none→QS
namespace Go.Proofs.YtkgbbdoeodmkgaaGreatDoor.Num
open Go Go.Proofs Go.Abs
variable {G:Globals}
set_option maxHeartbeats 4000000 in
set_option maxRecDepth 1000000 in
theorem times_spec (a b:Nat) (ha:(toW a).length<2 ^ 40) (hb:(toW b).length<2 ^ 40) :
  Ctr Tryz.prog G 78 [.d (W (toW a)),.d (W (toW b))] [] (.d (W (toW (a*b)))) []:=by
 have da:=dig_toW a
 have db:=dig_toW b
 have va:=val_toW a
 have vb:=val_toW b
 generalize toW a=l at *
 generalize toW b=m at *
 refine Ctr.pure (M:=M0) hmix Tryz.func78 rfl go78 ?_
 simp (config:={maxSteps:=1000000}) (disch:=((try simp only [awL]);omega)) only [Tryz.f78,↓awU,awV,awF,Qa,Qb,Qc,Qd,forall_const,↓reduceIte,↓reduceDIte,↓Qe,Qf,Qg,Qh,Qi,Qj,Qk,Ql,Qm,Qn,Qo,Qp,Qq,Qr,Qs,implies_true,Qt,Qu,Qv,Qw,Qx,Qy,Qz,QA,QB,QC,QD,QE,QF,QG,QH,QI,QJ,QK,QL,QM,QN,QO,QP,QQ]
 refine LoopC.inv (α:=Nat × List Nat) (fun x=>l.length - x.1) (fun x=>mkS 67 [(0,.d (W l)),(1,.d (W m)),(5,.lsl 0 1 0 (l.length+m.length)),(17,.d (W l)),(18,.d (.int .i64 l.length)),(19,.d (.int .i64 x.1))])
  (fun x=>[.row false (nats .u32 x.2)]) (fun x=>x.1≤l.length∧x.2.length=l.length+m.length∧Dig x.2∧val x.2=val (l.take x.1)*b∧∀ p,x.1+m.length≤p→x.2.getD p 0=0) (0,List.replicate (l.length+m.length) 0)
  ⟨by simp,by simp,Dig.zeros _,by simp [val_zeros,val],fun p _=>by simp only [List.getD_eq_getElem?_getD,List.getElem?_replicate];split<;>rfl⟩ ?_ ?_
 ·refine ⟨[some 0],rfl,by simp,by simp [mkS,SWeak,AWeak],by simp [HWeak,BWeak]⟩
 ·rintro ⟨i,o⟩ ⟨hi,ho,hd,hv,hz⟩
  simp only at hi ho hd hv hz
  simp only [mkS,List.foldl,List.replicate,List.set_cons_zero,List.set_cons_succ]
  simp (config:={maxSteps:=1000000}) (disch:=((try simp only [awL]);omega)) only [↓awU,awV,awF,Qa,Qb,Qc,Qd,forall_const,↓reduceIte,↓reduceDIte,↓Qe,Qf,Qg,Qh,Qi,Qj,Qk,Ql,Qm,Qn,Qo,Qp,Qq,Qr,Qs,implies_true,Qt,Qu,Qv,Qw,Qx,Qy,Qz,QA,QB,QC,QD,QE,QF,QG,QH,QI,QJ,QK,QL,QM,QN,QO,QP,QQ]
  refine ⟨fun h=>?_,fun h=>?_⟩
  ·refine LoopC.inv (α:=Nat × List Nat × Nat) (fun x=>m.length - x.1) (fun x=>mkS 67 [(0,.d (W l)),(1,.d (W m)),(5,.lsl 0 1 0 (l.length+m.length)),(17,.d (W l)),(18,.d (.int .i64 l.length)),(19,.d (.int .i64 i)),
     (6,.d (.int .i64 i)),(7,.d (.int .u32 (l.getD i 0:Nat))),(8,.d (.int .u64 x.2.2)),(24,.d (W m)),(25,.d (.int .i64 m.length)),(26,.d (.int .i64 x.1))])
    (fun x=>[.row false (nats .u32 x.2.1)]) (fun x=>x.1≤m.length∧x.2.1.length=l.length+m.length∧Dig x.2.1∧x.2.2<B∧val x.2.1+B ^ (i+x.1)*x.2.2=val o+B ^ i*(l.getD i 0*val (m.take x.1))∧∀ p,i+m.length≤p→x.2.1.getD p 0=0) (0,o,0)
    ⟨by simp,ho,hd,by simp [B],by simp [val],hz⟩ ?_ ?_
   ·refine ⟨[some 0],rfl,by simp,by simp [mkS,SWeak,AWeak],by simp [HWeak,BWeak]⟩
   ·rintro ⟨j,q,c⟩ ⟨hj,hq,hdq,hc,hvq,hzq⟩
    simp only at hj hq hdq hc hvq hzq
    replace hv:=Hid.mk hv
    replace hvq:=Hid.mk hvq
    have p1:=mul_digit (da.getD i) (db.getD j)
    have p2:=hdq.getD (i+j)
    have p3:c<4294967296:=hc
    have p4:q.getD (i+j) 0<4294967296:=p2
    have p5:l.getD i 0<4294967296:=da.getD i
    have p6:m.getD j 0<4294967296:=db.getD j
    simp only [mkS,List.foldl,List.replicate,List.set_cons_zero,List.set_cons_succ]
    simp (config:={maxSteps:=1000000}) (disch:=((try simp only [awL]);omega)) only [↓awU,awV,awF,Qa,Qb,Qc,Qd,forall_const,↓reduceIte,↓reduceDIte,↓Qe,Qf,Qg,Qh,Qi,Qj,Qk,Ql,Qm,Qn,Qo,Qp,Qq,Qr,Qs,implies_true,Qt,Qu,Qv,Qw,Qx,Qy,Qz,QA,QB,QC,QD,QE,QF,QG,QH,QI,QJ,QK,QL,QM,QN,QO,QP,QQ]
    refine ⟨fun h1=>?_,fun h1=>?_⟩
    ·simp only [w_u32,nats_set]
     have hsl:c+(l.getD i 0*m.getD j 0+q.getD (i+j) 0)<B*B:=by simp only [B];omega
     generalize hg:c+(l.getD i 0*m.getD j 0+q.getD (i+j) 0)=s at hsl ⊢
     refine ⟨(j+1,q.set (i+j) (s % B),s / B),⟨by simp only;omega,by simp [hq],hdq.set (Nat.mod_lt _ (by decide)),(Nat.div_lt_iff_lt_mul (by decide)).2 hsl,times_step (by omega) hg.symm hvq.out,fun p hp=>?_⟩,
      by simp only;omega,[some 0],rfl,by simp,by simp [SWeak,AWeak,B],by simp [HWeak,BWeak,w_u32,nats_set,B]⟩
     rw [getD_set_ne (by omega)];exact hzq p hp
    ·have ej:j=m.length:=by omega
     have hvq:=hvq.out
     rw [ej,List.take_of_length_le (Nat.le_refl _),vb] at hvq
     refine ⟨(i+1,q.set (i+m.length) c),⟨by simp only;omega,by simp [hq],hdq.set hc,times_row (by omega) (hzq _ (Nat.le_refl _)) hvq hv.out,fun p hp=>?_⟩,
      by simp only;omega,[some 0],rfl,by simp,by simp [SWeak,AWeak],by simp [HWeak,BWeak]⟩
     rw [getD_set_ne (by omega)];exact hzq p (by omega)
  ·have e:(D.sl (l.length+m.length) false (nats .u32 o))=W o:=by simp [W,ho]
   have ei:i=l.length:=by omega
   rw [e]
   refine CallC.frozen (trimmed_spec _ hd ?_) ?_
   ·omega
   ·rw [hv,ei,List.take_of_length_le (Nat.le_refl _),va]
    simp (config:={maxSteps:=1000000}) (disch:=((try simp only [awL]);omega)) only [↓awU,awV,awF,Qa,Qb,Qc,Qd,forall_const,↓reduceIte,↓reduceDIte,↓Qe,Qf,Qg,Qh,Qi,Qj,Qk,Ql,Qm,Qn,Qo,Qp,Qq,Qr,Qs,implies_true,Qt,Qu,Qv,Qw,Qx,Qy,Qz,QA,QB,QC,QD,QE,QF,QG,QH,QI,QJ,QK,QL,QM,QN,QO,QP,QQ]
end Go.Proofs.YtkgbbdoeodmkgaaGreatDoor.Num
namespace Go.Proofs.YtkgbbdoeodmkgaaGreatDoor.Num
open Go Go.Proofs Go.Abs
variable {G:Globals}
theorem div32 (h x d:Nat) (hh:h<d) (hd:d<B) (hx:x<B):Ctr Tryz.prog G 160 [.d (.int .u32 h),.d (.int .u32 x),.d (.int .u32 d)] []
  (.d (.tup [.int .u32 ((h*B+x) / d:Nat),.int .u32 ((h*B+x) % d:Nat)])) []:=by
 refine Ctr.pure (M:=M0) hmix Tryz.func160 rfl go160 ?_
 have hq:=divmod_step hh hx
 simp only [B] at *
 simp (config:={maxSteps:=1000000}) (disch:=((try simp only [awL]);omega)) only [Tryz.f160,↓awU,awV,awF,Qa,Qb,Qc,Qd,forall_const,↓reduceIte,↓reduceDIte,↓Qe,Qf,Qg,Qh,Qi,Qj,Qk,Ql,Qm,Qn,Qo,Qp,Qq,Qr,Qs,implies_true,Qt,Qu,Qv,Qw,Qx,Qy,Qz,QA,QB,QC,QD,QE,QF,QG,QH,QI,QJ,QK,QL,QM,QN,QO,QP,QQ]
 refine ⟨by rfl,?_⟩
 have hm:(h*4294967296+x) % d<d:=Nat.mod_lt _ (by omega)
 rw [or64 (by omega) hx,← Int.ofNat_tdiv,← Int.ofNat_tmod,w_u64,w_u32,w_u32,Nat.mod_eq_of_lt (a:=(h*4294967296+x) / d) (by omega),Nat.mod_eq_of_lt hq,Nat.mod_eq_of_lt (by omega)]
theorem natural_spec (n:Nat) (hn:n<18446744073709551616):Ctr Tryz.prog G 80 [.d (.int .u64 n)] [] (.d (W (toW n))) []:=by
 refine Ctr.pure (M:=M0) hmix Tryz.func80 rfl go80 ?_
 simp (config:={maxSteps:=1000000}) (disch:=((try simp only [awL]);omega)) only [Tryz.f80,↓awU,awV,awF,Qa,Qb,Qc,Qd,forall_const,↓reduceIte,↓reduceDIte,↓Qe,Qf,Qg,Qh,Qi,Qj,Qk,Ql,Qm,Qn,Qo,Qp,Qq,Qr,Qs,implies_true,Qt,Qu,Qv,Qw,Qx,Qy,Qz,QA,QB,QC,QD,QE,QF,QG,QH,QI,QJ,QK,QL,QM,QN,QO,QP,QQ]
 refine CallC.frozenE (trimmed_spec [n % B,n / B] ?_ (by simp)) ?_ ?_
 ·intro x hx
  simp only [List.mem_cons,List.not_mem_nil,or_false] at hx
  rcases hx with rfl | rfl
  ·exact Nat.mod_lt _ (by decide)
  ·simp only [B];omega
 ·rw [w_u32];rfl
 ·have:val [n % B,n / B]=n:=by simp only [val,Nat.mul_zero,Nat.add_zero];exact Nat.mod_add_div n B
  rw [this]
  simp (config:={maxSteps:=1000000}) (disch:=((try simp only [awL]);omega)) only [↓awU,awV,awF,Qa,Qb,Qc,Qd,forall_const,↓reduceIte,↓reduceDIte,↓Qe,Qf,Qg,Qh,Qi,Qj,Qk,Ql,Qm,Qn,Qo,Qp,Qq,Qr,Qs,implies_true,Qt,Qu,Qv,Qw,Qx,Qy,Qz,QA,QB,QC,QD,QE,QF,QG,QH,QI,QJ,QK,QL,QM,QN,QO,QP,QQ]
def len8:List UInt8:=[0,1,2,2,3,3,3,3,4,4,4,4,4,4,4,4,5,5,5,5,5,5,5,5,5,5,5,5,5,5,5,5,6,6,6,6,6,6,6,6,6,6,6,6,6,6,6,6,6,6,6,6,6,6,6,6,6,6,6,6,6,6,6,6,7,7,7,7,7,7,7,7,7,7,7,7,7,7,7,7,7,7,7,7,7,7,7,7,7,7,7,7,7,7,7,7,7,7,7,7,7,7,7,7,7,7,7,7,7,7,7,7,7,7,7,7,7,7,7,7,7,7,7,7,7,7,7,7,8,8,8,8,8,8,8,8,8,8,8,8,8,8,8,8,8,8,8,8,8,8,8,8,8,8,8,8,8,8,8,8,8,8,8,8,8,8,8,8,8,8,8,8,8,8,8,8,8,8,8,8,8,8,8,8,8,8,8,8,8,8,8,8,8,8,8,8,8,8,8,8,8,8,8,8,8,8,8,8,8,8,8,8,8,8,8,8,8,8,8,8,8,8,8,8,8,8,8,8,8,8,8,8,8,8,8,8,8,8,8,8,8,8,8,8,8,8,8,8,8,8,8,8,8,8,8,8]
theorem len8_tab (s:ByteArray) (hs:s.data.toList=len8):s.size=256∧∀ i,i<256→byteAt s i=((if i=0 then 0 else i.log2+1:Nat):Int):=by
 refine ⟨by rw [ByteArray.size,← Array.length_toList,hs];decide +kernel,fun i hi=>?_⟩
 have:∀ i:Fin 256,((len8.getD i.val 0).toNat:Int)=((if i.val=0 then 0 else i.val.log2+1:Nat):Int):=by decide +kernel
 unfold byteAt
 rw [hs]
 exact this ⟨i,hi⟩
theorem size_len8 {s:ByteArray} (h:s.data.toList=len8):s.size=256:=(len8_tab s h).1
theorem byte_len8 {s:ByteArray} {i:Int} (h:s.data.toList=len8) (h0:0≤i) (h1:i<256):byteAt s i.toNat=((if i.toNat=0 then 0 else i.toNat.log2+1:Nat):Int):=(len8_tab s h).2 _ (by omega)
theorem len32 (n:Nat) (hn:n<B):Ctr Tryz.prog G 154 [.d (.int .u32 n)] [] (.d (.int .i64 (if n=0 then 0 else n.log2+1:Nat))) []:=by
 refine Ctr.pure (M:=M0) hmix Tryz.func154 rfl go154 ?_
 simp only [B] at *
 have l24:(256:Int)≤n / 65536→n≠0∧(n / 65536 / 256)≠0∧n.log2=24+(n / 65536 / 256).log2:=fun h=>by
  have h1:n / 2 ^ 24≠0:=by omega
  have:=log2_shift h1
  rw [show (2:Nat) ^ 24=65536*256 from rfl,← Nat.div_div_eq_div_mul] at this
  exact ⟨by omega,by omega,this⟩
 have l16:(65536:Int)≤n→n≠0∧(n / 65536)≠0∧n.log2=16+(n / 65536).log2:=fun h=>by
  have h1:n / 2 ^ 16≠0:=by omega
  exact ⟨by omega,by omega,log2_shift h1⟩
 have l8:(256:Int)≤n→n≠0∧(n / 256)≠0∧n.log2=8+(n / 256).log2:=fun h=>by
  have h1:n / 2 ^ 8≠0:=by omega
  exact ⟨by omega,by omega,log2_shift h1⟩
 simp (config:={maxSteps:=1000000}) (disch:=((try simp only [awL]);omega)) only [Tryz.f154,↓awU,awV,awF,Qa,Qb,Qc,Qd,forall_const,↓reduceIte,↓reduceDIte,↓Qe,Qf,Qg,Qh,Qi,Qj,Qk,Ql,Qm,Qn,Qo,Qp,Qq,Qr,Qs,implies_true,Qt,Qu,Qv,Qw,Qx,Qy,Qz,QA,QB,QC,QD,QE,QF,QG,QH,QI,QJ,QK,QL,QM,QN,QO,QP,QQ]
 refine ⟨fun h1=>⟨fun h2=>?_,fun h2=>?_⟩,fun h1=>⟨fun h2=>?_,fun h2=>?_⟩⟩
 ·obtain ⟨a,b,c⟩:=l24 h2
  have h8:=(Nat.log2_lt (k:=8) b).2 (by omega)
  rw [size_len8 (by decide +kernel),byte_len8 (by decide +kernel) (by omega) (by omega),show ((n:Int) / 65536 / 256).toNat=n / 65536 / 256 by omega,if_neg b]
  generalize hz:(n / 65536 / 256).log2+1=z
  rw [wr_i64 (x:=(z:Int)) (by omega) (by omega),wr_i64 (by omega) (by omega)]
  omega
 ·obtain ⟨a,b,c⟩:=l16 h1
  have h8:=(Nat.log2_lt (k:=8) b).2 (by omega)
  rw [size_len8 (by decide +kernel),byte_len8 (by decide +kernel) (by omega) (by omega),show ((n:Int) / 65536).toNat=n / 65536 by omega,if_neg b]
  generalize hz:(n / 65536).log2+1=z
  rw [wr_i64 (x:=(z:Int)) (by omega) (by omega),wr_i64 (by omega) (by omega)]
  omega
 ·obtain ⟨a,b,c⟩:=l8 h2
  have h8:=(Nat.log2_lt (k:=8) b).2 (by omega)
  rw [size_len8 (by decide +kernel),byte_len8 (by decide +kernel) (by omega) (by omega),show ((n:Int) / 256).toNat=n / 256 by omega,if_neg b]
  generalize hz:(n / 256).log2+1=z
  rw [wr_i64 (x:=(z:Int)) (by omega) (by omega),wr_i64 (by omega) (by omega)]
  omega
 ·rw [size_len8 (by decide +kernel),(len8_tab _ (by decide +kernel)).2 n (by omega)]
  have h8:(if n=0 then 0 else n.log2+1:Nat)≤8:=by
   split
   ·omega
   ·rename_i h;have:=(Nat.log2_lt (k:=8) h).2 (by omega);omega
  generalize (if n=0 then 0 else n.log2+1:Nat)=z at *
  rw [wr_i64 (x:=(z:Int)) (by omega) (by omega),wr_i64 (by omega) (by omega)]
  omega
theorem lz32 (n:Nat) (h0:n≠0) (hn:n<B):Ctr Tryz.prog G 132 [.d (.int .u32 n)] [] (.d (.int .i64 (31 - n.log2:Nat))) []:=by
 refine Ctr.pure (M:=M0) hmix Tryz.func132 rfl go132 ?_
 have h8:=(Nat.log2_lt (k:=32) h0).2 hn
 simp (config:={maxSteps:=1000000}) (disch:=((try simp only [awL]);omega)) only [Tryz.f132,↓awU,awV,awF,Qa,Qb,Qc,Qd,forall_const,↓reduceIte,↓reduceDIte,↓Qe,Qf,Qg,Qh,Qi,Qj,Qk,Ql,Qm,Qn,Qo,Qp,Qq,Qr,Qs,implies_true,Qt,Qu,Qv,Qw,Qx,Qy,Qz,QA,QB,QC,QD,QE,QF,QG,QH,QI,QJ,QK,QL,QM,QN,QO,QP,QQ]
 refine CallC.pure (len32 n hn) ?_
 rw [if_neg h0]
 simp (config:={maxSteps:=1000000}) (disch:=((try simp only [awL]);omega)) only [↓awU,awV,awF,Qa,Qb,Qc,Qd,forall_const,↓reduceIte,↓reduceDIte,↓Qe,Qf,Qg,Qh,Qi,Qj,Qk,Ql,Qm,Qn,Qo,Qp,Qq,Qr,Qs,implies_true,Qt,Qu,Qv,Qw,Qx,Qy,Qz,QA,QB,QC,QD,QE,QF,QG,QH,QI,QJ,QK,QL,QM,QN,QO,QP,QQ]
theorem short_spec (a d:Nat) (hd:0<d) (hdB:d<B) (ha:(toW a).length<2 ^ 40) :
  Ctr Tryz.prog G 131 [.d (W (toW a)),.d (.int .u32 d)] [] (.d (.tup [W (toW (a / d)),.int .u32 (a % d:Nat)])) []:=by
 have da:=dig_toW a
 have va:=val_toW a
 generalize toW a=l at *
 refine Ctr.pure (M:=M0) hmix Tryz.func131 rfl go131 ?_
 simp (config:={maxSteps:=1000000}) (disch:=((try simp only [awL]);omega)) only [Tryz.f131,↓awU,awV,awF,Qa,Qb,Qc,Qd,forall_const,↓reduceIte,↓reduceDIte,↓Qe,Qf,Qg,Qh,Qi,Qj,Qk,Ql,Qm,Qn,Qo,Qp,Qq,Qr,Qs,implies_true,Qt,Qu,Qv,Qw,Qx,Qy,Qz,QA,QB,QC,QD,QE,QF,QG,QH,QI,QJ,QK,QL,QM,QN,QO,QP,QQ]
 refine LoopC.fr 67 (α:=Nat × List Nat × Nat) (fun x=>x.1) (fun x=>[(7,.d (.int .u32 x.2.2)),(8,.d (.int .i64 ((x.1:Int) - 1)))])
  (fun x=>[.row false (nats .u32 (List.replicate x.1 0++x.2.1))]) (fun x=>x.1≤l.length∧x.2.1.length+x.1=l.length∧Dig x.2.1∧x.2.2<d∧val (l.drop x.1)=val x.2.1*d+x.2.2) (l.length,[],0) ⟨by simp,by simp,by simp [Dig],hd,by simp [val]⟩ ?_ ?_
 ·exact ⟨[some 0],rfl,by simp,by simp [setsA,keepA,SWeak,AWeak],by simp [HWeak,BWeak,SWeak,AWeak]⟩
 ·rintro ⟨k,q,r⟩ ⟨hk,hq,hdq,hr,hv⟩
  simp only at hk hq hdq hr hv
  rcases k with _ | k
  ·simp (config:={maxSteps:=1000000}) (disch:=((try simp only [awL]);omega)) only [↓awU,awV,awF,Qa,Qb,Qc,Qd,forall_const,↓reduceIte,↓reduceDIte,↓Qe,Qf,Qg,Qh,Qi,Qj,Qk,Ql,Qm,Qn,Qo,Qp,Qq,Qr,Qs,implies_true,Qt,Qu,Qv,Qw,Qx,Qy,Qz,QA,QB,QC,QD,QE,QF,QG,QH,QI,QJ,QK,QL,QM,QN,QO,QP,QQ]
   simp only [Nat.add_zero] at hq
   rw [List.drop_zero,va] at hv
   have e:D.sl l.length false (nats .u32 ([]++q))=W q:=by simp [W,hq]
   refine CallC.frozenE (trimmed_spec q hdq (by omega)) (by rw [← e];simp [List.replicate]) ?_
   have e1:a / d=val q:=by rw [hv,Nat.mul_comm];rw [Nat.mul_add_div hd,Nat.div_eq_of_lt hr];rfl
   have e2:a % d=r:=by rw [hv,Nat.mul_comm,Nat.mul_add_mod,Nat.mod_eq_of_lt hr]
   rw [e1,e2]
   simp (config:={maxSteps:=1000000}) (disch:=((try simp only [awL]);omega)) only [↓awU,awV,awF,Qa,Qb,Qc,Qd,forall_const,↓reduceIte,↓reduceDIte,↓Qe,Qf,Qg,Qh,Qi,Qj,Qk,Ql,Qm,Qn,Qo,Qp,Qq,Qr,Qs,implies_true,Qt,Qu,Qv,Qw,Qx,Qy,Qz,QA,QB,QC,QD,QE,QF,QG,QH,QI,QJ,QK,QL,QM,QN,QO,QP,QQ]
  ·simp (config:={maxSteps:=1000000}) (disch:=((try simp only [awL]);omega)) only [↓awU,awV,awF,Qa,Qb,Qc,Qd,forall_const,↓reduceIte,↓reduceDIte,↓Qe,Qf,Qg,Qh,Qi,Qj,Qk,Ql,Qm,Qn,Qo,Qp,Qq,Qr,Qs,implies_true,Qt,Qu,Qv,Qw,Qx,Qy,Qz,QA,QB,QC,QD,QE,QF,QG,QH,QI,QJ,QK,QL,QM,QN,QO,QP,QQ]
   refine CallC.pure (div32 r _ d hr hdB (da.getD k)) ?_
   simp (config:={maxSteps:=1000000}) (disch:=((try simp only [awL]);omega)) only [↓awU,awV,awF,Qa,Qb,Qc,Qd,forall_const,↓reduceIte,↓reduceDIte,↓Qe,Qf,Qg,Qh,Qi,Qj,Qk,Ql,Qm,Qn,Qo,Qp,Qq,Qr,Qs,implies_true,Qt,Qu,Qv,Qw,Qx,Qy,Qz,QA,QB,QC,QD,QE,QF,QG,QH,QI,QJ,QK,QL,QM,QN,QO,QP,QQ]
   refine ⟨(k,(r*B+l.getD k 0) / d::q,(r*B+l.getD k 0) % d),⟨by simp only;omega,by simp;omega,fun x hx=>?_,Nat.mod_lt _ hd,short_step (by omega) hv⟩,by simp only;omega,
    [some 0],rfl,by simp,by simp [SWeak,AWeak],by simp [HWeak,BWeak,set_rep]⟩
   rcases List.mem_cons.1 hx with rfl | hx
   ·exact divmod_step hr (da.getD k)
   ·exact hdq x hx
end Go.Proofs.YtkgbbdoeodmkgaaGreatDoor.Num
namespace Go.Proofs.YtkgbbdoeodmkgaaGreatDoor.Num
open Go Go.Proofs Go.Abs
theorem kn_first {U V P top u3 lu d1 d2 lv g:Nat} (hU:U=(top*B+u3)*P+lu) (hlu:lu<P) (hV:V=(d1*B+d2)*P+lv) (hu3:u3<B) (hUV:U<V*B)
  (hg:top<(g+1)*d1∨g+1=B):U<(g+1)*V:=by
 rcases hg with hg | hg
 ·have h1:(top+1)*(B*P)≤((g+1)*d1)*(B*P):=Nat.mul_le_mul_right _ hg
  have h2:U<(top+1)*(B*P):=by
   have h3:(u3+1)*P≤B*P:=Nat.mul_le_mul_right _ hu3
   rw [hU,Nat.add_mul,Nat.add_mul,Nat.one_mul,Nat.mul_assoc]
   rw [Nat.add_mul,Nat.one_mul] at h3
   omega
  have h4:((g+1)*d1)*(B*P)≤(g+1)*V:=by
   rw [Nat.mul_assoc]
   refine Nat.mul_le_mul_left _ ?_
   rw [hV,Nat.add_mul,← Nat.mul_assoc]
   omega
  omega
 ·rw [hg,Nat.mul_comm];exact hUV
theorem kn_down {U V P top u3 lu d1 d2 lv g rest:Nat} (hU:U=(top*B+u3)*P+lu) (hlu:lu<P) (hV:V=(d1*B+d2)*P+lv)
  (hr:g*d1+rest=top) (hgt:rest*B+u3<g*d2):U<g*V:=by
 have h1:U<(top*B+u3+1)*P:=by rw [hU,Nat.add_mul (top*B+u3),Nat.one_mul];omega
 have h2:(top*B+u3+1)*P≤(g*(d1*B+d2))*P:=by
  refine Nat.mul_le_mul_right _ ?_
  rw [← hr,Nat.mul_add,Nat.add_mul,Nat.mul_assoc]
  omega
 have h3:(g*(d1*B+d2))*P≤g*V:=by
  rw [Nat.mul_assoc]
  refine Nat.mul_le_mul_left _ ?_
  omega
 omega
theorem kn_exit {U V P top u3 lu d1 d2 lv g rest:Nat} (hU:U=(top*B+u3)*P+lu) (hV:V=(d1*B+d2)*P+lv) (hlv:lv<P) (hd1:1≤d1) (hd2:d2<B) (hg:g<B)
  (hr:g*d1+rest=top) (hle:B≤rest∨g*d2≤rest*B+u3):g*V<U+V:=by
 have hle:g*d2≤rest*B+u3:=by
  rcases hle with h | h
  ·have h1:g*d2≤B*B:=Nat.mul_le_mul (Nat.le_of_lt hg) (Nat.le_of_lt hd2)
   have h2:B*B≤rest*B:=Nat.mul_le_mul_right _ h
   omega
  ·exact h
 have h1:(g*(d1*B+d2))*P≤(top*B+u3)*P:=by
  refine Nat.mul_le_mul_right _ ?_
  rw [← hr,Nat.mul_add,Nat.add_mul,Nat.mul_assoc]
  omega
 have h2:g*V=(g*(d1*B+d2))*P+g*lv:=by rw [hV,Nat.mul_add,Nat.mul_assoc]
 have h3:B*P≤V:=by
  rw [hV,Nat.add_mul,Nat.mul_assoc]
  have:1*(B*P)≤d1*(B*P):=Nat.mul_le_mul_right _ hd1
  omega
 have h4:g*lv<B*P:=by
  have h5:g*lv≤g*P:=Nat.mul_le_mul_left _ (Nat.le_of_lt hlv)
  have h6:(g+1)*P≤B*P:=Nat.mul_le_mul_right _ hg
  rw [Nat.add_mul,Nat.one_mul] at h6
  omega
 omega
theorem val_top2 {d:List Nat} {n:Nat} (h:d.length=n+2):val d=(d.getD (n+1) 0*B+d.getD n 0)*B ^ n+val (d.take n):=by
 have e:d=d.take (n+2):=by rw [← h,List.take_length]
 rw [e,take_val d (n+1),take_val d n,← e]
 rw [Nat.pow_succ,Nat.add_mul,Nat.mul_assoc (B ^ n),Nat.mul_comm (B ^ n) (d.getD n 0),Nat.mul_comm (B ^ n),Nat.mul_comm B (d.getD _ 0)]
 omega
theorem val_top3 {u:List Nat} {n:Nat} (h:u.length=n+3):val u=((u.getD (n+2) 0*B+u.getD (n+1) 0)*B+u.getD n 0)*B ^ n+val (u.take n):=by
 have e:u=u.take (n+3):=by rw [← h,List.take_length]
 rw [e,take_val u (n+2),take_val u (n+1),take_val u n,← e]
 generalize u.getD n 0=a
 generalize u.getD (n+1) 0=b
 generalize u.getD (n+2) 0=c
 have e1:B ^ (n+1)*b=b*B*B ^ n:=by rw [Nat.pow_succ,Nat.mul_assoc,Nat.mul_comm (B ^ n),Nat.mul_comm B b]
 have e2:B ^ (n+2)*c=c*B*B*B ^ n:=by rw [Nat.pow_succ,Nat.pow_succ];generalize B ^ n=p;ac_rfl
 rw [e1,e2,Nat.add_mul,Nat.add_mul,Nat.add_mul,Nat.mul_comm (B ^ n) a]
 omega
theorem take_lt {l:List Nat} (h:Dig l) (n:Nat):val (l.take n)<B ^ n:=by
 have h1:=val_lt (h.take n)
 have h2:(l.take n).length≤n:=by simp;omega
 exact Nat.lt_of_lt_of_le h1 (Nat.pow_le_pow_right (by decide) h2)
theorem dg_step {done u d:List Nat} {i g c b dig low c' b':Nat} (hi:done.length=i) (h1:dig+low+b=u.getD i 0+B*b') (h2:low+B*c'=c+g*d.getD i 0)
  (hv:val done+g*val (d.take i)=val (u.take i)+B ^ i*(c+b)):val (done++[dig])+g*val (d.take (i+1))=val (u.take (i+1))+B ^ (i+1)*(c'+b'):=by
 rw [val_append,hi,take_val d i,take_val u i]
 simp only [val,Nat.mul_zero,Nat.add_zero]
 have e1:g*(val (d.take i)+B ^ i*d.getD i 0)=g*val (d.take i)+B ^ i*(g*d.getD i 0):=by rw [Nat.mul_add,Nat.mul_left_comm g]
 have e2:B ^ (i+1)*(c'+b')=B ^ i*(B*c'+B*b'):=by rw [Nat.pow_succ,Nat.mul_assoc,Nat.mul_add]
 have e3:B ^ i*(dig+g*d.getD i 0+c+b)=B ^ i*(u.getD i 0+(B*c'+B*b')):=by congr 1;omega
 rw [e1,e2]
 simp only [Nat.mul_add] at e3 hv ⊢
 omega
theorem ab_step {done u d:List Nat} {i a s:Nat} (hi:done.length=i) (hs:s=u.getD i 0+d.getD i 0+a) (hv:val done+B ^ i*a=val (u.take i)+val (d.take i)) :
  val (done++[s % B])+B ^ (i+1)*(s / B)=val (u.take (i+1))+val (d.take (i+1)):=by
 rw [val_append,hi,take_val d i,take_val u i]
 simp only [val,Nat.mul_zero,Nat.add_zero]
 have e2:B ^ (i+1)*(s / B)=B ^ i*(B*(s / B)):=by rw [Nat.pow_succ,Nat.mul_assoc]
 have e3:B ^ i*(s % B+B*(s / B))=B ^ i*(u.getD i 0+d.getD i 0+a):=by rw [Nat.mod_add_div,hs]
 rw [e2]
 simp only [Nat.mul_add] at e3 ⊢
 omega
theorem dg_fit {U V g r P:Nat} (h1:U<(g+1)*V) (hv:r+g*V=U+P*0):U / V=g∧U % V=r:=by
 rw [Nat.mul_zero,Nat.add_zero] at hv
 rw [Nat.add_mul,Nat.one_mul] at h1
 have hr:r<V:=by omega
 subst hv
 refine ⟨?_,?_⟩
 ·rw [Nat.mul_comm g,Nat.add_mul_div_left _ _ (by omega),Nat.div_eq_of_lt hr,Nat.zero_add]
 ·rw [Nat.mul_comm g,Nat.add_mul_mod_self_left,Nat.mod_eq_of_lt hr]
theorem dg_back {U V g r P r3 x3 dn a:Nat} (h2:g*V<U+V) (hV:V<P) (hr:r<P) (hv:r+g*V=U+P*1) (hb:dn+x3=r+V - 0) (h3:r3=dn+x3∨r3+P=dn+x3) (hr3:r3<P) (ha:a=g):U / V=g - 1∧U % V=r3:=by
 subst ha
 rw [Nat.mul_one] at hv
 rcases Nat.eq_zero_or_pos a with h0 | h0
 ·subst h0;omega
 obtain ⟨m,rfl⟩:∃ m,a=m+1:=⟨a - 1,by omega⟩
 rw [Nat.add_mul,Nat.one_mul] at hv h2
 have e:r3+m*V=U:=by omega
 have hlt:r3<V:=by omega
 rw [Nat.add_sub_cancel]
 subst e
 refine ⟨?_,?_⟩
 ·rw [Nat.mul_comm m,Nat.add_mul_div_left _ _ (by omega),Nat.div_eq_of_lt hlt,Nat.zero_add]
 ·rw [Nat.mul_comm m,Nat.add_mul_mod_self_left,Nat.mod_eq_of_lt hlt]
theorem or_low {a c sh:Nat} (ha:a<2 ^ sh):a ||| c*2 ^ sh=a+c*2 ^ sh:=by
 have:=Nat.shiftLeft_add_eq_or_of_lt (i:=sh) (a:=c) (b:=a) ha
 rw [Nat.shiftLeft_eq] at this
 rw [Nat.or_comm,← this,Nat.add_comm]
theorem low_mul {x sh:Nat} (h:sh<32):x*2 ^ sh % 4294967296=x % 2 ^ (32 - sh)*2 ^ sh:=by
 have:(4294967296:Nat)=2 ^ (32 - sh)*2 ^ sh:=by rw [← Nat.pow_add,show 32 - sh+sh=32 by omega]
 rw [this,Nat.mul_mod_mul_right]
theorem sh_step {q l:List Nat} {k c x sh:Nat} (hq:q.length=k) (hx:l.getD k 0=x) (hv:val q+B ^ k*c=val (l.take k)*2 ^ sh) :
  val (q++[c+x*2 ^ sh % B])+B ^ (k+1)*(x*2 ^ sh / B)=val (l.take (k+1))*2 ^ sh:=by
 rw [val_append,hq,take_val l k,hx]
 simp only [val,Nat.mul_zero,Nat.add_zero]
 have h1:=Nat.mod_add_div (x*2 ^ sh) B
 have e1:B ^ (k+1)*(x*2 ^ sh / B)=B ^ k*(B*(x*2 ^ sh / B)):=by rw [Nat.pow_succ,Nat.mul_assoc]
 have e2:(val (l.take k)+B ^ k*x)*2 ^ sh=val (l.take k)*2 ^ sh+B ^ k*(x*2 ^ sh):=by rw [Nat.add_mul,Nat.mul_assoc]
 rw [e1,e2,← hv]
 have e3:B ^ k*(x*2 ^ sh % B+B*(x*2 ^ sh / B))=B ^ k*(x*2 ^ sh):=by rw [h1]
 simp only [Nat.mul_add] at e3 ⊢
 omega
end Go.Proofs.YtkgbbdoeodmkgaaGreatDoor.Num
namespace Go.Proofs.YtkgbbdoeodmkgaaGreatDoor.Num
open Go Go.Proofs Go.Abs
variable {G:Globals}
theorem app_getD {pre u post:List Nat} {i j:Nat} (hj:pre.length=j) (hi:i<u.length):(pre++(u++post)).getD (j+i) 0=u.getD i 0:=by
 subst hj
 simp only [List.getD_eq_getElem?_getD]
 rw [List.getElem?_append_right (by omega),List.getElem?_append_left (by omega),Nat.add_sub_cancel_left]
def win (pre done u post:List Nat):List Nat:=pre++(done++(u.drop done.length++post))
theorem win_nil {pre u post:List Nat}:win pre [] u post=pre++(u++post):=rfl
theorem win_length {pre done u post:List Nat} (h:done.length≤u.length):(win pre done u post).length=pre.length+u.length+post.length:=by simp [win];omega
theorem win_getD {pre done u post:List Nat} (h:done.length<u.length):(win pre done u post).getD (pre.length+done.length) 0=u.getD done.length 0:=by
 unfold win
 simp only [List.getD_eq_getElem?_getD]
 rw [List.getElem?_append_right (by omega),Nat.add_sub_cancel_left,List.getElem?_append_right (by omega),Nat.sub_self,List.getElem?_append_left (by simp;omega),List.getElem?_drop,Nat.add_zero]
theorem win_set {pre done u post:List Nat} {v:Nat} (h:done.length<u.length):(win pre done u post).set (pre.length+done.length) v=win pre (done++[v]) u post:=by
 unfold win
 rw [List.set_append_right _ _ (by omega),Nat.add_sub_cancel_left,List.set_append_right _ _ (by omega),Nat.sub_self,List.drop_eq_getElem_cons h,List.cons_append,List.set_cons_zero,List.length_append,List.length_singleton,List.append_assoc]
 rfl
set_option maxHeartbeats 4000000 in
set_option maxRecDepth 100000 in
theorem digit_spec (pre u post d ex:List Nat) (n:Nat) (hd:d.length=n+2) (hu:u.length=n+3) (dd:Dig d) (du:Dig u) (hUV:val u<val d*B) (hn:2147483648≤d.getD (n+1) 0) (hl:pre.length+u.length+post.length<2 ^ 40) :
  Ctr Tryz.prog G 134 [.lsl 0 1 pre.length (n+3),.lsl 1 1 0 (n+2)] [.row false (nats .u32 (pre++(u++post))),.row false (nats .u32 (d++ex))] (.d (.int .u32 (val u / val d:Nat)))
   [.row false (nats .u32 (pre++(digs (n+3) (val u % val d)++post))),.row false (nats .u32 (d++ex))]:=by
 refine Ctr.body (M:=M0) hmix Tryz.func134 rfl go134 ?_
 have de:∀ i,i<n+2→(d++ex).getD i 0=d.getD i 0:=fun i hi=>by simp only [List.getD_eq_getElem?_getD];rw [List.getElem?_append_left (by omega)]
 have dl:(d++ex).length=n+2+ex.length:=by simp;omega
 generalize hrow:d++ex=dr at *
 have g1:(pre++(u++post)).getD (pre.length+(n+2)) 0=u.getD (n+2) 0:=app_getD rfl (by omega)
 have g2:(pre++(u++post)).getD (pre.length+(n+1)) 0=u.getD (n+1) 0:=app_getD rfl (by omega)
 have g3:(pre++(u++post)).getD (pre.length+n) 0=u.getD n 0:=app_getD rfl (by omega)
 have p1:u.getD (n+2) 0<4294967296:=du.getD _
 have p2:u.getD (n+1) 0<4294967296:=du.getD _
 have p3:u.getD n 0<4294967296:=du.getD _
 have q1:d.getD (n+1) 0<4294967296:=dd.getD _
 have q2:d.getD n 0<4294967296:=dd.getD _
 have hpl:(pre++(u++post)).length=pre.length+u.length+post.length:=by simp;omega
 generalize ho:pre++(u++post)=o at *
 have hU:=val_top3 hu
 have hV:=val_top2 hd
 have hlu:=take_lt du n
 have hlv:=take_lt dd n
 rw [show n+3=(n+2)+1 from rfl]
 generalize ht:u.getD (n+2) 0*B+u.getD (n+1) 0=top at hU
 have ht':u.getD (n+2) 0*4294967296+u.getD (n+1) 0=top:=by simpa only [B] using ht
 have htl:top<18446744073709551616:=by omega
 have hqt:=Nat.div_le_self top (d.getD (n+1) 0)
 have eg:(if (4294967295:Int)<((top / d.getD (n+1) 0:Nat):Int) then (4294967295:Int) else ((top / d.getD (n+1) 0:Nat):Int))=((min (top / d.getD (n+1) 0) 4294967295:Nat):Int):=by
  split<;>omega
 have hg0:min (top / d.getD (n+1) 0) 4294967295*d.getD (n+1) 0≤top:=Nat.le_trans (Nat.mul_le_mul_right _ (Nat.min_le_left _ _)) (Nat.div_mul_le_self _ _)
 have hg1:top<(min (top / d.getD (n+1) 0) 4294967295+1)*d.getD (n+1) 0∨min (top / d.getD (n+1) 0) 4294967295+1=B:=by
  by_cases h:top / d.getD (n+1) 0≤4294967295
  ·rw [Nat.min_eq_left h];left
   rw [Nat.mul_comm];exact Nat.lt_mul_div_succ top (by omega)
  ·right;rw [Nat.min_eq_right (by omega)];rfl
 have hg2:min (top / d.getD (n+1) 0) 4294967295<B:=by simp only [B];omega
 have hK:=kn_first (g:=min (top / d.getD (n+1) 0) 4294967295) hU hlu hV p3 hUV hg1
 generalize hg:min (top / d.getD (n+1) 0) 4294967295=g0 at *
 have hr0:((top:Nat):Int) - ((g0*d.getD (n+1) 0:Nat):Int)=((top - g0*d.getD (n+1) 0:Nat):Int):=by omega
 simp (config:={maxSteps:=1000000}) (disch:=((try simp only [awL]);omega)) only [Tryz.f134,hd,dl,de,or64,g1,g2,g3,ht',← Int.ofNat_tdiv,eg,hr0,↓awU,awV,awF,Qa,Qb,Qc,Qd,forall_const,↓reduceIte,↓reduceDIte,↓Qe,Qf,Qg,Qh,Qi,Qj,Qk,Ql,Qm,Qn,Qo,Qp,Qq,Qr,Qs,implies_true,Qt,Qu,Qv,Qw,Qx,Qy,Qz,QA,QB,QC,QD,QE,QF,QG,QH,QI,QJ,QK,QL,QM,QN,QO,QP,QQ]
 refine ⟨by rfl,?_⟩
 refine LoopC.fx 35 (α:=Nat × Nat) (β:=Nat) (fun x=>x.1) (fun x=>[(7,.d (.int .u64 x.1)),(8,.d (.int .u64 x.2))])
  (fun _=>[.row false (nats .u32 o),.row false (nats .u32 dr)]) (fun x=>x.1<B∧val u<(x.1+1)*val d∧x.1*d.getD (n+1) 0+x.2=top)
  35 (fun g=>[(7,.d (.int .u64 g))]) (fun _=>[.row false (nats .u32 o),.row false (nats .u32 dr)]) (fun g=>g<B∧val u<(g+1)*val d∧g*val d<val u+val d) (g0,top - g0*d.getD (n+1) 0) ⟨hg2,hK,by simp only;omega⟩ ?_ ?_ ?_
 ·exact ⟨[some 0,some 1],rfl,by simp,by simp [setsA,keepA,SWeak,AWeak],by simp [HWeak,BWeak,SWeak,AWeak]⟩
 ·rintro ⟨g,r⟩ ⟨hgB,hgU,hgr⟩
  simp only at hgB hgU hgr
  simp only [awK,Nat.reduceMod,Nat.reduceDiv,reduceIte]
  have hE:∀ {g r},g<B→g*d.getD (n+1) 0+r=top→(B≤r∨g*d.getD n 0≤r*B+u.getD n 0)→g*val d<val u+val d :=
   fun a b c=>kn_exit hU hV hlv (by omega) q2 a b c
  have hD:∀ {g r},g*d.getD (n+1) 0+r=top→r*B+u.getD n 0<g*d.getD n 0→val u<g*val d:=fun a b=>kn_down hU hlu hV a b
  clear hU hV hlu hlv hUV hK hg1 eg hr0 hg0 hg2 hqt hg
  replace hgU:=Hid.mk hgU
  rcases g with _ | g
  ·simp (config:={maxSteps:=1000000}) (disch:=((try simp only [awL]);omega)) only [dl,de,or64,g1,g2,g3,ht',Int.zero_mul,↓awU,awV,awF,Qa,Qb,Qc,Qd,forall_const,↓reduceIte,↓reduceDIte,↓Qe,Qf,Qg,Qh,Qi,Qj,Qk,Ql,Qm,Qn,Qo,Qp,Qq,Qr,Qs,implies_true,Qt,Qu,Qv,Qw,Qx,Qy,Qz,QA,QB,QC,QD,QE,QF,QG,QH,QI,QJ,QK,QL,QM,QN,QO,QP,QQ]
   have e0:0*val d<val u+val d:=hE hgB hgr (.inr (by simp))
   exact ⟨fun h=>⟨by rfl,0,⟨by decide,hgU.out,e0⟩,⟨[some 0,some 1],rfl,by simp,by simp [setsA,keepA,SWeak,AWeak],by simp [HWeak,BWeak,SWeak,AWeak]⟩⟩,fun h=>⟨by rfl,0,⟨by decide,hgU.out,e0⟩,⟨[some 0,some 1],rfl,by simp,by simp [setsA,keepA,SWeak,AWeak],by simp [HWeak,BWeak,SWeak,AWeak]⟩⟩⟩
  ·have hgd:(g+1)*d.getD n 0≤18446744065119617025:=mul_digit hgB (dd.getD n)
   have hgB':g+1<4294967296:=by simpa only [B] using hgB
   simp (config:={maxSteps:=1000000}) (disch:=((try simp only [awL]);omega)) only [dl,de,or64,g1,g2,g3,ht',↓awU,awV,awF,Qa,Qb,Qc,Qd,forall_const,↓reduceIte,↓reduceDIte,↓Qe,Qf,Qg,Qh,Qi,Qj,Qk,Ql,Qm,Qn,Qo,Qp,Qq,Qr,Qs,implies_true,Qt,Qu,Qv,Qw,Qx,Qy,Qz,QA,QB,QC,QD,QE,QF,QG,QH,QI,QJ,QK,QL,QM,QN,QO,QP,QQ]
   refine ⟨fun h=>⟨by rfl,fun h2=>⟨(g,r+d.getD (n+1) 0),⟨?_,hD hgr (by simp only [B];omega),?_⟩,by simp only;omega,⟨[some 0,some 1],rfl,by simp,by simp [setsA,keepA,SWeak,AWeak],by simp [HWeak,BWeak,SWeak,AWeak]⟩⟩,
    fun h2=>⟨g+1,⟨hgB,hgU.out,hE hgB hgr (.inr (by simp only [B];omega))⟩,⟨[some 0,some 1],rfl,by simp,by simp [setsA,keepA,SWeak,AWeak],by simp [HWeak,BWeak,SWeak,AWeak]⟩⟩⟩,fun h=>⟨by rfl,g+1,⟨hgB,hgU.out,hE hgB hgr (.inl (by simp only [B];omega))⟩,⟨[some 0,some 1],rfl,by simp,by simp [setsA,keepA,SWeak,AWeak],by simp [HWeak,BWeak,SWeak,AWeak]⟩⟩⟩
   ·simp only;omega
   ·simp only
    rw [Nat.add_mul,Nat.one_mul] at hgr
    omega
 ·rintro g ⟨hgB,hgU,hgV⟩
  simp only [awK,Nat.reduceMod,Nat.reduceDiv,reduceIte]
  clear eg hr0 hg0 hg2 hqt hg hK hg1
  replace hU:=Hid.mk hU
  replace hV:=Hid.mk hV
  replace hlu:=Hid.mk hlu
  replace hlv:=Hid.mk hlv
  replace hgU:=Hid.mk hgU
  replace hgV:=Hid.mk hgV
  replace hUV:=Hid.mk hUV
  replace ht:=Hid.mk ht
  have hgB':g<4294967296:=by simpa only [B] using hgB
  simp (config:={maxSteps:=1000000}) (disch:=((try simp only [awL]);omega)) only [dl,de,↓awU,awV,awF,Qa,Qb,Qc,Qd,forall_const,↓reduceIte,↓reduceDIte,↓Qe,Qf,Qg,Qh,Qi,Qj,Qk,Ql,Qm,Qn,Qo,Qp,Qq,Qr,Qs,implies_true,Qt,Qu,Qv,Qw,Qx,Qy,Qz,QA,QB,QC,QD,QE,QF,QG,QH,QI,QJ,QK,QL,QM,QN,QO,QP,QQ]
  refine LoopC.fx 14507109835375550096474275 (α:=List Nat × Nat × Nat) (β:=List Nat × Nat × Nat) (fun x=>n+2 - x.1.length) (fun x=>[(9,.d (.int .u32 x.2.1)),(10,.d (.int .u64 x.2.2)),(84,.d (.int .i64 x.1.length))])
   (fun x=>[.row false (nats .u32 (win pre x.1 u post)),.row false (nats .u32 dr)]) (fun x=>x.1.length≤n+2∧Dig x.1∧x.2.1≤1∧x.2.2<B∧val x.1+g*val (d.take x.1.length)=val (u.take x.1.length)+B ^ x.1.length*(x.2.2+x.2.1))
   163 (fun x=>[(9,.d (.int .u32 x.2.1)),(10,.d (.int .u64 x.2.2))]) (fun x=>[.row false (nats .u32 (win pre x.1 u post)),.row false (nats .u32 dr)]) (fun x=>x.1.length=n+2∧Dig x.1∧x.2.1≤1∧x.2.2<B∧val x.1+g*val d=val (u.take (n+2))+B ^ (n+2)*(x.2.2+x.2.1))
   ([],0,0) ⟨by simp,by simp [Dig],by simp,by simp [B],by simp [val]⟩ ?_ ?_ ?_
  ·exact ⟨[some 0,some 1],rfl,by simp,by simp [setsA,keepA,SWeak,AWeak],by simp [HWeak,BWeak,win_nil,ho]⟩
  ·rintro ⟨done,b,c⟩ ⟨hi,hdd,hb,hc,hv⟩
   simp only at hi hdd hb hc hv
   simp only [awK,Nat.reduceMod,Nat.reduceDiv,reduceIte]
   replace hv:=Hid.mk hv
   have w1:(win pre done u post).getD (pre.length+done.length) 0=u.getD done.length 0:=win_getD (by omega)
   have w3:(win pre done u post).length=pre.length+u.length+post.length:=win_length (by omega)
   have hcB:c<4294967296:=by simpa only [B] using hc
   have m1:g*d.getD done.length 0≤18446744065119617025:=mul_digit hgB (dd.getD _)
   have m2:u.getD done.length 0<4294967296:=du.getD _
   have m3:d.getD done.length 0<4294967296:=dd.getD _
   simp (config:={maxSteps:=1000000}) (disch:=((try simp only [awL]);omega)) only [w1,w3,hd,dl,de,w_u32,↓awU,awV,awF,Qa,Qb,Qc,Qd,forall_const,↓reduceIte,↓reduceDIte,↓Qe,Qf,Qg,Qh,Qi,Qj,Qk,Ql,Qm,Qn,Qo,Qp,Qq,Qr,Qs,implies_true,Qt,Qu,Qv,Qw,Qx,Qy,Qz,QA,QB,QC,QD,QE,QF,QG,QH,QI,QJ,QK,QL,QM,QN,QO,QP,QQ]
   refine ⟨fun h=>?_,fun h=>?_⟩
   ·refine CallC.pure (sub32 _ _ _ (du.getD _) (Nat.mod_lt _ (by decide)) hb) ?_
    have w2:∀ v,(win pre done u post).set (pre.length+done.length) v=win pre (done++[v]) u post:=fun v=>win_set (by omega)
    simp (config:={maxSteps:=1000000}) (disch:=((try simp only [awL]);omega)) only [w1,w2,w3,hd,dl,de,↓awU,awV,awF,Qa,Qb,Qc,Qd,forall_const,↓reduceIte,↓reduceDIte,↓Qe,Qf,Qg,Qh,Qi,Qj,Qk,Ql,Qm,Qn,Qo,Qp,Qq,Qr,Qs,implies_true,Qt,Qu,Qv,Qw,Qx,Qy,Qz,QA,QB,QC,QD,QE,QF,QG,QH,QI,QJ,QK,QL,QM,QN,QO,QP,QQ]
    have hsl:c+g*d.getD done.length 0<B*B:=by simp only [B];omega
    rw [show (4294967296:Nat)=B from rfl]
    refine ⟨(done++[(u.getD done.length 0+B - (c+g*d.getD done.length 0) % B - b) % B],if u.getD done.length 0<(c+g*d.getD done.length 0) % B+b then 1 else 0,(c+g*d.getD done.length 0) / B),
     ⟨by simp;omega,hdd.append ?_,by simp only;split<;>omega,(Nat.div_lt_iff_lt_mul (by decide)).2 hsl,?_⟩,by simp;omega,[some 0,some 1],rfl,by simp,by simp [SWeak,AWeak,B],by simp [HWeak,BWeak]⟩
    ·intro x hx;simp at hx;subst hx;exact Nat.mod_lt _ (by decide)
    ·have:=dg_step (d:=d) (g:=g) rfl (sub_digit (du.getD done.length) (Nat.mod_lt (c+g*d.getD done.length 0) (show 0<B by decide)) hb) (Nat.mod_add_div (c+g*d.getD done.length 0) B) hv.out
     simpa using this
   ·have hi':done.length=n+2:=by omega
    have hv:=hv.out
    rw [hi',List.take_of_length_le (l:=d) (by omega)] at hv
    exact ⟨(done,b,c),⟨hi',hdd,hb,hc,hv⟩,⟨[some 0,some 1],rfl,by simp,by simp [setsA,keepA,SWeak,AWeak],by simp [HWeak,BWeak,SWeak,AWeak]⟩⟩
  ·rintro ⟨done,b,c⟩ ⟨hi,hdd,hb,hc,hv⟩
   simp only at hi hdd hb hc hv
   simp only [awK,Nat.reduceMod,Nat.reduceDiv,reduceIte]
   replace hv:=Hid.mk hv
   have w1:(win pre done u post).getD (pre.length+(n+2)) 0=u.getD (n+2) 0:=by rw [← hi];exact win_getD (by omega)
   have w3:(win pre done u post).length=pre.length+u.length+post.length:=win_length (by omega)
   have w2:∀ v,(win pre done u post).set (pre.length+(n+2)) v=win pre (done++[v]) u post:=fun v=>by rw [← hi];exact win_set (by omega)
   have hcB:c<4294967296:=by simpa only [B] using hc
   simp (config:={maxSteps:=1000000}) (disch:=((try simp only [awL]);omega)) only [w1,w2,w3,hd,dl,de,↓awU,awV,awF,Qa,Qb,Qc,Qd,forall_const,↓reduceIte,↓reduceDIte,↓Qe,Qf,Qg,Qh,Qi,Qj,Qk,Ql,Qm,Qn,Qo,Qp,Qq,Qr,Qs,implies_true,Qt,Qu,Qv,Qw,Qx,Qy,Qz,QA,QB,QC,QD,QE,QF,QG,QH,QI,QJ,QK,QL,QM,QN,QO,QP,QQ]
   refine CallC.pure (sub32 _ _ _ (du.getD _) hc hb) ?_
   by_cases hbb:u.getD (n+2) 0<c+b
   ·rw [if_pos hbb]
    simp (config:={maxSteps:=1000000}) (disch:=((try simp only [awL]);omega)) only [w1,w2,w3,hd,dl,de,↓awU,awV,awF,Qa,Qb,Qc,Qd,forall_const,↓reduceIte,↓reduceDIte,↓Qe,Qf,Qg,Qh,Qi,Qj,Qk,Ql,Qm,Qn,Qo,Qp,Qq,Qr,Qs,implies_true,Qt,Qu,Qv,Qw,Qx,Qy,Qz,QA,QB,QC,QD,QE,QF,QG,QH,QI,QJ,QK,QL,QM,QN,QO,QP,QQ]
    have h1:=sub_digit (du.getD (n+2)) hc hb
    rw [if_pos hbb] at h1
    have dz:d.getD (n+2) 0=0:=by rw [List.getD_eq_getElem?_getD,List.getElem?_eq_none (by omega)];rfl
    have h2:=dg_step (d:=d) (g:=g) (c:=c) (c':=0) hi h1 (by rw [dz];simp) (by rw [List.take_of_length_le (l:=d) (by omega)];exact hv.out)
    generalize hdig:(u.getD (n+2) 0+B - c - b) % B=dig at h1 h2 ⊢
    have hdB:dig<B:=by rw [← hdig];exact Nat.mod_lt _ (by decide)
    rw [List.take_of_length_le (l:=d) (by omega),List.take_of_length_le (l:=u) (by omega),Nat.zero_add] at h2
    generalize hu':done++[dig]=u' at h2 ⊢
    have lu':u'.length=n+3:=by rw [← hu'];simp;omega
    have du':Dig u':=by rw [← hu'];exact hdd.append (by intro x hx;simp at hx;omega)
    have vu':=val_lt du'
    rw [lu'] at vu'
    obtain ⟨m,rfl⟩:∃ m,g=m+1:=by
     rcases g with _ | m
     ·rw [Nat.zero_mul,Nat.mul_one] at h2
      have:B ^ (n+2+1)=B ^ (n+3):=rfl
      omega
     ·exact ⟨m,rfl⟩
    have ew:win pre u' u post=win pre [] u' post:=by
     simp [win,lu',List.drop_of_length_le (l:=u) (i:=n+3) (by omega)]
    rw [ew]
    clear w1 w2 w3 hv hb hc hcB hbb h1
    replace h2:=Hid.mk h2
    replace vu':=Hid.mk vu'
    refine LoopC.fx 4083388403051261561560495289181218537633 (α:=List Nat × Nat) (β:=List Nat × Nat) (fun x=>n+2 - x.1.length) (fun x=>[(13,.d (.int .u32 x.2)),(132,.d (.int .i64 x.1.length))])
     (fun x=>[.row false (nats .u32 (win pre x.1 u' post)),.row false (nats .u32 dr)]) (fun x=>x.1.length≤n+2∧Dig x.1∧x.2≤1∧val x.1+B ^ x.1.length*x.2=val (u'.take x.1.length)+val (d.take x.1.length))
     161 (fun x=>[(13,.d (.int .u32 x.2))]) (fun x=>[.row false (nats .u32 (win pre x.1 u' post)),.row false (nats .u32 dr)]) (fun x=>x.1.length=n+2∧Dig x.1∧x.2≤1∧val x.1+B ^ (n+2)*x.2=val (u'.take (n+2))+val d)
     ([],0) ⟨by simp,by simp [Dig],by simp,by simp [val]⟩ ?_ ?_ ?_
    ·exact ⟨[some 0,some 1],rfl,by simp,by simp [setsA,keepA,SWeak,AWeak],by simp [HWeak,BWeak,SWeak,AWeak]⟩
    ·rintro ⟨done2,a⟩ ⟨hi2,hd2,ha,hv2⟩
     simp only at hi2 hd2 ha hv2
     simp only [awK,Nat.reduceMod,Nat.reduceDiv,reduceIte]
     replace hv2:=Hid.mk hv2
     have w1:(win pre done2 u' post).getD (pre.length+done2.length) 0=u'.getD done2.length 0:=win_getD (by omega)
     have w3:(win pre done2 u' post).length=pre.length+u'.length+post.length:=win_length (by omega)
     simp (config:={maxSteps:=1000000}) (disch:=((try simp only [awL]);omega)) only [w1,w3,hd,dl,de,↓awU,awV,awF,Qa,Qb,Qc,Qd,forall_const,↓reduceIte,↓reduceDIte,↓Qe,Qf,Qg,Qh,Qi,Qj,Qk,Ql,Qm,Qn,Qo,Qp,Qq,Qr,Qs,implies_true,Qt,Qu,Qv,Qw,Qx,Qy,Qz,QA,QB,QC,QD,QE,QF,QG,QH,QI,QJ,QK,QL,QM,QN,QO,QP,QQ]
     refine ⟨fun h=>?_,fun h=>?_⟩
     ·refine CallC.pure (add32 _ _ _ (du'.getD _) (dd.getD _) ha) ?_
      have w2:∀ v,(win pre done2 u' post).set (pre.length+done2.length) v=win pre (done2++[v]) u' post:=fun v=>win_set (by omega)
      have a1:=du'.getD done2.length
      have a2:=dd.getD done2.length
      simp (config:={maxSteps:=1000000}) (disch:=((try simp only [awL]);omega)) only [w1,w2,w3,hd,dl,de,↓awU,awV,awF,Qa,Qb,Qc,Qd,forall_const,↓reduceIte,↓reduceDIte,↓Qe,Qf,Qg,Qh,Qi,Qj,Qk,Ql,Qm,Qn,Qo,Qp,Qq,Qr,Qs,implies_true,Qt,Qu,Qv,Qw,Qx,Qy,Qz,QA,QB,QC,QD,QE,QF,QG,QH,QI,QJ,QK,QL,QM,QN,QO,QP,QQ]
      refine ⟨(done2++[(u'.getD done2.length 0+d.getD done2.length 0+a) % B],(u'.getD done2.length 0+d.getD done2.length 0+a) / B),
       ⟨by simp;omega,hd2.append ?_,by simp only [B] at *;omega,?_⟩,by simp;omega,[some 0,some 1],rfl,by simp,by simp [SWeak,AWeak],by simp [HWeak,BWeak]⟩
      ·intro x hx;simp at hx;subst hx;exact Nat.mod_lt _ (by decide)
      ·have:=ab_step (u:=u') (d:=d) rfl rfl hv2.out
       simpa using this
     ·have hi':done2.length=n+2:=by omega
      have hv2:=hv2.out
      rw [hi',List.take_of_length_le (l:=d) (by omega)] at hv2
      exact ⟨(done2,a),⟨hi',hd2,ha,hv2⟩,⟨[some 0,some 1],rfl,by simp,by simp [setsA,keepA,SWeak,AWeak],by simp [HWeak,BWeak,SWeak,AWeak]⟩⟩
    ·rintro ⟨done2,a⟩ ⟨hi2,hd2,ha,hv2⟩
     simp only at hi2 hd2 ha hv2
     simp only [awK,Nat.reduceMod,Nat.reduceDiv,reduceIte]
     replace hv2:=Hid.mk hv2
     have w1:(win pre done2 u' post).getD (pre.length+(n+2)) 0=u'.getD (n+2) 0:=by rw [← hi2];exact win_getD (by omega)
     have w3:(win pre done2 u' post).length=pre.length+u'.length+post.length:=win_length (by omega)
     have w2:∀ v,(win pre done2 u' post).set (pre.length+(n+2)) v=win pre (done2++[v]) u' post:=fun v=>by rw [← hi2];exact win_set (by omega)
     have a1:=du'.getD (n+2)
     simp (config:={maxSteps:=1000000}) (disch:=((try simp only [awL]);omega)) only [w1,w2,w3,hd,dl,de,w_u32,cast_add,nats_set,↓awU,awV,awF,Qa,Qb,Qc,Qd,forall_const,↓reduceIte,↓reduceDIte,↓Qe,Qf,Qg,Qh,Qi,Qj,Qk,Ql,Qm,Qn,Qo,Qp,Qq,Qr,Qs,implies_true,Qt,Qu,Qv,Qw,Qx,Qy,Qz,QA,QB,QC,QD,QE,QF,QG,QH,QI,QJ,QK,QL,QM,QN,QO,QP,QQ]
     rw [show (4294967296:Nat)=B from rfl]
     have hB0:0<B:=by decide
     have h3:=Nat.mod_add_div (u'.getD (n+2) 0+a) B
     have hq:(u'.getD (n+2) 0+a) / B=0∨(u'.getD (n+2) 0+a) / B=1:=by simp only [B] at *;omega
     have du3:Dig (done2++[(u'.getD (n+2) 0+a) % B]):=hd2.append (by intro x hx;simp at hx;subst hx;exact Nat.mod_lt _ hB0)
     have l3:(done2++[(u'.getD (n+2) 0+a) % B]).length=n+3:=by simp;omega
     have v3:=val_lt du3
     rw [l3] at v3
     have hu3:val u'=val (u'.take (n+2))+B ^ (n+2)*u'.getD (n+2) 0:=by
      have:=take_val u' (n+2)
      rwa [List.take_of_length_le (l:=u') (by omega)] at this
     have e3:val (done2++[(u'.getD (n+2) 0+a) % B])+B ^ (n+3)*((u'.getD (n+2) 0+a) / B)=val u'+val d:=by
      rw [val_append,hi2,hu3]
      simp only [val,Nat.mul_zero,Nat.add_zero]
      have e4:B ^ (n+3)*((u'.getD (n+2) 0+a) / B)=B ^ (n+2)*(B*((u'.getD (n+2) 0+a) / B)):=by rw [Nat.pow_succ,Nat.mul_assoc]
      have e5:B ^ (n+2)*((u'.getD (n+2) 0+a) % B)+B ^ (n+2)*(B*((u'.getD (n+2) 0+a) / B))=B ^ (n+2)*u'.getD (n+2) 0+B ^ (n+2)*a:=by rw [← Nat.mul_add,h3,Nat.mul_add]
      have e6:=hv2.out
      omega
     generalize hr3:done2++[(u'.getD (n+2) 0+a) % B]=r3 at *
     generalize (u'.getD (n+2) 0+a) / B=z at *
     have hV:=val_lt dd
     have hVP:val d<B ^ (n+3):=Nat.lt_of_lt_of_le hV (Nat.pow_le_pow_right hB0 (by omega))
     have hb:=dg_back (U:=val u) (V:=val d) (g:=m+1) (r:=val u') (P:=B ^ (n+3)) (r3:=val r3) (x3:=0) (dn:=val u'+val d) hgV.out hVP vu'.out h2.out (by omega)
      (by rcases hq with rfl | rfl
          ·left;rw [Nat.mul_zero] at e3;omega
          ·right;rw [Nat.mul_one] at e3;omega) v3 rfl
     rw [hb.1,hb.2,Nat.add_sub_cancel,← digs_eq du3 l3 rfl]
     have ew3:win pre r3 u' post=pre++(r3++post):=by simp [win,l3,List.drop_of_length_le (l:=u') (i:=n+3) (by omega)]
     rw [ew3]
     exact ⟨[some 0,some 1],rfl,by simp,by simp [HWeak,BWeak,SWeak,AWeak],.inl (by simp [AWeak,SWeak])⟩
   ·rw [if_neg hbb]
    simp (config:={maxSteps:=1000000}) (disch:=((try simp only [awL]);omega)) only [w1,w2,w3,hd,dl,de,↓awU,awV,awF,Qa,Qb,Qc,Qd,forall_const,↓reduceIte,↓reduceDIte,↓Qe,Qf,Qg,Qh,Qi,Qj,Qk,Ql,Qm,Qn,Qo,Qp,Qq,Qr,Qs,implies_true,Qt,Qu,Qv,Qw,Qx,Qy,Qz,QA,QB,QC,QD,QE,QF,QG,QH,QI,QJ,QK,QL,QM,QN,QO,QP,QQ]
    have h1:=sub_digit (du.getD (n+2)) hc hb
    rw [if_neg hbb] at h1
    have dz:d.getD (n+2) 0=0:=by rw [List.getD_eq_getElem?_getD,List.getElem?_eq_none (by omega)];rfl
    have h2:=dg_step (d:=d) (g:=g) (c:=c) (c':=0) hi h1 (by rw [dz];simp) (by rw [List.take_of_length_le (l:=d) (by omega)];exact hv.out)
    generalize hdig:(u.getD (n+2) 0+B - c - b) % B=dig at h1 h2 ⊢
    have hdB:dig<B:=by rw [← hdig];exact Nat.mod_lt _ (by decide)
    rw [List.take_of_length_le (l:=d) (by omega),List.take_of_length_le (l:=u) (by omega),Nat.zero_add] at h2
    generalize hu':done++[dig]=u' at h2 ⊢
    have lu':u'.length=n+3:=by rw [← hu'];simp;omega
    have du':Dig u':=by rw [← hu'];exact hdd.append (by intro x hx;simp at hx;omega)
    have hb:=dg_fit hgU.out h2
    rw [hb.1,hb.2,← digs_eq du' lu' rfl]
    have ew3:win pre u' u post=pre++(u'++post):=by simp [win,lu',List.drop_of_length_le (l:=u) (i:=n+3) (by omega)]
    rw [ew3]
    exact ⟨[some 0,some 1],rfl,by simp,by simp [HWeak,BWeak,SWeak,AWeak],.inl (by simp [AWeak,SWeak])⟩
end Go.Proofs.YtkgbbdoeodmkgaaGreatDoor.Num
namespace Go.Proofs.YtkgbbdoeodmkgaaGreatDoor.Num
open Go Go.Proofs Go.Abs
variable {G:Globals}
theorem mid_getD {q r:List Nat} {c k:Nat} (h:q.length=k):(q++c::r).getD k 0=c:=by subst h;simp [List.getD_eq_getElem?_getD]
theorem mid_set {q r:List Nat} {c k v:Nat} (h:q.length=k):(q++c::r).set k v=q++v::r:=by subst h;simp
theorem mid_set1 {q r:List Nat} {c d k v:Nat} (h:q.length=k):(q++c::d::r).set (k+1) v=q++c::v::r:=by
 subst h;rw [List.set_append_right _ _ (by omega),Nat.add_sub_cancel_left];rfl
set_option maxHeartbeats 4000000 in
set_option maxRecDepth 100000 in
theorem shifted_spec (l:List Nat) (sh:Nat) (hl:Dig l) (hs:sh<32) (hll:l.length<2 ^ 40) :
  Ctr Tryz.prog G 133 [.d (W l),.d (.int .i64 sh)] [] (.lsl 0 1 0 (l.length+1)) [.row false (nats .u32 (digs (l.length+1) (val l*2 ^ sh)))]:=by
 refine Ctr.body (M:=M0) hmix Tryz.func133 rfl go133 ?_
 simp (config:={maxSteps:=1000000}) (disch:=((try simp only [awL]);omega)) only [Tryz.f133,↓awU,awV,awF,Qa,Qb,Qc,Qd,forall_const,↓reduceIte,↓reduceDIte,↓Qe,Qf,Qg,Qh,Qi,Qj,Qk,Ql,Qm,Qn,Qo,Qp,Qq,Qr,Qs,implies_true,Qt,Qu,Qv,Qw,Qx,Qy,Qz,QA,QB,QC,QD,QE,QF,QG,QH,QI,QJ,QK,QL,QM,QN,QO,QP,QQ]
 have hm:(2:Int) ^ sh=((2 ^ sh:Nat):Int):=by simp
 have hmb:2 ^ sh≤2147483648:=Nat.pow_le_pow_right (by decide) (show sh≤31 by omega)
 have hmp:0<2 ^ sh:=Nat.two_pow_pos sh
 refine LoopC.fr 24610 (α:=Nat × List Nat × Nat) (fun x=>l.length - x.1) (fun x=>[(15,.d (.int .i64 x.1))])
  (fun x=>[.row false (nats .u32 (x.2.1++x.2.2::List.replicate (l.length - x.1) 0))]) (fun x=>x.1≤l.length∧x.2.1.length=x.1∧Dig x.2.1∧x.2.2<2 ^ sh∧val x.2.1+B ^ x.1*x.2.2=val (l.take x.1)*2 ^ sh) (0,[],0) ⟨Nat.zero_le _,rfl,(fun x hx=>by cases hx),hmp,(Nat.zero_mul _).symm▸rfl⟩ ?_ ?_
 ·exact ⟨[some 0],rfl,by simp,by simp [setsA,keepA,SWeak,AWeak],by simp [HWeak,BWeak,List.replicate_succ]⟩
 ·rintro ⟨k,q,c⟩ ⟨hk,hq,hd,hc,hv⟩
  simp only at hk hq hd hc hv
  simp only [awK,Nat.reduceMod,Nat.reduceDiv,reduceIte]
  replace hv:=Hid.mk hv
  have hx:l.getD k 0<4294967296:=hl.getD k
  have hxm:l.getD k 0*2 ^ sh≤4294967295*2147483648:=Nat.mul_le_mul (by omega) hmb
  have c1:∀ r,(q++c::r).getD k 0=c:=fun r=>mid_getD hq
  have c2:∀ r v,(q++c::r).set k v=q++v::r:=fun r v=>mid_set hq
  have c3:∀ a d r v,(q++a::d::r).set (k+1) v=q++a::v::r:=fun a d r v=>mid_set1 hq
  have hor:c ||| (l.getD k 0*2 ^ sh % 4294967296)=c+l.getD k 0*2 ^ sh % 4294967296:=by rw [low_mul hs,or_low hc]
  have hlow:l.getD k 0*2 ^ sh % 4294967296<4294967296:=Nat.mod_lt _ (by decide)
  have hmin:min sh 64=sh:=by omega
  simp (config:={maxSteps:=1000000}) (disch:=((try simp only [awL]);omega)) only [hm,hmin,c1,c2,hor,bi_u32_or_nat,w_u32,Nat.zero_lt_succ,↓awU,awV,awF,Qa,Qb,Qc,Qd,forall_const,↓reduceIte,↓reduceDIte,↓Qe,Qf,Qg,Qh,Qi,Qj,Qk,Ql,Qm,Qn,Qo,Qp,Qq,Qr,Qs,implies_true,Qt,Qu,Qv,Qw,Qx,Qy,Qz,QA,QB,QC,QD,QE,QF,QG,QH,QI,QJ,QK,QL,QM,QN,QO,QP,QQ]
  refine ⟨fun h=>?_,fun h=>?_⟩
  ·have er:List.replicate (l.length - k) 0=0::List.replicate (l.length - (k+1)) 0:=by rw [← List.replicate_succ];congr 1;omega
   rw [er]
   have ei:((l.getD k 0*2 ^ sh:Nat):Int) / 4294967296=((l.getD k 0*2 ^ sh / B:Nat):Int):=by simp only [B];omega
   rw [ei,nats_set,c3]
   refine ⟨(k+1,q++[c+l.getD k 0*2 ^ sh % B],l.getD k 0*2 ^ sh / B),⟨by simp only;omega,by simp [hq],hd.append ?_,?_,sh_step hq rfl hv.out⟩,by simp only;omega,[some 0],rfl,by simp,by simp [SWeak,AWeak],?_⟩
   ·intro x hx
    simp only [List.mem_cons,List.not_mem_nil,or_false] at hx
    subst hx
    show c+l.getD k 0*2 ^ sh % 4294967296<2 ^ 32
    rw [← hor]
    exact Nat.or_lt_two_pow (by omega) hlow
   ·simp only
    rw [Nat.div_lt_iff_lt_mul (by decide),Nat.mul_comm (2 ^ sh)]
    exact Nat.mul_lt_mul_of_pos_right hx hmp
   ·have e2:(q++[c+l.getD k 0*2 ^ sh % B])++l.getD k 0*2 ^ sh / B::List.replicate (l.length - (k+1)) 0=q++(c+l.getD k 0*2 ^ sh % 4294967296)::l.getD k 0*2 ^ sh / B::List.replicate (l.length - (k+1)) 0:=by
     rw [List.append_assoc];rfl
    simp only [e2]
    simp [HWeak,BWeak]
  ·have ek:k=l.length:=by omega
   have hv:=hv.out
   subst ek
   rw [List.take_of_length_le (Nat.le_refl _)] at hv
   have hcB:c<B:=Nat.lt_of_lt_of_le hc (by simp only [B];omega)
   rw [Nat.sub_self,List.replicate_zero,← digs_eq (l:=q++[c]) (hd.append (by intro x hx;simp only [List.mem_cons,List.not_mem_nil,or_false] at hx;subst hx;exact hcB)) (by simp [hq]) (by rw [val_append,hq];simpa [val] using hv)]
   exact ⟨[some 0],rfl,by simp,by simp [HWeak,BWeak,SWeak,AWeak],.inl (by simp [AWeak,SWeak])⟩
theorem clone_spec (l:List Nat) (hl:l.length<2 ^ 40):Ctr Tryz.prog G 77 [.d (W l)] [] (.d (W l)) []:=by
 refine Ctr.of_body Tryz.func77 rfl go77 rfl ?_
 refine Tri.seq (Tri.of_awp (M:=M0) hmix _ _ _ _ ?_)
 simp (config:={maxSteps:=1000000}) (disch:=((try simp only [awL]);omega)) only [aseq_normal,Tryz.f77,↓awU,awV,awF,Qa,Qb,Qc,Qd,forall_const,↓reduceIte,↓reduceDIte,↓Qe,Qf,Qg,Qh,Qi,Qj,Qk,Ql,Qm,Qn,Qo,Qp,Qq,Qr,Qs,implies_true,Qt,Qu,Qv,Qw,Qx,Qy,Qz,QA,QB,QC,QD,QE,QF,QG,QH,QI,QJ,QK,QL,QM,QN,QO,QP,QQ]
 refine Tri.seq (Tri.seq (Tri.nilRegion (e:=107) (by kernel_rfl) rfl ?_ ?_))
 ·simp
 intro b hb
 simp only [aseq_normal]
 refine Tri.of_awp (M:=M0) hmix _ _ _ _ ?_
 cases b
 ·simp (config:={maxSteps:=1000000}) (disch:=((try simp only [awL]);omega)) only [aseq_normal,Tryz.f77,aseq_ret,↓awU,awV,awF,Qa,Qb,Qc,Qd,forall_const,↓reduceIte,↓reduceDIte,↓Qe,Qf,Qg,Qh,Qi,Qj,Qk,Ql,Qm,Qn,Qo,Qp,Qq,Qr,Qs,implies_true,Qt,Qu,Qv,Qw,Qx,Qy,Qz,QA,QB,QC,QD,QE,QF,QG,QH,QI,QJ,QK,QL,QM,QN,QO,QP,QQ]
  refine Tri.of_awp (M:=M0) hmix _ _ _ _ ?_
  simp (config:={maxSteps:=1000000}) (disch:=((try simp only [awL]);omega)) only [aseq_normal,Tryz.f77,aseq_ret,↓awU,awV,awF,Qa,Qb,Qc,Qd,forall_const,↓reduceIte,↓reduceDIte,↓Qe,Qf,Qg,Qh,Qi,Qj,Qk,Ql,Qm,Qn,Qo,Qp,Qq,Qr,Qs,implies_true,Qt,Qu,Qv,Qw,Qx,Qy,Qz,QA,QB,QC,QD,QE,QF,QG,QH,QI,QJ,QK,QL,QM,QN,QO,QP,QQ]
  refine ⟨[],rfl,List.nodup_nil,trivial,.inr ⟨W l,?_,by simp [W,unf_sl],rfl⟩⟩
  simp [sealA,W,cut_nats]
 ·simp (config:={maxSteps:=1000000}) (disch:=((try simp only [awL]);omega)) only [aseq_normal,Tryz.f77,aseq_ret,↓awU,awV,awF,Qa,Qb,Qc,Qd,forall_const,↓reduceIte,↓reduceDIte,↓Qe,Qf,Qg,Qh,Qi,Qj,Qk,Ql,Qm,Qn,Qo,Qp,Qq,Qr,Qs,implies_true,Qt,Qu,Qv,Qw,Qx,Qy,Qz,QA,QB,QC,QD,QE,QF,QG,QH,QI,QJ,QK,QL,QM,QN,QO,QP,QQ]
  have h0:l=[]:=List.length_eq_zero_iff.1 (hb rfl)
  subst h0
  exact ⟨[],rfl,List.nodup_nil,trivial,.inr ⟨.sl 0 true [],rfl,rfl,rfl⟩⟩
theorem toW_take {o:List Nat} (hd:Dig o) {k:Nat} (hk:k≤o.length) (h:k=0∨o.getD (k - 1) 0≠0):toW (val (o.take k))=o.take k:=by
 refine toW_of (hd.take k) ?_
 rcases h with rfl | h
 ·left;simp
 ·rcases Nat.eq_zero_or_pos k with rfl | hp
  ·left;simp
  ·right
   have e:(o.take k).length - 1=k - 1:=by simp;omega
   rw [e,List.getD_eq_getElem?_getD,List.getElem?_take,if_pos (by omega),← List.getD_eq_getElem?_getD]
   exact h
theorem trimmed_ref (o:List Nat) (n:Nat) (hd:Dig o) (hn:n≤o.length) (hl:o.length<2 ^ 60) :
  Ctr Tryz.prog G 106 [.lsl 0 1 0 n] [.row false (nats .u32 o)] (.lsl 0 1 0 (toW (val (o.take n))).length) [.row false (nats .u32 o)]:=by
 refine Ctr.body (M:=M0) hmix Tryz.func106 rfl go106 ?_
 simp (config:={maxSteps:=1000000}) (disch:=((try simp only [awL]);omega)) only [Tryz.f106,↓awU,awV,awF,Qa,Qb,Qc,Qd,forall_const,↓reduceIte,↓reduceDIte,↓Qe,Qf,Qg,Qh,Qi,Qj,Qk,Ql,Qm,Qn,Qo,Qp,Qq,Qr,Qs,implies_true,Qt,Qu,Qv,Qw,Qx,Qy,Qz,QA,QB,QC,QD,QE,QF,QG,QH,QI,QJ,QK,QL,QM,QN,QO,QP,QQ]
 refine LoopC.fr 0 (α:=Nat) (fun k=>k) (fun k=>[(0,.lsl 0 1 0 k)]) (fun _=>[.row false (nats .u32 o)]) (fun k=>k≤n∧val (o.take k)=val (o.take n)) n ⟨Nat.le_refl _,rfl⟩ ?_ ?_
 ·exact ⟨[some 0],rfl,by simp,by simp [setsA,keepA,SWeak,AWeak],by simp [HWeak,BWeak,SWeak,AWeak]⟩
 ·rintro k ⟨hk,hv⟩
  simp only [awK,Nat.reduceMod,Nat.reduceDiv,reduceIte]
  rcases k with _ | k
  ·simp (config:={maxSteps:=1000000}) (disch:=((try simp only [awL]);omega)) only [↓awU,awV,awF,Qa,Qb,Qc,Qd,forall_const,↓reduceIte,↓reduceDIte,↓Qe,Qf,Qg,Qh,Qi,Qj,Qk,Ql,Qm,Qn,Qo,Qp,Qq,Qr,Qs,implies_true,Qt,Qu,Qv,Qw,Qx,Qy,Qz,QA,QB,QC,QD,QE,QF,QG,QH,QI,QJ,QK,QL,QM,QN,QO,QP,QQ]
   have:toW (val (o.take n))=[]:=by rw [← hv];exact toW_zero
   rw [this]
   exact ⟨[some 0],rfl,by simp,by simp [HWeak,BWeak,SWeak,AWeak],.inl (by simp [AWeak,SWeak])⟩
  ·simp (config:={maxSteps:=1000000}) (disch:=((try simp only [awL]);omega)) only [↓awU,awV,awF,Qa,Qb,Qc,Qd,forall_const,↓reduceIte,↓reduceDIte,↓Qe,Qf,Qg,Qh,Qi,Qj,Qk,Ql,Qm,Qn,Qo,Qp,Qq,Qr,Qs,implies_true,Qt,Qu,Qv,Qw,Qx,Qy,Qz,QA,QB,QC,QD,QE,QF,QG,QH,QI,QJ,QK,QL,QM,QN,QO,QP,QQ]
   refine ⟨fun h=>⟨k,⟨by omega,?_⟩,Nat.lt_succ_self _,⟨[some 0],rfl,by simp,by simp [setsA,keepA,SWeak,AWeak],by simp [HWeak,BWeak,SWeak,AWeak]⟩⟩,fun h=>?_⟩
   ·rw [← hv,take_val o k,show o.getD k 0=0 by omega];simp
   ·have:=toW_take hd (k:=k+1) (by omega) (.inr (by simpa using h))
    rw [hv] at this
    rw [this]
    have e:(o.take (k+1)).length=k+1:=by simp;omega
    rw [e]
    exact ⟨[some 0],rfl,by simp,by simp [HWeak,BWeak,SWeak,AWeak],.inl (by simp [AWeak,SWeak])⟩
end Go.Proofs.YtkgbbdoeodmkgaaGreatDoor.Num
namespace Go.Proofs.YtkgbbdoeodmkgaaGreatDoor.Num
open Go Go.Proofs Go.Abs
theorem digs_split (i k n:Nat):digs (i+k) n=digs i n++digs k (n / B ^ i):=by
 induction i generalizing n with
 | zero=>simp [digs]
 | succ i ih =>
  rw [Nat.add_right_comm i 1 k]
  simp only [digs,List.cons_append]
  rw [ih,Nat.div_div_eq_div_mul,Nat.pow_succ,Nat.mul_comm B]
theorem digs_zero (k:Nat):digs k 0=List.replicate k 0:=by
 induction k with
 | zero=>rfl
 | succ k ih=>simp [digs,List.replicate_succ,ih]
theorem digs_zeros {k z n:Nat} (h:n<B ^ k):digs (k+z) n=digs k n++List.replicate z 0:=by
 rw [digs_split,Nat.div_eq_of_lt h,digs_zero]
theorem digs_take {i k n:Nat} (h:i≤k):(digs k n).take i=digs i n:=by
 obtain ⟨z,rfl⟩:∃ z,k=i+z:=⟨k - i,by omega⟩
 rw [digs_split,List.take_left' (digs_length i n)]
theorem digs_getD {i k n:Nat} (h:i<k):(digs k n).getD i 0=n / B ^ i % B:=by
 obtain ⟨z,rfl⟩:∃ z,k=i+(z+1):=⟨k - i - 1,by omega⟩
 rw [digs_split,digs]
 have:=digs_length i n
 rw [List.getD_eq_getElem?_getD,List.getElem?_append_right (by omega),this,Nat.sub_self]
 rfl
theorem digs_succ (i n:Nat):digs (i+1) n=digs i n++[n / B ^ i % B]:=by rw [digs_split];rfl
theorem toW_digs (n:Nat):toW n=digs (toW n).length n:=digs_eq (dig_toW n) rfl (val_toW n)
theorem norm_facts {m:List Nat} {k s:Nat} (hm:Dig m) (hl:m.length=k+2) (ht:m.getD (k+1) 0≠0) (hs:s=31 - (m.getD (k+1) 0).log2) :
  s<32∧val m*2 ^ s<B ^ (k+2)∧2147483648≤(digs (k+2) (val m*2 ^ s)).getD (k+1) 0:=by
 have htB:=hm.getD (k+1)
 have hv:val m=val (m.take (k+1))+B ^ (k+1)*m.getD (k+1) 0:=by
  have:=take_val m (k+1)
  rwa [List.take_of_length_le (by omega)] at this
 have hlo:=take_lt hm (k+1)
 generalize m.getD (k+1) 0=t at *
 have he:=(Nat.log2_eq_iff ht).1 rfl
 have he32:=(Nat.log2_lt (k:=32) ht).2 htB
 have hp:2 ^ (t.log2+1)*2 ^ s=B:=by
  rw [← Nat.pow_add,hs,show t.log2+1+(31 - t.log2)=32 by omega];rfl
 have hp':2 ^ t.log2*2 ^ s=2147483648:=by
  rw [← Nat.pow_add,hs,show t.log2+(31 - t.log2)=31 by omega]
 have h1:2147483648≤t*2 ^ s:=by rw [← hp'];exact Nat.mul_le_mul_right _ he.1
 have h2:(t+1)*2 ^ s≤B:=by rw [← hp];exact Nat.mul_le_mul_right _ he.2
 have h3:val m*2 ^ s<B ^ (k+2):=by
  have e1:val m+1≤B ^ (k+1)*(t+1):=by have:=Nat.mul_add (B ^ (k+1)) t 1;omega
  have e2:(val m+1)*2 ^ s≤B ^ (k+1)*(t+1)*2 ^ s:=Nat.mul_le_mul_right _ e1
  have e3:B ^ (k+1)*(t+1)*2 ^ s≤B ^ (k+1)*B:=by rw [Nat.mul_assoc];exact Nat.mul_le_mul_left _ h2
  rw [Nat.add_mul,Nat.one_mul] at e2
  have:0<2 ^ s:=Nat.two_pow_pos s
  rw [Nat.pow_succ]
  omega
 refine ⟨by omega,h3,?_⟩
 rw [digs_getD (by omega)]
 have hB:0<B ^ (k+1):=Nat.pow_pos (by decide)
 have e4:val m*2 ^ s / B ^ (k+1)<B:=by
  rw [Nat.div_lt_iff_lt_mul hB,Nat.mul_comm B,← Nat.pow_succ];exact h3
 rw [Nat.mod_eq_of_lt e4]
 refine Nat.le_trans h1 ((Nat.le_div_iff_mul_le hB).2 ?_)
 rw [Nat.mul_right_comm]
 refine Nat.mul_le_mul_right _ ?_
 rw [hv,Nat.mul_comm];omega
theorem ov_step {U V j Q r:Nat} (h:U / B ^ (j+1)=Q*V+r) (hr:r<V) :
  U / B ^ j % B+B*r<V*B∧U / B ^ j=(B*Q+(U / B ^ j % B+B*r) / V)*V+(U / B ^ j % B+B*r) % V:=by
 have hx:U / B ^ j % B<B:=Nat.mod_lt _ (by decide)
 refine ⟨?_,?_⟩
 ·have:B*(r+1)≤B*V:=Nat.mul_le_mul_left _ hr
  rw [Nat.mul_add,Nat.mul_one] at this
  rw [Nat.mul_comm V]
  omega
 ·have h1:=Nat.mod_add_div (U / B ^ j) B
  rw [Nat.div_div_eq_div_mul,← Nat.pow_succ,h,Nat.mul_add] at h1
  have h2:=Nat.mod_add_div (U / B ^ j % B+B*r) V
  rw [Nat.add_mul,Nat.mul_assoc]
  rw [Nat.mul_comm V] at h2
  omega
theorem unshift {r s i:Nat} (hs:s<32):((r / B ^ (i+1) % B)*B+r / B ^ i % B) / 2 ^ s % B=r / 2 ^ s / B ^ i % B:=by
 have hB:B=2 ^ (32 - s)*2 ^ s:=by rw [← Nat.pow_add,show 32 - s+s=32 by omega];rfl
 have e1:r / 2 ^ s / B ^ i=r / B ^ i / 2 ^ s:=by rw [Nat.div_div_eq_div_mul,Nat.mul_comm,← Nat.div_div_eq_div_mul]
 have e2:r / B ^ (i+1)=r / B ^ i / B:=by rw [Nat.div_div_eq_div_mul,Nat.pow_succ]
 rw [e1,e2]
 generalize r / B ^ i=y
 have h1:=Nat.mod_add_div y B
 have h2:=Nat.mod_add_div (y / B) B
 generalize hc:y / B / B=c at *
 generalize hh:y / B % B=h at *
 generalize hl:y % B=l at *
 have hp:0<2 ^ s:=Nat.two_pow_pos s
 have e3:y=(h*B+l)+2 ^ s*(c*B*2 ^ (32 - s)):=by
  have:2 ^ s*(c*B*2 ^ (32 - s))=B*(B*c):=by
   conv=>rhs;arg 1;rw [hB]
   ac_rfl
  rw [this,← h1,← h2,Nat.mul_add,Nat.mul_comm B h]
  omega
 rw [e3,Nat.add_mul_div_left _ _ hp,Nat.mul_right_comm,Nat.add_mul_mod_self_right]
theorem trim_len {l:List Nat} (h:Dig l):(toW (val l)).length≤l.length:=toW_length_le (val_lt h)
theorem take_trim {l:List Nat} (h:Dig l):l.take (toW (val l)).length=toW (val l):=by
 conv=>lhs;arg 2;rw [← digs_val h]
 rw [digs_take (trim_len h),← toW_digs]
def backRow (N s r i:Nat):List Nat:=digs i (r / 2 ^ s)++(digs N r).drop i
theorem backRow_length {N s r i:Nat} (h:i≤N):(backRow N s r i).length=N:=by simp [backRow,digs_length];omega
theorem backRow_zero {N s r:Nat}:backRow N s r 0=digs N r:=rfl
theorem backRow_getD {N s r i:Nat} (h:i<N):(backRow N s r i).getD i 0=r / B ^ i % B:=by
 have hl:=digs_length i (r / 2 ^ s)
 rw [backRow,List.getD_eq_getElem?_getD,List.getElem?_append_right (by omega),hl,Nat.sub_self,List.getElem?_drop,Nat.add_zero,← List.getD_eq_getElem?_getD,digs_getD h]
theorem backRow_next {N s r i kk:Nat} (hk:kk≤N) (hr:r<B ^ kk):((backRow N s r i).take kk).getD (i+1) 0=r / B ^ (i+1) % B:=by
 have hl:=digs_length i (r / 2 ^ s)
 rw [List.getD_eq_getElem?_getD,List.getElem?_take]
 split
 ·rename_i h
  rw [backRow,List.getElem?_append_right (by omega),hl,List.getElem?_drop,show i+(i+1 - i)=i+1 by omega,← List.getD_eq_getElem?_getD,digs_getD (by omega)]
 ·rename_i h
  have:r<B ^ (i+1):=Nat.lt_of_lt_of_le hr (Nat.pow_le_pow_right (by decide) (by omega))
  rw [Nat.div_eq_of_lt this];rfl
theorem backRow_set {N s r i:Nat} (h:i<N):(backRow N s r i).set i (r / 2 ^ s / B ^ i % B)=backRow N s r (i+1):=by
 have hl:=digs_length i (r / 2 ^ s)
 have hl2:=digs_length N r
 rw [backRow,List.set_append_right _ _ (by omega),hl,Nat.sub_self,List.drop_eq_getElem_cons (by omega),List.set_cons_zero,backRow,digs_succ,List.append_assoc]
 rfl
theorem dig_backRow {N s r i:Nat}:Dig (backRow N s r i):=(dig_digs _ _).append ((dig_digs _ _).drop _)
theorem backRow_take {N s r i:Nat}:(backRow N s r i).take i=digs i (r / 2 ^ s):=by
 rw [backRow,List.take_left' (digs_length _ _)]
theorem unscale {a b p q r:Nat} (hp:0<p) (h:a*p=q*(b*p)+r) (hr:r<b*p):a / b=q∧a % b=r / p∧r / p≤r:=by
 have h1:r % p=0:=by
  have:=congrArg (· % p) h
  simp only [Nat.mul_mod_left] at this
  rw [← Nat.mul_assoc,Nat.mul_add_mod_self_right] at this
  exact this.symm
 obtain ⟨c,rfl⟩:=Nat.dvd_of_mod_eq_zero h1
 rw [Nat.mul_comm p c] at h hr
 have hc:c<b:=Nat.lt_of_mul_lt_mul_right hr
 have ha:a=q*b+c:=by
  rw [← Nat.mul_assoc,← Nat.add_mul] at h
  exact Nat.eq_of_mul_eq_mul_right hp h
 rw [Nat.mul_div_cancel_left _ hp]
 refine ⟨?_,?_,Nat.le_mul_of_pos_left _ hp⟩
 ·rw [ha,Nat.mul_comm q,Nat.mul_add_div (by omega),Nat.div_eq_of_lt hc,Nat.add_zero]
 ·rw [ha,Nat.mul_comm q,Nat.mul_add_mod_self_left,Nat.mod_eq_of_lt hc]
theorem ov_start {l:List Nat} {k z s V:Nat} (hl:Dig l) (hz:l.length=k+2+z) (hs:s<32) (n3:2147483648≤(digs (k+2) V).getD (k+1) 0):val l*2 ^ s / B ^ (z+1)<V:=by
 have hB:∀ i,0<B ^ i:=fun i=>Nat.pow_pos (by decide)
 rw [digs_getD (by omega)] at n3
 have h1:2147483648≤V / B ^ (k+1):=Nat.le_trans n3 (Nat.mod_le _ _)
 have h2:2147483648*B ^ (k+1)≤V:=(Nat.le_div_iff_mul_le (hB _)).1 h1
 have h3:=val_lt hl
 rw [hz] at h3
 have h4:2 ^ s≤2147483648:=Nat.pow_le_pow_right (by decide) (show s≤31 by omega)
 rw [Nat.div_lt_iff_lt_mul (hB _)]
 have h5:val l*2 ^ s<B ^ (k+2+z)*2 ^ s:=Nat.mul_lt_mul_of_pos_right h3 (Nat.two_pow_pos s)
 have h6:B ^ (k+2+z)*2 ^ s≤B ^ (k+2+z)*2147483648:=Nat.mul_le_mul_left _ h4
 have h7:B ^ (k+2+z)*2147483648=2147483648*B ^ (k+1)*B ^ (z+1):=by rw [Nat.mul_comm,Nat.mul_assoc,← Nat.pow_add];congr 2;omega
 have h8:2147483648*B ^ (k+1)*B ^ (z+1)≤V*B ^ (z+1):=Nat.mul_le_mul_right _ h2
 omega
end Go.Proofs.YtkgbbdoeodmkgaaGreatDoor.Num
namespace Go.Proofs.YtkgbbdoeodmkgaaGreatDoor.Num
open Go Go.Proofs Go.Abs
variable {G:Globals}
def M1:Muts:=fun f=>f == 134 || f == 106
theorem M1_a:M1 130=false:=rfl
theorem M1_b:M1 77=false:=rfl
theorem M1_c:M1 131=false:=rfl
theorem M1_d:M1 132=false:=rfl
theorem M1_e:M1 133=false:=rfl
theorem M1_f:M1 108=false:=rfl
theorem M1_g:M1 134=true:=rfl
theorem M1_h:M1 106=true:=rfl
set_option maxHeartbeats 4000000 in
set_option maxRecDepth 100000 in
theorem over_spec (a b:Nat) (hb:b≠0) (ha:(toW a).length<2 ^ 38) (hb':(toW b).length<2 ^ 38) :
  Ctr Tryz.prog G 110 [.d (W (toW a)),.d (W (toW b))] [] (.d (.tup [W (toW (a / b)),W (toW (a % b))])) []:=by
 have da:=dig_toW a
 have db:=dig_toW b
 have va:=val_toW a
 have vb:=val_toW b
 have tb:=toW_last hb
 have hcmp:cmpI (a:Int) b<0↔a<b:=by
  unfold cmpI;split
  ·omega
  ·split<;>omega
 refine Ctr.pure (M:=M1) hmix Tryz.func110 rfl go110 ?_
 simp (config:={maxSteps:=1000000}) (disch:=((try simp only [awL]);omega)) only [Tryz.f110,M1_a,M1_b,M1_c,M1_d,M1_e,M1_f,M1_g,M1_h,↓awU,awV,awF,Qa,Qb,Qc,Qd,forall_const,↓reduceIte,↓reduceDIte,↓Qe,Qf,Qg,Qh,Qi,Qj,Qk,Ql,Qm,Qn,Qo,Qp,Qq,Qr,Qs,implies_true,Qt,Qu,Qv,Qw,Qx,Qy,Qz,QA,QB,QC,QD,QE,QF,QG,QH,QI,QJ,QK,QL,QM,QN,QO,QP,QQ]
 refine CallC.pure (compare_spec a b (by omega) (by omega)) ?_
 simp (config:={maxSteps:=1000000}) (disch:=((try simp only [awL]);omega)) only [M1_a,M1_b,M1_c,M1_d,M1_e,M1_f,M1_g,M1_h,hcmp,↓awU,awV,awF,Qa,Qb,Qc,Qd,forall_const,↓reduceIte,↓reduceDIte,↓Qe,Qf,Qg,Qh,Qi,Qj,Qk,Ql,Qm,Qn,Qo,Qp,Qq,Qr,Qs,implies_true,Qt,Qu,Qv,Qw,Qx,Qy,Qz,QA,QB,QC,QD,QE,QF,QG,QH,QI,QJ,QK,QL,QM,QN,QO,QP,QQ]
 refine ⟨fun h=>?_,fun h=>⟨fun h1=>?_,fun h1=>?_⟩⟩
 ·rw [Nat.div_eq_of_lt h,Nat.mod_eq_of_lt h,toW_zero]
  refine CallC.pure (clone_spec (toW a) (by omega)) ?_
  simp (config:={maxSteps:=1000000}) (disch:=((try simp only [awL]);omega)) only [↓awU,awV,awF,Qa,Qb,Qc,Qd,forall_const,↓reduceIte,↓reduceDIte,↓Qe,Qf,Qg,Qh,Qi,Qj,Qk,Ql,Qm,Qn,Qo,Qp,Qq,Qr,Qs,implies_true,Qt,Qu,Qv,Qw,Qx,Qy,Qz,QA,QB,QC,QD,QE,QF,QG,QH,QI,QJ,QK,QL,QM,QN,QO,QP,QQ]
  rfl
 ·have h1:(toW b).length=1:=by omega
  have hb1:(toW b).getD 0 0=b:=by
   have:=take_val (toW b) 0
   rw [List.take_of_length_le (by omega),vb] at this
   simpa [val] using this.symm
  have hbB:b<B:=by rw [← hb1];exact db.getD 0
  rw [hb1]
  refine CallC.pure (short_spec a b (by omega) hbB (by omega)) ?_
  simp (config:={maxSteps:=1000000}) (disch:=((try simp only [awL]);omega)) only [M1_a,M1_b,M1_c,M1_d,M1_e,M1_f,M1_g,M1_h,↓awU,awV,awF,Qa,Qb,Qc,Qd,forall_const,↓reduceIte,↓reduceDIte,↓Qe,Qf,Qg,Qh,Qi,Qj,Qk,Ql,Qm,Qn,Qo,Qp,Qq,Qr,Qs,implies_true,Qt,Qu,Qv,Qw,Qx,Qy,Qz,QA,QB,QC,QD,QE,QF,QG,QH,QI,QJ,QK,QL,QM,QN,QO,QP,QQ]
  have dr:Dig [a % b]:=by intro x hx;simp at hx;subst hx;exact Nat.lt_trans (Nat.mod_lt _ (by omega)) hbB
  refine CallC.by (trimmed_ref [a % b] 1 dr (by simp) (by simp)) rfl rfl (Nat.le_refl _) ?_
  simp (config:={maxSteps:=1000000}) (disch:=((try simp only [awL]);omega)) only [M1_a,M1_b,M1_c,M1_d,M1_e,M1_f,M1_g,M1_h,↓awU,awV,awF,Qa,Qb,Qc,Qd,forall_const,↓reduceIte,↓reduceDIte,↓Qe,Qf,Qg,Qh,Qi,Qj,Qk,Ql,Qm,Qn,Qo,Qp,Qq,Qr,Qs,implies_true,Qt,Qu,Qv,Qw,Qx,Qy,Qz,QA,QB,QC,QD,QE,QF,QG,QH,QI,QJ,QK,QL,QM,QN,QO,QP,QQ]
  have vr:val [a % b]=a % b:=by simp [val]
  have tr:=take_trim dr
  rw [vr] at tr
  rw [vr,tr]
 ·generalize hl:toW a=l at *
  generalize hm:toW b=m at *
  obtain ⟨k,hk⟩:∃ k,m.length=k+2:=⟨m.length - 2,by
   have:m.length≠0:=by
    intro h0
    have:=List.length_eq_zero_iff.1 h0
    subst this
    exact hb vb.symm
   omega⟩
  rw [hk,show k+2 - 1=k+1 from rfl] at tb
  have mB:=db.getD (k+1)
  obtain ⟨z,hz⟩:∃ z,l.length=k+2+z:=⟨l.length - (k+2),by
   have h2:¬ l.length<m.length:=by
    intro h3;rw [← hl,← hm] at h3
    exact h (toW_len_lt h3)
   omega⟩
  have e1:(l.length:Int) - ((k+2:Nat):Int)+1=((z+1:Nat):Int):=by omega
  simp (config:={maxSteps:=1000000}) (disch:=((try simp only [awL]);omega)) only [M1_a,M1_b,M1_c,M1_d,M1_e,M1_f,M1_g,M1_h,hk,↓awU,awV,awF,Qa,Qb,Qc,Qd,forall_const,↓reduceIte,↓reduceDIte,↓Qe,Qf,Qg,Qh,Qi,Qj,Qk,Ql,Qm,Qn,Qo,Qp,Qq,Qr,Qs,implies_true,Qt,Qu,Qv,Qw,Qx,Qy,Qz,QA,QB,QC,QD,QE,QF,QG,QH,QI,QJ,QK,QL,QM,QN,QO,QP,QQ]
  refine CallC.pure (lz32 _ tb mB) ?_
  obtain ⟨n1,n2,n3⟩:=norm_facts db hk tb rfl
  generalize hs:31 - (m.getD (k+1) 0).log2=s at *
  simp (config:={maxSteps:=1000000}) (disch:=((try simp only [awL]);omega)) only [M1_a,M1_b,M1_c,M1_d,M1_e,M1_f,M1_g,M1_h,hk,↓awU,awV,awF,Qa,Qb,Qc,Qd,forall_const,↓reduceIte,↓reduceDIte,↓Qe,Qf,Qg,Qh,Qi,Qj,Qk,Ql,Qm,Qn,Qo,Qp,Qq,Qr,Qs,implies_true,Qt,Qu,Qv,Qw,Qx,Qy,Qz,QA,QB,QC,QD,QE,QF,QG,QH,QI,QJ,QK,QL,QM,QN,QO,QP,QQ]
  refine CallC.by (shifted_spec l s da n1 (by omega)) rfl rfl (by simp) ?_
  simp (config:={maxSteps:=1000000}) (disch:=((try simp only [awL]);omega)) only [M1_a,M1_b,M1_c,M1_d,M1_e,M1_f,M1_g,M1_h,hk,↓awU,awV,awF,Qa,Qb,Qc,Qd,forall_const,↓reduceIte,↓reduceDIte,↓Qe,Qf,Qg,Qh,Qi,Qj,Qk,Ql,Qm,Qn,Qo,Qp,Qq,Qr,Qs,implies_true,Qt,Qu,Qv,Qw,Qx,Qy,Qz,QA,QB,QC,QD,QE,QF,QG,QH,QI,QJ,QK,QL,QM,QN,QO,QP,QQ]
  refine CallC.by (shifted_spec m s db n1 (by omega)) (by rw [W,hk]) rfl (by simp) ?_
  simp (config:={maxSteps:=1000000}) (disch:=((try simp only [awL]);omega)) only [e1,M1_a,M1_b,M1_c,M1_d,M1_e,M1_f,M1_g,M1_h,hk,↓awU,awV,awF,Qa,Qb,Qc,Qd,forall_const,↓reduceIte,↓reduceDIte,↓Qe,Qf,Qg,Qh,Qi,Qj,Qk,Ql,Qm,Qn,Qo,Qp,Qq,Qr,Qs,implies_true,Qt,Qu,Qv,Qw,Qx,Qy,Qz,QA,QB,QC,QD,QE,QF,QG,QH,QI,QJ,QK,QL,QM,QN,QO,QP,QQ]
  refine ⟨by rfl,?_⟩
  have hVz:val m*2 ^ s<B ^ (k+2+1):=Nat.lt_of_lt_of_le n2 (Nat.pow_le_pow_right (by decide) (by omega))
  generalize hU:val l*2 ^ s=U at *
  generalize hV:val m*2 ^ s=V at *
  refine LoopC.fx 7936 (α:=Nat × Nat × List Nat) (β:=Nat × List Nat) (fun x=>x.1) (fun x=>[(13,.d (.int .i64 ((x.1:Int) - 1)))])
   (fun x=>[.row false (nats .u32 (digs x.1 U++digs (l.length+1 - x.1) x.2.1)),.row false (nats .u32 (digs (k+2+1) V)),.row false (nats .u32 (List.replicate x.1 0++x.2.2))])
   (fun x=>x.1≤z+1∧x.2.2.length+x.1=z+1∧Dig x.2.2∧x.2.1<V∧U / B ^ x.1=val x.2.2*V+x.2.1)
   5888 (fun _=>[]) (fun x=>[.row false (nats .u32 (digs (l.length+1) x.1)),.row false (nats .u32 (digs (k+2+1) V)),.row false (nats .u32 x.2)])
   (fun x=>x.2.length=z+1∧Dig x.2∧x.1<V∧U=val x.2*V+x.1) (z+1,U / B ^ (z+1),[]) ⟨Nat.le_refl _,by simp,(fun x hx=>by cases hx),?_,by simp [val]⟩ ?_ ?_ ?_
  ·rw [← hU];exact ov_start da hz n1 n3
  ·refine ⟨[some 0,some 1,some 2],rfl,by simp,by simp [setsA,keepA,SWeak,AWeak],?_⟩
   have:digs (l.length+1) U=digs (z+1) U++digs (l.length+1 - (z+1)) (U / B ^ (z+1)):=by rw [← digs_split];congr 1;omega
   simp [HWeak,BWeak,this,List.replicate_succ]
  ·rintro ⟨i,r,qd⟩ ⟨hi,hq,hdq,hr,hv⟩
   simp only at hi hq hdq hr hv
   simp only [awK,Nat.reduceMod,Nat.reduceDiv,reduceIte]
   rcases i with _ | j
   ·simp (config:={maxSteps:=1000000}) (disch:=((try simp only [awL]);omega)) only [M1_a,M1_b,M1_c,M1_d,M1_e,M1_f,M1_g,M1_h,hk,↓awU,awV,awF,Qa,Qb,Qc,Qd,forall_const,↓reduceIte,↓reduceDIte,↓Qe,Qf,Qg,Qh,Qi,Qj,Qk,Ql,Qm,Qn,Qo,Qp,Qq,Qr,Qs,implies_true,Qt,Qu,Qv,Qw,Qx,Qy,Qz,QA,QB,QC,QD,QE,QF,QG,QH,QI,QJ,QK,QL,QM,QN,QO,QP,QQ]
    rw [Nat.pow_zero,Nat.div_one] at hv
    exact ⟨(r,qd),⟨by simpa using hq,hdq,hr,hv⟩,[some 0,some 1,some 2],rfl,by simp,by simp [SWeak,AWeak],by simp [HWeak,BWeak,digs]⟩
   ·have e2:j+(k+2)+1 - j=k+3:=by omega
    simp (config:={maxSteps:=1000000}) (disch:=((try simp only [awL]);omega)) only [M1_a,M1_b,M1_c,M1_d,M1_e,M1_f,M1_g,M1_h,hk,e2,↓awU,awV,awF,Qa,Qb,Qc,Qd,forall_const,↓reduceIte,↓reduceDIte,↓Qe,Qf,Qg,Qh,Qi,Qj,Qk,Ql,Qm,Qn,Qo,Qp,Qq,Qr,Qs,implies_true,Qt,Qu,Qv,Qw,Qx,Qy,Qz,QA,QB,QC,QD,QE,QF,QG,QH,QI,QJ,QK,QL,QM,QN,QO,QP,QQ]
    obtain ⟨hw,hq2⟩:=ov_step hv hr
    have hrB:r<B ^ (k+2):=Nat.lt_trans hr n2
    have eu:digs (j+1) U++digs (l.length+1 - (j+1)) r=digs j U++((U / B ^ j % B::digs (k+2) r)++List.replicate (z - j) 0):=by
     rw [digs_succ,List.append_assoc,show l.length+1 - (j+1)=(k+2)+(z - j) by omega,digs_zeros hrB];rfl
    have ed:digs (k+2+1) V=digs (k+2) V++[0]:=digs_zeros (z:=1) n2
    have du:Dig (U / B ^ j % B::digs (k+2) r):=fun x hx=>by
     rcases List.mem_cons.1 hx with rfl | hx
     ·exact Nat.mod_lt _ (by decide)
     ·exact dig_digs _ _ x hx
    have vu:val (U / B ^ j % B::digs (k+2) r)=U / B ^ j % B+B*r:=by rw [val,val_digs hrB]
    have vd:val (digs (k+2) V)=V:=val_digs n2
    have hds:=digit_spec (G:=G) (digs j U) (U / B ^ j % B::digs (k+2) r) (List.replicate (z - j) 0) (digs (k+2) V) [0] k (digs_length _ _) (by simp [digs_length]) (dig_digs _ _) du (by rw [vu,vd];exact hw) n3 (by simp [digs_length];omega)
    rw [digs_length,vu,vd] at hds
    refine CallC.by hds rfl (by rw [eu,ed]) (Nat.le_refl _) ?_
    have hr':(U / B ^ j % B+B*r) % V<V:=Nat.mod_lt _ (by omega)
    have hqB:(U / B ^ j % B+B*r) / V<B:=(Nat.div_lt_iff_lt_mul (by omega)).2 (by have:=hw;rw [Nat.mul_comm V] at this;exact this)
    generalize hgq:(U / B ^ j % B+B*r) / V=q1 at *
    generalize hgr:(U / B ^ j % B+B*r) % V=r1 at *
    have er:digs (l.length+1 - j) r1=digs (k+3) r1++List.replicate (z - j) 0:=by
     rw [show l.length+1 - j=(k+3)+(z - j) by omega,digs_zeros]
     exact Nat.lt_of_lt_of_le (Nat.lt_trans hr' n2) (Nat.pow_le_pow_right (by decide) (by omega))
    simp (config:={maxSteps:=1000000}) (disch:=((try simp only [awL]);omega)) only [M1_a,M1_b,M1_c,M1_d,M1_e,M1_f,M1_g,M1_h,hk,e2,↓awU,awV,awF,Qa,Qb,Qc,Qd,forall_const,↓reduceIte,↓reduceDIte,↓Qe,Qf,Qg,Qh,Qi,Qj,Qk,Ql,Qm,Qn,Qo,Qp,Qq,Qr,Qs,implies_true,Qt,Qu,Qv,Qw,Qx,Qy,Qz,QA,QB,QC,QD,QE,QF,QG,QH,QI,QJ,QK,QL,QM,QN,QO,QP,QQ]
    refine ⟨(j,r1,q1::qd),⟨by simp only;omega,by simp;omega,?_,hr',by rw [val];rw [Nat.add_comm q1];exact hq2⟩,by simp,[some 0,some 1,some 2],rfl,by simp,by simp [SWeak,AWeak],?_⟩
    ·intro x hx
     rcases List.mem_cons.1 hx with rfl | hx
     ·exact hqB
     ·exact hdq x hx
    ·simp [HWeak,BWeak,er,ed,set_rep]
  ·rintro ⟨r,qd⟩ ⟨hq,hdq,hr,hv⟩
   simp only at hq hdq hr hv
   simp only [awK,Nat.reduceMod,Nat.reduceDiv,reduceIte]
   simp (config:={maxSteps:=1000000}) (disch:=((try simp only [awL]);omega)) only [M1_a,M1_b,M1_c,M1_d,M1_e,M1_f,M1_g,M1_h,hk,↓awU,awV,awF,Qa,Qb,Qc,Qd,forall_const,↓reduceIte,↓reduceDIte,↓Qe,Qf,Qg,Qh,Qi,Qj,Qk,Ql,Qm,Qn,Qo,Qp,Qq,Qr,Qs,implies_true,Qt,Qu,Qv,Qw,Qx,Qy,Qz,QA,QB,QC,QD,QE,QF,QG,QH,QI,QJ,QK,QL,QM,QN,QO,QP,QQ]
   have hrB:r<B ^ (k+2):=Nat.lt_trans hr n2
   have vt:val ((digs (l.length+1) r).take (k+2))=r:=by rw [digs_take (by omega),val_digs hrB]
   have ht:=trimmed_ref (G:=G) (digs (l.length+1) r) (k+2) (dig_digs _ _) (by rw [digs_length];omega) (by rw [digs_length];omega)
   rw [vt] at ht
   refine CallC.by ht rfl rfl (Nat.le_refl _) ?_
   have hkk:(toW r).length≤k+2:=toW_length_le hrB
   have hrk:=lt_of_toW r
   generalize (toW r).length=kk at *
   simp (config:={maxSteps:=1000000}) (disch:=((try simp only [awL]);omega)) only [M1_a,M1_b,M1_c,M1_d,M1_e,M1_f,M1_g,M1_h,hk,↓awU,awV,awF,Qa,Qb,Qc,Qd,forall_const,↓reduceIte,↓reduceDIte,↓Qe,Qf,Qg,Qh,Qi,Qj,Qk,Ql,Qm,Qn,Qo,Qp,Qq,Qr,Qs,implies_true,Qt,Qu,Qv,Qw,Qx,Qy,Qz,QA,QB,QC,QD,QE,QF,QG,QH,QI,QJ,QK,QL,QM,QN,QO,QP,QQ]
   have hm2:(2:Int) ^ s=((2 ^ s:Nat):Int):=by simp
   have hmin:min s 64=s:=by omega
   refine LoopC.fx 77371252455336267181216256 (α:=Nat) (β:=Unit) (fun i=>kk - i) (fun i=>[(87,.d (.int .i64 i))])
    (fun i=>[.row false (nats .u32 (backRow (l.length+1) s r i)),.row false (nats .u32 (digs (k+2+1) V)),.row false (nats .u32 qd)]) (fun i=>i≤kk)
    20480 (fun _=>[]) (fun _=>[.row false (nats .u32 (backRow (l.length+1) s r kk)),.row false (nats .u32 (digs (k+2+1) V)),.row false (nats .u32 qd)]) (fun _=>True) 0 (Nat.zero_le _) ?_ ?_ ?_
   ·exact ⟨[some 0,some 1,some 2],rfl,by simp,by simp [setsA,keepA,SWeak,AWeak],by simp [HWeak,BWeak,backRow_zero]⟩
   ·intro i hi
    simp only [awK,Nat.reduceMod,Nat.reduceDiv,reduceIte]
    have b1:=backRow_length (s:=s) (r:=r) (show i≤l.length+1 by omega)
    simp (config:={maxSteps:=1000000}) (disch:=((try simp only [awL]);omega)) only [M1_a,M1_b,M1_c,M1_d,M1_e,M1_f,M1_g,M1_h,hk,b1,↓awU,awV,awF,Qa,Qb,Qc,Qd,forall_const,↓reduceIte,↓reduceDIte,↓Qe,Qf,Qg,Qh,Qi,Qj,Qk,Ql,Qm,Qn,Qo,Qp,Qq,Qr,Qs,implies_true,Qt,Qu,Qv,Qw,Qx,Qy,Qz,QA,QB,QC,QD,QE,QF,QG,QH,QI,QJ,QK,QL,QM,QN,QO,QP,QQ]
    refine ⟨fun h5=>?_,fun h5=>?_⟩
    ·refine CallC.frozenE (at_spec ((backRow (l.length+1) s r i).take kk) (i+1)) (by simp [W,b1];omega) ?_
     rw [backRow_next (by omega) hrk]
     have b3:=backRow_getD (N:=l.length+1) (s:=s) (r:=r) (i:=i) (by omega)
     have hun:=unshift (r:=r) (i:=i) n1
     have bs:=backRow_set (N:=l.length+1) (s:=s) (r:=r) (i:=i) (by omega)
     have g1:r / B ^ (i+1) % B<4294967296:=Nat.mod_lt _ (by decide)
     have g2:r / B ^ i % B<4294967296:=Nat.mod_lt _ (by decide)
     generalize r / B ^ (i+1) % B=hi' at *
     generalize r / B ^ i % B=lo at *
     simp (config:={maxSteps:=1000000}) (disch:=((try simp only [awL]);omega)) only [M1_a,M1_b,M1_c,M1_d,M1_e,M1_f,M1_g,M1_h,hk,b1,b3,or64,hmin,hm2,fdiv_nat,w_u32,↓awU,awV,awF,Qa,Qb,Qc,Qd,forall_const,↓reduceIte,↓reduceDIte,↓Qe,Qf,Qg,Qh,Qi,Qj,Qk,Ql,Qm,Qn,Qo,Qp,Qq,Qr,Qs,implies_true,Qt,Qu,Qv,Qw,Qx,Qy,Qz,QA,QB,QC,QD,QE,QF,QG,QH,QI,QJ,QK,QL,QM,QN,QO,QP,QQ]
     have hun':(hi'*4294967296+lo) / 2 ^ s % 4294967296=r / 2 ^ s / B ^ i % B:=hun
     rw [hun',bs]
     exact ⟨i+1,by omega,by simp only;omega,[some 0,some 1,some 2],rfl,by simp,by simp [SWeak,AWeak],by simp [HWeak,BWeak]⟩
    ·have:i=kk:=by omega
     subst this
     exact ⟨(),trivial,[some 0,some 1,some 2],rfl,by simp,by simp [SWeak,AWeak],by simp [HWeak,BWeak]⟩
   ·rintro ⟨⟩ -
    simp only [awK,Nat.reduceMod,Nat.reduceDiv,reduceIte]
    simp (config:={maxSteps:=1000000}) (disch:=((try simp only [awL]);omega)) only [M1_a,M1_b,M1_c,M1_d,M1_e,M1_f,M1_g,M1_h,hk,↓awU,awV,awF,Qa,Qb,Qc,Qd,forall_const,↓reduceIte,↓reduceDIte,↓Qe,Qf,Qg,Qh,Qi,Qj,Qk,Ql,Qm,Qn,Qo,Qp,Qq,Qr,Qs,implies_true,Qt,Qu,Qv,Qw,Qx,Qy,Qz,QA,QB,QC,QD,QE,QF,QG,QH,QI,QJ,QK,QL,QM,QN,QO,QP,QQ]
    have hq1:=trimmed_ref (G:=G) qd (z+1) hdq (by omega) (by omega)
    rw [List.take_of_length_le (by omega)] at hq1
    refine CallC.by hq1 rfl rfl (Nat.le_refl _) ?_
    simp (config:={maxSteps:=1000000}) (disch:=((try simp only [awL]);omega)) only [M1_a,M1_b,M1_c,M1_d,M1_e,M1_f,M1_g,M1_h,hk,↓awU,awV,awF,Qa,Qb,Qc,Qd,forall_const,↓reduceIte,↓reduceDIte,↓Qe,Qf,Qg,Qh,Qi,Qj,Qk,Ql,Qm,Qn,Qo,Qp,Qq,Qr,Qs,implies_true,Qt,Qu,Qv,Qw,Qx,Qy,Qz,QA,QB,QC,QD,QE,QF,QG,QH,QI,QJ,QK,QL,QM,QN,QO,QP,QQ]
    have hus:=unscale (a:=a) (b:=b) (Nat.two_pow_pos s) (by rw [← va,← vb,hU,hV];exact hv) (by rw [← vb,hV];exact hr)
    have vt2:val ((backRow (l.length+1) s r kk).take kk)=r / 2 ^ s:=by rw [backRow_take,val_digs (Nat.lt_of_le_of_lt hus.2.2 hrk)]
    have hr1:=trimmed_ref (G:=G) (backRow (l.length+1) s r kk) kk dig_backRow (by rw [backRow_length (by omega)];omega) (by rw [backRow_length (by omega)];omega)
    have htr:=take_trim (dig_digs kk (r / 2 ^ s))
    have htl:=trim_len (dig_digs kk (r / 2 ^ s))
    rw [val_digs (Nat.lt_of_le_of_lt hus.2.2 hrk)] at htr htl
    rw [digs_length] at htl
    rw [vt2] at hr1
    refine CallC.by hr1 rfl rfl (Nat.le_refl _) ?_
    have htq:=take_trim hdq
    have b1:=backRow_length (s:=s) (r:=r) (show kk≤l.length+1 by omega)
    have hlq:=trim_len hdq
    simp (config:={maxSteps:=1000000}) (disch:=((try simp only [awL]);omega)) only [M1_a,M1_b,M1_c,M1_d,M1_e,M1_f,M1_g,M1_h,hk,b1,↓awU,awV,awF,Qa,Qb,Qc,Qd,forall_const,↓reduceIte,↓reduceDIte,↓Qe,Qf,Qg,Qh,Qi,Qj,Qk,Ql,Qm,Qn,Qo,Qp,Qq,Qr,Qs,implies_true,Qt,Qu,Qv,Qw,Qx,Qy,Qz,QA,QB,QC,QD,QE,QF,QG,QH,QI,QJ,QK,QL,QM,QN,QO,QP,QQ]
    have e5:(backRow (l.length+1) s r kk).take (toW (r / 2 ^ s)).length=toW (r / 2 ^ s):=by
     have:=congrArg (List.take (toW (r / 2 ^ s)).length) (backRow_take (N:=l.length+1) (s:=s) (r:=r) (i:=kk))
     rw [List.take_take,Nat.min_eq_left htl,htr] at this
     exact this
    rw [e5,htq,hus.1,hus.2.1]
end Go.Proofs.YtkgbbdoeodmkgaaGreatDoor.Num
namespace Go.Proofs.YtkgbbdoeodmkgaaGreatDoor.Num
open Go Go.Proofs Go.Abs
variable {G:Globals}
theorem toW_len_mono {a b:Nat} (h:a≤b):(toW a).length≤(toW b).length:=by
 by_cases h2:(toW b).length<(toW a).length
 ·have:=toW_len_lt h2;omega
 ·omega
theorem common_spec (a b:Nat) (ha:(toW a).length<2 ^ 38) (hb:(toW b).length<2 ^ 38) :
  Ctr Tryz.prog G 109 [.d (W (toW a)),.d (W (toW b))] [] (.d (W (toW (Nat.gcd a b)))) []:=by
 refine Ctr.pure (M:=M0) hmix Tryz.func109 rfl go109 ?_
 simp (config:={maxSteps:=1000000}) (disch:=((try simp only [awL]);omega)) only [Tryz.f109,↓awU,awV,awF,Qa,Qb,Qc,Qd,forall_const,↓reduceIte,↓reduceDIte,↓Qe,Qf,Qg,Qh,Qi,Qj,Qk,Ql,Qm,Qn,Qo,Qp,Qq,Qr,Qs,implies_true,Qt,Qu,Qv,Qw,Qx,Qy,Qz,QA,QB,QC,QD,QE,QF,QG,QH,QI,QJ,QK,QL,QM,QN,QO,QP,QQ]
 refine LoopC.fr 0 (α:=Nat × Nat) (fun x=>x.2) (fun x=>[(0,.d (W (toW x.1))),(1,.d (W (toW x.2)))]) (fun _=>[]) (fun x=>Nat.gcd x.1 x.2=Nat.gcd a b∧(toW x.1).length<2 ^ 38∧(toW x.2).length<2 ^ 38) (a,b) ⟨rfl,ha,hb⟩ ?_ ?_
 ·exact ⟨[],rfl,by simp,by simp [setsA,keepA,SWeak,AWeak],by simp [HWeak,BWeak,SWeak,AWeak]⟩
 ·rintro ⟨x,y⟩ ⟨hg,hx,hy⟩
  simp only at hg hx hy
  simp only [awK,Nat.reduceMod,Nat.reduceDiv,reduceIte]
  by_cases h0:y=0
  ·subst h0
   rw [Nat.gcd_zero_right] at hg
   subst hg
   have e:toW 0=[]:=toW_zero
   rw [e]
   simp (config:={maxSteps:=1000000}) (disch:=((try simp only [awL]);omega)) only [↓awU,awV,awF,Qa,Qb,Qc,Qd,forall_const,↓reduceIte,↓reduceDIte,↓Qe,Qf,Qg,Qh,Qi,Qj,Qk,Ql,Qm,Qn,Qo,Qp,Qq,Qr,Qs,implies_true,Qt,Qu,Qv,Qw,Qx,Qy,Qz,QA,QB,QC,QD,QE,QF,QG,QH,QI,QJ,QK,QL,QM,QN,QO,QP,QQ]
  ·have hp:0<(toW y).length:=by
    rcases Nat.eq_zero_or_pos (toW y).length with h | h
    ·exact absurd (toW_nil.1 (List.length_eq_zero_iff.1 h)) h0
    ·exact h
   simp (config:={maxSteps:=1000000}) (disch:=((try simp only [awL]);omega)) only [↓awU,awV,awF,Qa,Qb,Qc,Qd,forall_const,↓reduceIte,↓reduceDIte,↓Qe,Qf,Qg,Qh,Qi,Qj,Qk,Ql,Qm,Qn,Qo,Qp,Qq,Qr,Qs,implies_true,Qt,Qu,Qv,Qw,Qx,Qy,Qz,QA,QB,QC,QD,QE,QF,QG,QH,QI,QJ,QK,QL,QM,QN,QO,QP,QQ]
   refine CallC.pure (over_spec x y h0 hx hy) ?_
   simp (config:={maxSteps:=1000000}) (disch:=((try simp only [awL]);omega)) only [↓awU,awV,awF,Qa,Qb,Qc,Qd,forall_const,↓reduceIte,↓reduceDIte,↓Qe,Qf,Qg,Qh,Qi,Qj,Qk,Ql,Qm,Qn,Qo,Qp,Qq,Qr,Qs,implies_true,Qt,Qu,Qv,Qw,Qx,Qy,Qz,QA,QB,QC,QD,QE,QF,QG,QH,QI,QJ,QK,QL,QM,QN,QO,QP,QQ]
   have hlt:=Nat.mod_lt x (Nat.pos_of_ne_zero h0)
   refine ⟨(y,x % y),⟨by rw [← hg,Nat.gcd_comm x y];rw [Nat.gcd_comm y (x % y)];exact (Nat.gcd_rec y x).symm,hy,?_⟩,hlt,⟨[],rfl,by simp,by simp [setsA,keepA,SWeak,AWeak],by simp [HWeak,BWeak,SWeak,AWeak]⟩⟩
   have:=toW_len_mono (Nat.le_of_lt hlt)
   simp only;omega
abbrev bigL (n:Int):List D:=[.bool (decide (n<0)),W (toW n.natAbs)]
abbrev Big (n:Int):D:=.agg (bigL n)
abbrev Frac (x:Rat):D:=.agg [.bool (decide (x.num<0)),W (toW x.num.natAbs),.bool false,W (toW x.den)]
abbrev sz (n:Int):Nat:=(toW n.natAbs).length
theorem sz_pos {n:Nat}:0<(toW n).length↔n≠0:=by
 rw [Nat.pos_iff_ne_zero,ne_eq,List.length_eq_zero_iff,toW_nil]
theorem signed_spec (neg:Bool) (n:Nat) (hn:(toW n).length<2 ^ 38):Ctr Tryz.prog G 82 [.d (.bool neg),.d (W (toW n))] [] (.d (Big (if neg then -(n:Int) else n))) []:=by
 refine Ctr.pure (M:=M0) hmix Tryz.func82 rfl go82 ?_
 cases neg
 ·simp (config:={maxSteps:=1000000}) (disch:=((try simp only [awL]);omega)) only [Tryz.f82,↓awU,awV,awF,Qa,Qb,Qc,Qd,forall_const,↓reduceIte,↓reduceDIte,↓Qe,Qf,Qg,Qh,Qi,Qj,Qk,Ql,Qm,Qn,Qo,Qp,Qq,Qr,Qs,implies_true,Qt,Qu,Qv,Qw,Qx,Qy,Qz,QA,QB,QC,QD,QE,QF,QG,QH,QI,QJ,QK,QL,QM,QN,QO,QP,QQ]
  simp [Big,bigL,W]
 ·simp (config:={maxSteps:=1000000}) (disch:=((try simp only [awL]);omega)) only [Tryz.f82,↓awU,awV,awF,Qa,Qb,Qc,Qd,forall_const,↓reduceIte,↓reduceDIte,↓Qe,Qf,Qg,Qh,Qi,Qj,Qk,Ql,Qm,Qn,Qo,Qp,Qq,Qr,Qs,implies_true,Qt,Qu,Qv,Qw,Qx,Qy,Qz,QA,QB,QC,QD,QE,QF,QG,QH,QI,QJ,QK,QL,QM,QN,QO,QP,QQ]
  have:=@sz_pos n
  simp [Big,bigL,W]
  omega
theorem times_len {a b:Nat}:(toW (a*b)).length≤(toW a).length+(toW b).length:=by
 refine toW_length_le ?_
 rw [Nat.pow_add]
 exact Nat.mul_lt_mul'' (lt_of_toW a) (lt_of_toW b)
theorem plus_len {a b:Nat}:(toW (a+b)).length≤max (toW a).length (toW b).length+1:=by
 refine toW_length_le ?_
 have h1:=Nat.lt_of_lt_of_le (lt_of_toW a) (Nat.pow_le_pow_right (show 0<B by decide) (Nat.le_max_left (toW a).length (toW b).length))
 have h2:=Nat.lt_of_lt_of_le (lt_of_toW b) (Nat.pow_le_pow_right (show 0<B by decide) (Nat.le_max_right (toW a).length (toW b).length))
 generalize max (toW a).length (toW b).length=k at *
 have h3:B ^ k*2≤B ^ k*B:=Nat.mul_le_mul_left _ (by decide)
 rw [Nat.pow_succ]
 omega
end Go.Proofs.YtkgbbdoeodmkgaaGreatDoor.Num
namespace Go.Proofs.YtkgbbdoeodmkgaaGreatDoor.Num
open Go Go.Proofs Go.Abs
variable {G:Globals}
theorem sign_mul {n d:Int} (hd:d≠0):d.sign*n=if ¬ decide (n<0)=decide (d<0) then -((n.natAbs:Nat):Int) else ((n.natAbs:Nat):Int):=by
 rcases Int.lt_or_gt_of_ne hd with h | h
 ·rw [Int.sign_eq_neg_one_of_neg h]
  by_cases hn:n<0<;>simp [hn,h]<;>omega
 ·rw [Int.sign_eq_one_of_pos h]
  by_cases hn:n<0<;>simp [hn,show ¬ d<0 by omega]<;>omega
theorem neg_div {m g:Nat} (h:g ∣ m):(-((m:Nat):Int)) / (g:Int)=-((m / g:Nat):Int):=by
 rw [Int.neg_ediv_of_dvd (Int.natCast_dvd_natCast.2 h)];rfl
theorem div_len {a b:Nat}:(toW (a / b)).length≤(toW a).length:=toW_len_mono (Nat.div_le_self _ _)
set_option maxHeartbeats 4000000 in
set_option maxRecDepth 100000 in
theorem reduced_spec (n d:Int) (hd:d≠0) (hn:sz n<2 ^ 36) (hds:sz d<2 ^ 36):Ctr Tryz.prog G 81 [.d (Big n),.d (Big d)] [] (.d (Frac (Rat.divInt n d))) []:=by
 simp only [sz] at hn hds
 have hg0:Nat.gcd n.natAbs d.natAbs≠0:=by
  intro h;exact hd (Int.natAbs_eq_zero.1 (Nat.gcd_eq_zero_iff.1 h).2)
 have hgl:(toW (Nat.gcd n.natAbs d.natAbs)).length≤(toW d.natAbs).length:=toW_len_mono (Nat.gcd_le_right _ (by omega))
 have hx:=@div_len n.natAbs (Nat.gcd n.natAbs d.natAbs)
 have hy:=@div_len d.natAbs (Nat.gcd n.natAbs d.natAbs)
 have e1:(Rat.divInt n d).num=if ¬ decide (n<0)=decide (d<0) then -((n.natAbs / Nat.gcd n.natAbs d.natAbs:Nat):Int) else ((n.natAbs / Nat.gcd n.natAbs d.natAbs:Nat):Int):=by
  rw [Rat.num_divInt,sign_mul hd,Int.gcd,Nat.gcd_comm d.natAbs]
  split
  ·exact neg_div (Nat.gcd_dvd_left _ _)
  ·rfl
 have e2:(Rat.divInt n d).den=d.natAbs / Nat.gcd n.natAbs d.natAbs:=by
  rw [Rat.den_divInt,if_neg hd,Int.gcd,Nat.gcd_comm d.natAbs]
 refine Ctr.pure (M:=M0) hmix Tryz.func81 rfl go81 ?_
 simp (config:={maxSteps:=1000000}) (disch:=((try simp only [awL]);omega)) only [Tryz.f81,↓awU,awV,awF,Qa,Qb,Qc,Qd,forall_const,↓reduceIte,↓reduceDIte,↓Qe,Qf,Qg,Qh,Qi,Qj,Qk,Ql,Qm,Qn,Qo,Qp,Qq,Qr,Qs,implies_true,Qt,Qu,Qv,Qw,Qx,Qy,Qz,QA,QB,QC,QD,QE,QF,QG,QH,QI,QJ,QK,QL,QM,QN,QO,QP,QQ]
 refine CallC.pure (common_spec _ _ (by omega) (by omega)) ?_
 generalize Nat.gcd n.natAbs d.natAbs=g at *
 simp (config:={maxSteps:=1000000}) (disch:=((try simp only [awL]);omega)) only [↓awU,awV,awF,Qa,Qb,Qc,Qd,forall_const,↓reduceIte,↓reduceDIte,↓Qe,Qf,Qg,Qh,Qi,Qj,Qk,Ql,Qm,Qn,Qo,Qp,Qq,Qr,Qs,implies_true,Qt,Qu,Qv,Qw,Qx,Qy,Qz,QA,QB,QC,QD,QE,QF,QG,QH,QI,QJ,QK,QL,QM,QN,QO,QP,QQ]
 refine CallC.pure (over_spec _ g hg0 (by omega) (by omega)) ?_
 simp (config:={maxSteps:=1000000}) (disch:=((try simp only [awL]);omega)) only [↓awU,awV,awF,Qa,Qb,Qc,Qd,forall_const,↓reduceIte,↓reduceDIte,↓Qe,Qf,Qg,Qh,Qi,Qj,Qk,Ql,Qm,Qn,Qo,Qp,Qq,Qr,Qs,implies_true,Qt,Qu,Qv,Qw,Qx,Qy,Qz,QA,QB,QC,QD,QE,QF,QG,QH,QI,QJ,QK,QL,QM,QN,QO,QP,QQ]
 refine CallC.pure (over_spec _ g hg0 (by omega) (by omega)) ?_
 simp (config:={maxSteps:=1000000}) (disch:=((try simp only [awL]);omega)) only [↓awU,awV,awF,Qa,Qb,Qc,Qd,forall_const,↓reduceIte,↓reduceDIte,↓Qe,Qf,Qg,Qh,Qi,Qj,Qk,Ql,Qm,Qn,Qo,Qp,Qq,Qr,Qs,implies_true,Qt,Qu,Qv,Qw,Qx,Qy,Qz,QA,QB,QC,QD,QE,QF,QG,QH,QI,QJ,QK,QL,QM,QN,QO,QP,QQ]
 refine CallC.pure (signed_spec _ _ (by omega)) ?_
 simp (config:={maxSteps:=1000000}) (disch:=((try simp only [awL]);omega)) only [↓awU,awV,awF,Qa,Qb,Qc,Qd,forall_const,↓reduceIte,↓reduceDIte,↓Qe,Qf,Qg,Qh,Qi,Qj,Qk,Ql,Qm,Qn,Qo,Qp,Qq,Qr,Qs,implies_true,Qt,Qu,Qv,Qw,Qx,Qy,Qz,QA,QB,QC,QD,QE,QF,QG,QH,QI,QJ,QK,QL,QM,QN,QO,QP,QQ]
 refine CallC.pure (signed_spec false _ (by omega)) ?_
 simp only [Frac]
 rw [e1,e2]
 simp (config:={maxSteps:=1000000}) (disch:=((try simp only [awL]);omega)) only [↓awU,awV,awF,Qa,Qb,Qc,Qd,forall_const,↓reduceIte,↓reduceDIte,↓Qe,Qf,Qg,Qh,Qi,Qj,Qk,Ql,Qm,Qn,Qo,Qp,Qq,Qr,Qs,implies_true,Qt,Qu,Qv,Qw,Qx,Qy,Qz,QA,QB,QC,QD,QE,QF,QG,QH,QI,QJ,QK,QL,QM,QN,QO,QP,QQ]
def FV (x:Rat):Prop:=sz x.num≤256∧(toW x.den).length≤256
instance (x:Rat):Decidable (FV x):=inferInstanceAs (Decidable (_∧_))
def HG (G:Globals):Prop:=G 1=some [W [1]]
theorem toW_one:toW 1=[1]:=by rw [toW_pos (by decide),show 1 / B=0 from rfl,toW_zero];rfl
theorem bigL_nat {n:Nat}:bigL (n:Int)=[.bool false,W (toW n)]:=by simp [bigL]
abbrev Zf:D:=.agg [.bool false,.sl 0 false [],.bool false,.sl 0 false []]
theorem sz_int {n:Int} (h1:-9223372036854775808≤n) (h2:n≤9223372036854775807):sz n≤2:=toW_length_le (by simp only [B];omega)
abbrev BigN (n:Nat):D:=.agg [.bool false,W (toW n)]
theorem Big_nat {n:Nat}:Big (n:Int)=BigN n:=by rw [Big,bigL_nat]
end Go.Proofs.YtkgbbdoeodmkgaaGreatDoor.Num
namespace Go.Proofs.YtkgbbdoeodmkgaaGreatDoor
open Go Go.Proofs Go.Abs Go.RowKit Go.ChangeShapes Go.WideShapes Go.ChangeAt Go.Shelf Go.Joins Go.Deep
theorem gOne:Tryz.prog.globalNamed "tablefinder/fraction.one" = some 1:=by kernel_rfl
theorem tOne:(Tryz.prog.globals[1]?).map (·.type)=some 106:=by kernel_rfl
theorem cU32:Tryz.prog.cellsOf 107=1:=by kernel_rfl
def G2 (b:Bool):Globals:=fun g=>if g=1 then some [Num.W [1]] else G1 b g
theorem hP2 {b:Bool}:HP (G2 b):=rfl
theorem hI2 {b:Bool}:HI (G2 b):=hi_of hP2
theorem globOK2 {X:World} {b:Bool} (h0:GlobOK (G1 b) X) (h:Lib.VarReads Tryz.prog X "tablefinder/fraction.one" Rows.laid_tablefinder_fraction_one):GlobOK (G2 b) X:=by
 obtain ⟨g,t,cs,fuel,p,hg,ht,hv,hd⟩:=h
 obtain rfl:=Option.some.inj (gOne.symm.trans hg)
 obtain rfl:=Option.some.inj (tOne.symm.trans ht)
 rcases open_ints Tryz.underlying106 Tryz.underlying107 cU32 hd with ⟨_,hx⟩ | ⟨a,len,cap,zs,hcs,_,hl,hm,hz,hx,hcell,_⟩
 ·simp [Rows.laid_tablefinder_fraction_one] at hx
 ·have hz:zs.length=cap:=by simpa using hz
  simp only [Rows.laid_tablefinder_fraction_one,Prod.mk.injEq,DataW.slice.injEq] at hx
  obtain ⟨⟨h1,h2⟩,_⟩:=hx
  have e1:(zs.take len).length=1:=by
   have:=congrArg List.length h1;simpa [lits] using this.symm
  have e2:(zs.drop len).length=0:=by
   have:=congrArg List.length h2;simpa [lits] using this.symm
  have e3:len=1∧cap=1:=by simp at e1 e2;omega
  obtain ⟨rfl,rfl⟩:=e3
  obtain ⟨z,rfl⟩:∃ z,zs=[z]:=by
   match zs,hz with
   | [z],_=>exact ⟨z,rfl⟩
  have ez:z=1:=by
   have:=h1;simp [lits] at this;exact this.symm
  subst ez
  have hz0:=World.var?_cell hg hv 0
  have e4:cs[0]? = some (.slice (some a) 1 1):=by
   have:cs=#[.slice (some a) 1 1]:=by rw [← Array.toArray_toList (xs:=cs),hcs]
   rw [this];rfl
  rw [e4] at hz0
  rcases RD_ints (W:=X) (k:=.u32) hl (by simp) hcell with hr | hr
  ·intro g ds hgd
   simp only [G2] at hgd
   split at hgd
   ·rename_i hgg
    subst hgg
    cases hgd
    refine ⟨fun _=>.slice (some a) 1 1,fun i x hx=>?_,fun i x hx=>?_⟩
    ·rcases i with _ | i
     ·exact hz0
     ·simp at hx
    ·rcases i with _ | i
     ·simp at hx;subst hx;exact hr
     ·simp at hx
   ·exact h0 g ds hgd
  ·cases hr
end Go.Proofs.YtkgbbdoeodmkgaaGreatDoor
namespace Go.Proofs.YtkgbbdoeodmkgaaGreatDoor
open Go Go.Proofs Go.Abs
variable {G:Globals}
theorem getD_le {l:List Nat} {m:Nat} (h:∀ i,i<l.length→l.getD i 0≤m) (i:Nat):l.getD i 0≤m:=by
 rcases Nat.lt_or_ge i l.length with h1 | h1
 ·exact h i h1
 ·rw [List.getD_eq_getElem?_getD,List.getElem?_eq_none h1];exact Nat.zero_le _
end Go.Proofs.YtkgbbdoeodmkgaaGreatDoor
namespace Go.Proofs.YtkgbbdoeodmkgaaGreatDoor
open Go Go.Proofs Go.Abs
variable {G:Globals}
end Go.Proofs.YtkgbbdoeodmkgaaGreatDoor
namespace Go.Proofs.YtkgbbdoeodmkgaaGreatDoor
open Go Go.Proofs Go.Abs
variable {G:Globals}
def nots (q:List Bool):List Bool:=q.map not
end Go.Proofs.YtkgbbdoeodmkgaaGreatDoor
namespace Go.Proofs.YtkgbbdoeodmkgaaGreatDoor
open Go Go.Proofs Go.Abs
variable {G:Globals}
theorem dg_byte {n:Nat} (h:n<10):(UInt8.ofNat (48+n)).toNat=48+n:=by simp;omega
theorem dec_ne (n:Nat):Lib.decDigits n≠[]:=by
 intro e
 have:=congrArg List.length e
 rw [Lib.decDigits_length] at this
 have:=Lib.nDigits_pos n
 simp at *;omega
theorem natGo_dec:∀ (n:Nat) (t:List UInt8),n<100000000→natGo 0 0 (Lib.decDigits n++t)=natGo n (Lib.decDigits n).length t:=by
 intro n
 induction n using Nat.strongRecOn with
 | _ n ih =>
  intro t hn
  rw [Lib.decDigits]
  split
  ·rw [List.singleton_append,natGo,dg_byte (by omega),if_neg (by omega)]
   congr 1;omega
  ·rw [List.append_assoc,ih _ (by omega) _ (by omega),List.singleton_append,natGo,dg_byte (by omega),if_neg (by omega),List.length_append]
   congr 1;omega
def natO (p:List UInt8):Option Nat:=match natGo 0 0 p with | some n=>if p=[] then none else some n | none=>none
theorem natO_dec {n:Nat} (hn:n<100000000):natO (Lib.decDigits n)=some n:=by
 have:=natGo_dec n [] hn
 rw [List.append_nil] at this
 rw [natO,this,natGo]
 simp only [if_neg (dec_ne n)]
end Go.Proofs.YtkgbbdoeodmkgaaGreatDoor
namespace Go.Proofs.YtkgbbdoeodmkgaaGreatDoor
open Go Go.Proofs Go.Abs
variable {G:Globals}
end Go.Proofs.YtkgbbdoeodmkgaaGreatDoor
namespace Go.Proofs.YtkgbbdoeodmkgaaGreatDoor
open Go Go.Proofs Go.Abs
variable {G:Globals}
end Go.Proofs.YtkgbbdoeodmkgaaGreatDoor
namespace Go.Proofs.YtkgbbdoeodmkgaaGreatDoor
open Go Go.Proofs Go.Abs
variable {G:Globals}
def LayI (l:List Nat):Prop:=l≠[]∧l.getD 0 0=0∧l.length≤4∧(∀ i,i<l.length→l.getD i 0≤12*i)∧∀ i,i+1<l.length→l.getD i 0<l.getD (i+1) 0
theorem LayI.step {l:List Nat} (h:LayI l) (hl:l.length<4) {c:Nat} (hc:c<12):LayI (l++[l.getD (l.length - 1) 0+1+c]):=by
 obtain ⟨h1,h2,h3,h4,h5⟩:=h
 have lp:0<l.length:=List.length_pos_iff.2 h1
 have old:∀ i,i<l.length→(l++[l.getD (l.length - 1) 0+1+c]).getD i 0=l.getD i 0:=fun i hi=>by
  rw [List.getD_eq_getElem?_getD,List.getElem?_append_left hi,← List.getD_eq_getElem?_getD]
 have new:(l++[l.getD (l.length - 1) 0+1+c]).getD l.length 0=l.getD (l.length - 1) 0+1+c:=by
  rw [List.getD_eq_getElem?_getD,List.getElem?_append_right (Nat.le_refl _),Nat.sub_self];rfl
 refine ⟨by simp,by rw [old 0 lp,h2],by rw [List.length_append,List.length_singleton];omega,fun i hi=>?_,fun i hi=>?_⟩
 ·rw [List.length_append,List.length_singleton] at hi
  rcases Nat.lt_or_ge i l.length with h | h
  ·rw [old i h];exact h4 i h
  ·obtain rfl:i=l.length:=by omega
   rw [new]
   have:=h4 (l.length - 1) (by omega)
   omega
 ·rw [List.length_append,List.length_singleton] at hi
  rcases Nat.lt_or_ge (i+1) l.length with h | h
  ·rw [old i (by omega),old (i+1) h];exact h5 i h
  ·have e:i+1=l.length:=by omega
   rw [e,new,old i (by omega)]
   have:i=l.length - 1:=by omega
   rw [this];omega
end Go.Proofs.YtkgbbdoeodmkgaaGreatDoor
namespace Go.Proofs.YtkgbbdoeodmkgaaGreatDoor
open Go Go.Proofs Go.Abs
theorem valid_ascii:∀ s:List UInt8,(∀ c∈s,c.toNat<128)→Lib.validD s=true
 | [],_=>rfl
 | c::r,h=>by rw [Lib.validD_cons _ _ (h c (by simp))];exact valid_ascii r fun x hx=>h x (by simp [hx])
def asciiL (s:List UInt8):Prop:=∀ c∈s,c.toNat<128
theorem ascii_app {a b:List UInt8} (ha:asciiL a) (hb:asciiL b):asciiL (a++b):=fun c hc=>by
 rcases List.mem_append.1 hc with h | h
 ·exact ha c h
 ·exact hb c h
theorem get_all {P:List UInt8→Prop} {l:List (List UInt8)} (h0:P []) (h:∀ s∈l,P s) (i:Nat):P (l.getD i []):=by
 rcases Nat.lt_or_ge i l.length with h1 | h1
 ·exact h _ (memD h1)
 ·rw [List.getD_eq_getElem?_getD,List.getElem?_eq_none h1];exact h0
theorem ascii_nil:asciiL []:=fun c h=>by cases h
theorem ascii_cons {c:UInt8} {r:List UInt8} (hc:c.toNat<128) (hr:asciiL r):asciiL (c::r):=fun x hx=>by
 rcases List.mem_cons.1 hx with rfl | h
 ·exact hc
 ·exact hr x h
theorem ascii_itoa {n:Nat} (h:n<100):asciiL (itoaL n):=by
 unfold itoaL
 split
 ·intro c hc;rw [List.mem_singleton.1 hc];simp;omega
 ·intro c hc
  rcases List.mem_cons.1 hc with rfl | hc
  ·simp;omega
  ·rw [List.mem_singleton.1 hc];simp;omega
theorem ascii_num (t:List Int) (k:Nat):asciiL (numM t k):=by
 have h1:asciiL (num1 t k):=by
  obtain ⟨b,hb,hb2⟩:=pk_nat t (k+1) 40 (by decide)
  unfold num1
  rw [hb]
  exact ascii_app (get_all ascii_nil (by unfold asciiL;decide) _) (ascii_itoa (by simp;omega))
 have h2:asciiL (num2 t k):=by
  unfold num2
  split
  ·split
   ·exact h1
   ·exact ascii_cons (by decide) h1
  ·exact h1
 unfold numM
 split
 ·exact ascii_app h2 (ascii_cons (by decide) (get_all ascii_nil (by unfold asciiL;decide) _))
 ·exact h2
theorem ascii_date (t:List Int) (k:Nat):asciiL (dateM t k)∧(dateM t k).length≤10:=by
 have a1:asciiL (yearsL.getD (pk t k 6).toNat []):=get_all ascii_nil (by unfold asciiL;decide) _
 have a2:asciiL (monthsL.getD (pk t (k+1) 5).toNat []):=get_all ascii_nil (by unfold asciiL;decide) _
 have a3:asciiL (daysL.getD (pk t (k+2) 5).toNat []):=get_all ascii_nil (by unfold asciiL;decide) _
 have l1:=get_len (l:=yearsL) (m:=4) (by decide) (pk t k 6).toNat
 have l2:=get_len (l:=monthsL) (m:=2) (by decide) (pk t (k+1) 5).toNat
 have l3:=get_len (l:=daysL) (m:=2) (by decide) (pk t (k+2) 5).toNat
 have one:∀ n:UInt8,n.toNat<128→asciiL [n]:=fun n h=>ascii_cons h ascii_nil
 unfold dateM
 simp only
 split
 ·exact ⟨ascii_app (ascii_app (ascii_app (ascii_app a1 (one _ (by decide))) a2) (one _ (by decide))) a3,by simp only [List.length_append,List.length_cons,List.length_nil];omega⟩
 ·split
  ·exact ⟨ascii_app (ascii_app (ascii_app (ascii_app a1 (one _ (by decide))) a2) (one _ (by decide))) a3,by simp only [List.length_append,List.length_cons,List.length_nil];omega⟩
  ·exact ⟨ascii_app (ascii_app (ascii_app (ascii_app a3 (one _ (by decide))) a2) (one _ (by decide))) a1,by simp only [List.length_append,List.length_cons,List.length_nil];omega⟩
def okT (s:List UInt8):Prop:=Lib.validD s=true∧s.length≤30
instance (s:List UInt8):Decidable (okT s):=by unfold okT;exact inferInstance
theorem okT_nil:okT []:=by decide
set_option maxRecDepth 100000 in
theorem okT_words:∀ s∈wordsL,okT s:=by decide
set_option maxRecDepth 100000 in
theorem okT_bools:∀ s∈boolsL,okT s:=by decide
set_option maxRecDepth 100000 in
theorem okT_nulls:∀ s∈nullsL,okT s:=by decide
set_option maxRecDepth 100000 in
theorem okT_odds:∀ s∈oddsL,okT s:=by decide
theorem fieldM_ok (t:List Int) (k c:Nat):okT (fieldM t k c):=by
 unfold fieldM
 repeat' split
 ·exact get_all okT_nil okT_words _
 ·exact ⟨valid_ascii _ (ascii_num t k),by have:=(numM_len t k).2;omega⟩
 ·exact ⟨valid_ascii _ (ascii_date t k).1,by have:=(ascii_date t k).2;omega⟩
 ·exact get_all okT_nil okT_bools _
 ·have:=(numM_len t k).2
  have l2:=get_len (l:=unitsL) (m:=4) (by decide) (pk t (numK t k) 7).toNat
  exact ⟨valid_ascii _ (ascii_app (ascii_num t k) (get_all ascii_nil (by unfold asciiL;decide) _)),by rw [List.length_append];omega⟩
 ·exact get_all okT_nil okT_nulls _
 ·exact get_all okT_nil okT_odds _
structure OddG (g:List Row) (m n:Nat):Prop where
 len:g.length≤m
 row:∀ r∈g,r≠[]∧r.length≤n
 txt:∀ r∈g,∀ s∈r,okT s
theorem OddG.bad {g:List Row} {m n:Nat} (h:OddG g m n):g.any badR=false:=by
 rw [List.any_eq_false]
 intro r hr
 have:badR r=false:=by
  unfold badR
  rw [Bool.or_eq_false_iff]
  refine ⟨decide_eq_false fun e=>(h.row r hr).1 (List.eq_nil_of_length_eq_zero e),List.any_eq_false.2 fun s hs=>?_⟩
  unfold badF
  rw [(h.txt r hr s hs).1];decide
 rw [this];decide
end Go.Proofs.YtkgbbdoeodmkgaaGreatDoor
namespace Go.Proofs.YtkgbbdoeodmkgaaGreatDoor
open Go Go.Proofs Go.Abs
variable {G:Globals}
def OkS (t:List Int):Prop:=∀ i,0≤t.getD i 0∧t.getD i 0≤255
theorem OkS.take {t:List Int} (h:OkS t):OkM (t.take 300):=by
 refine ⟨by rw [List.length_take];omega,fun i=>?_⟩
 rcases Nat.lt_or_ge i 300 with h1 | h1
 ·have:=h i
  rw [List.getD_eq_getElem?_getD,List.getElem?_take,if_pos h1,← List.getD_eq_getElem?_getD]
  exact this
 ·rw [List.getD_eq_getElem?_getD,List.getElem?_take,if_neg (by omega)];decide
end Go.Proofs.YtkgbbdoeodmkgaaGreatDoor
namespace Go.Proofs.YtkgbbdoeodmkgaaGreatDoor
open Go Go.Proofs Go.Abs
variable {G:Globals}
def okGW (g:List Row):Prop:=g.length≤1000000000∧∀ r∈g,r.length≤1000000000∧∀ s∈r,s.length≤9223372036854775807
theorem okGrid.w {g:List Row} (h:okGrid g):okGW g:=⟨h.1,fun r hr=>⟨(h.2 r hr).1,fun s hs=>by have:=(h.2 r hr).2 s hs;omega⟩⟩
def atG (g:List Row) (r c:Int):List UInt8:=if r<0∨c<0 then [] else (g.getD r.toNat []).getD c.toNat []
def widG (g:List Row):Nat:=g.foldl (fun m r=>max m r.length) 0
end Go.Proofs.YtkgbbdoeodmkgaaGreatDoor
namespace Go.Proofs.YtkgbbdoeodmkgaaGreatDoor.Num
open Go Go.Proofs Go.Abs
variable {G:Globals}
abbrev S (l:List UInt8):D:=.str (bs l)
def hasP (s p:List UInt8):Bool:=decide (s.take p.length=p)
theorem hasP_le {s p:List UInt8} (h:hasP s p=true):p.length≤s.length:=by
 have:=of_decide_eq_true h
 have h2:=congrArg List.length this
 simp at h2;omega
theorem hasPrefix_spec (s p:List UInt8):Ctr Tryz.prog G 129 [.d (S s),.d (S p)] [] (.d (.bool (hasP s p))) []:=by
 refine Ctr.pure (M:=M0) hmix Tryz.func129 rfl go129 ?_
 simp (config:={maxSteps:=1000000}) (disch:=((try simp only [awL]);omega)) only [QR,QS,QT,QU,QV,QW,QX,QY,QZ,Q0,Q1,Q2,Tryz.f129,↓awU,awV,awF,Qa,Qb,Qc,Qd,forall_const,↓reduceIte,↓reduceDIte,↓Qe,Qf,Qg,Qh,Qi,Qj,Qk,Ql,Qm,Qn,Qo,Qp,Qq,Qr,Qs,implies_true,Qt,Qu,Qv,Qw,Qx,Qy,Qz,QA,QB,QC,QD,QE,QF,QG,QH,QI,QJ,QK,QL,QM,QN,QO,QP,QQ]
 refine ⟨fun _=>rfl,fun h=>(decide_eq_false fun e=>h ?_).symm⟩
 have:=congrArg List.length e
 simp at this
 omega
theorem cutPrefixL_spec (s p:List UInt8):Ctr Tryz.prog G 103 [.d (S s),.d (S p)] [] (.d (.tup [S (if hasP s p then s.drop p.length else s),.bool (hasP s p)])) []:=by
 refine Ctr.pure (M:=M0) hmix Tryz.func103 rfl go103 ?_
 simp (config:={maxSteps:=1000000}) (disch:=((try simp only [awL]);omega)) only [QR,QS,QT,QU,QV,QW,QX,QY,QZ,Q0,Q1,Q2,Tryz.f103,↓awU,awV,awF,Qa,Qb,Qc,Qd,forall_const,↓reduceIte,↓reduceDIte,↓Qe,Qf,Qg,Qh,Qi,Qj,Qk,Ql,Qm,Qn,Qo,Qp,Qq,Qr,Qs,implies_true,Qt,Qu,Qv,Qw,Qx,Qy,Qz,QA,QB,QC,QD,QE,QF,QG,QH,QI,QJ,QK,QL,QM,QN,QO,QP,QQ]
 refine CallC.pure (hasPrefix_spec s p) ?_
 cases h:hasP s p
 ·simp (config:={maxSteps:=1000000}) (disch:=((try simp only [awL]);omega)) only [QR,QS,QT,QU,QV,QW,QX,QY,QZ,Q0,Q1,Q2,↓awU,awV,awF,Qa,Qb,Qc,Qd,forall_const,↓reduceIte,↓reduceDIte,↓Qe,Qf,Qg,Qh,Qi,Qj,Qk,Ql,Qm,Qn,Qo,Qp,Qq,Qr,Qs,implies_true,Qt,Qu,Qv,Qw,Qx,Qy,Qz,QA,QB,QC,QD,QE,QF,QG,QH,QI,QJ,QK,QL,QM,QN,QO,QP,QQ]
 ·have:=hasP_le h
  simp (config:={maxSteps:=1000000}) (disch:=((try simp only [awL]);omega)) only [QR,QS,QT,QU,QV,QW,QX,QY,QZ,Q0,Q1,Q2,↓awU,awV,awF,Qa,Qb,Qc,Qd,forall_const,↓reduceIte,↓reduceDIte,↓Qe,Qf,Qg,Qh,Qi,Qj,Qk,Ql,Qm,Qn,Qo,Qp,Qq,Qr,Qs,implies_true,Qt,Qu,Qv,Qw,Qx,Qy,Qz,QA,QB,QC,QD,QE,QF,QG,QH,QI,QJ,QK,QL,QM,QN,QO,QP,QQ]
theorem cutPrefix_spec (s p:List UInt8):Ctr Tryz.prog G 73 [.d (S s),.d (S p)] [] (.d (.tup [S (if hasP s p then s.drop p.length else s),.bool (hasP s p)])) []:=by
 refine Ctr.pure (M:=M0) hmix Tryz.func73 rfl go73 ?_
 simp (config:={maxSteps:=1000000}) (disch:=((try simp only [awL]);omega)) only [QR,QS,QT,QU,QV,QW,QX,QY,QZ,Q0,Q1,Q2,Tryz.f73,↓awU,awV,awF,Qa,Qb,Qc,Qd,forall_const,↓reduceIte,↓reduceDIte,↓Qe,Qf,Qg,Qh,Qi,Qj,Qk,Ql,Qm,Qn,Qo,Qp,Qq,Qr,Qs,implies_true,Qt,Qu,Qv,Qw,Qx,Qy,Qz,QA,QB,QC,QD,QE,QF,QG,QH,QI,QJ,QK,QL,QM,QN,QO,QP,QQ]
 refine CallC.pure (cutPrefixL_spec s p) ?_
 simp (config:={maxSteps:=1000000}) (disch:=((try simp only [awL]);omega)) only [QR,QS,QT,QU,QV,QW,QX,QY,QZ,Q0,Q1,Q2,↓awU,awV,awF,Qa,Qb,Qc,Qd,forall_const,↓reduceIte,↓reduceDIte,↓Qe,Qf,Qg,Qh,Qi,Qj,Qk,Ql,Qm,Qn,Qo,Qp,Qq,Qr,Qs,implies_true,Qt,Qu,Qv,Qw,Qx,Qy,Qz,QA,QB,QC,QD,QE,QF,QG,QH,QI,QJ,QK,QL,QM,QN,QO,QP,QQ]
theorem trimPrefixL_spec (s p:List UInt8):Ctr Tryz.prog G 104 [.d (S s),.d (S p)] [] (.d (S (if hasP s p then s.drop p.length else s))) []:=by
 refine Ctr.pure (M:=M0) hmix Tryz.func104 rfl go104 ?_
 simp (config:={maxSteps:=1000000}) (disch:=((try simp only [awL]);omega)) only [QR,QS,QT,QU,QV,QW,QX,QY,QZ,Q0,Q1,Q2,Tryz.f104,↓awU,awV,awF,Qa,Qb,Qc,Qd,forall_const,↓reduceIte,↓reduceDIte,↓Qe,Qf,Qg,Qh,Qi,Qj,Qk,Ql,Qm,Qn,Qo,Qp,Qq,Qr,Qs,implies_true,Qt,Qu,Qv,Qw,Qx,Qy,Qz,QA,QB,QC,QD,QE,QF,QG,QH,QI,QJ,QK,QL,QM,QN,QO,QP,QQ]
 refine CallC.pure (hasPrefix_spec s p) ?_
 cases h:hasP s p
 ·simp (config:={maxSteps:=1000000}) (disch:=((try simp only [awL]);omega)) only [QR,QS,QT,QU,QV,QW,QX,QY,QZ,Q0,Q1,Q2,↓awU,awV,awF,Qa,Qb,Qc,Qd,forall_const,↓reduceIte,↓reduceDIte,↓Qe,Qf,Qg,Qh,Qi,Qj,Qk,Ql,Qm,Qn,Qo,Qp,Qq,Qr,Qs,implies_true,Qt,Qu,Qv,Qw,Qx,Qy,Qz,QA,QB,QC,QD,QE,QF,QG,QH,QI,QJ,QK,QL,QM,QN,QO,QP,QQ]
 ·have:=hasP_le h
  simp (config:={maxSteps:=1000000}) (disch:=((try simp only [awL]);omega)) only [QR,QS,QT,QU,QV,QW,QX,QY,QZ,Q0,Q1,Q2,↓awU,awV,awF,Qa,Qb,Qc,Qd,forall_const,↓reduceIte,↓reduceDIte,↓Qe,Qf,Qg,Qh,Qi,Qj,Qk,Ql,Qm,Qn,Qo,Qp,Qq,Qr,Qs,implies_true,Qt,Qu,Qv,Qw,Qx,Qy,Qz,QA,QB,QC,QD,QE,QF,QG,QH,QI,QJ,QK,QL,QM,QN,QO,QP,QQ]
theorem trimPrefix_spec (s p:List UInt8):Ctr Tryz.prog G 74 [.d (S s),.d (S p)] [] (.d (S (if hasP s p then s.drop p.length else s))) []:=by
 refine Ctr.pure (M:=M0) hmix Tryz.func74 rfl go74 ?_
 simp (config:={maxSteps:=1000000}) (disch:=((try simp only [awL]);omega)) only [QR,QS,QT,QU,QV,QW,QX,QY,QZ,Q0,Q1,Q2,Tryz.f74,↓awU,awV,awF,Qa,Qb,Qc,Qd,forall_const,↓reduceIte,↓reduceDIte,↓Qe,Qf,Qg,Qh,Qi,Qj,Qk,Ql,Qm,Qn,Qo,Qp,Qq,Qr,Qs,implies_true,Qt,Qu,Qv,Qw,Qx,Qy,Qz,QA,QB,QC,QD,QE,QF,QG,QH,QI,QJ,QK,QL,QM,QN,QO,QP,QQ]
 refine CallC.pure (trimPrefixL_spec s p) ?_
 simp (config:={maxSteps:=1000000}) (disch:=((try simp only [awL]);omega)) only [QR,QS,QT,QU,QV,QW,QX,QY,QZ,Q0,Q1,Q2,↓awU,awV,awF,Qa,Qb,Qc,Qd,forall_const,↓reduceIte,↓reduceDIte,↓Qe,Qf,Qg,Qh,Qi,Qj,Qk,Ql,Qm,Qn,Qo,Qp,Qq,Qr,Qs,implies_true,Qt,Qu,Qv,Qw,Qx,Qy,Qz,QA,QB,QC,QD,QE,QF,QG,QH,QI,QJ,QK,QL,QM,QN,QO,QP,QQ]
set_option maxHeartbeats 1000000 in
set_option maxRecDepth 100000 in
theorem indexByte_calls (s:ByteArray) (c:Int) (w:World) :
  Calls Tryz.prog 120 #[.string s,.int .u8 c] w fun e w'=>e=.returned (.int .i64 (Lib.indexByte s.data.toList c.toNat.toUInt8))∧w'=w:=by
 go_enter Tryz.func120,Tryz.ntmps120
 go_wp2
 rw [run_callFunc_extern Tryz.func143 (by kernel_rfl) (by kernel_rfl) (by kernel_rfl) (e:=Extern.BytealgIndexByte.indexByte) (by kernel_rfl),Lib.run_indexByteString]
 simp only [Result.andThen]
 rw [Oper.upon_value]
 go_wp2
 go_ret
 exact ⟨rfl,rfl⟩
theorem indexByte_spec (s:List UInt8) (c:UInt8):Ctr Tryz.prog G 120 [.d (S s),.d (.int .u8 c.toNat)] [] (.d (.int .i64 (Lib.indexByte s c))) []:=by
 refine Ctr.of_calls go120 fun h ρ w vs q r=>?_
 obtain ⟨v,u,rfl,hv,hu⟩:=r.inv2
 rw [hv.str_inv,hu.int_inv]
 refine (indexByte_calls (bs s) c.toNat w).mono ?_
 rintro e w' ⟨rfl,rfl⟩
 refine ⟨_,rfl,?_,.refl _ _⟩
 have:((c.toNat:Int)).toNat.toUInt8=c:=by simp
 rw [this]
 exact .int _ _
def cutL (c:UInt8):List UInt8→List UInt8
 | []=>[]
 | b::l=>if b=c then [] else b::cutL c l
def cutR (c:UInt8):List UInt8→List UInt8
 | []=>[]
 | b::l=>if b=c then l else cutR c l
theorem cut_index (c:UInt8):∀ s:List UInt8,(c∈s→∃ k:Nat,Lib.indexByte s c=k∧k<s.length∧s.take k=cutL c s∧s.drop (k+1)=cutR c s)∧(c∉s→Lib.indexByte s c=-1∧cutL c s=s∧cutR c s=[])
 | []=>⟨fun h=>absurd h List.not_mem_nil,fun _=>⟨rfl,rfl,rfl⟩⟩
 | b::l=>by
   obtain ⟨i1,i2⟩:=cut_index c l
   by_cases e:b=c
   ·subst e
    refine ⟨fun _=>⟨0,?_,by simp,by simp [cutL],by simp [cutR]⟩,fun h=>absurd (List.mem_cons_self ..) h⟩
    simp [Lib.indexByte]
   ·have e2:¬ c=b:=fun h=>e h.symm
    refine ⟨fun h=>?_,fun h=>?_⟩
    ·obtain ⟨k,h1,h2,h3,h4⟩:=i1 ((List.mem_cons.1 h).resolve_left e2)
     refine ⟨k+1,?_,by simpa using h2,by simp [cutL,e,h3],by simp [cutR,e,h4]⟩
     simp only [Lib.indexByte,h1]
     rw [if_neg (by simpa using e),if_neg (by simp)]
     omega
    ·obtain ⟨h1,h2,h3⟩:=i2 (fun h2=>h (List.mem_cons_of_mem _ h2))
     refine ⟨?_,by simp [cutL,e,h2],by simp [cutR,e,h3]⟩
     simp only [Lib.indexByte,h1]
     rw [if_neg (by simpa using e),if_pos (by decide)]
theorem index1_spec (s:List UInt8) (c:UInt8) (hs:s.length<2 ^ 62):Ctr Tryz.prog G 93 [.d (S s),.d (S [c])] [] (.d (.int .i64 (Lib.indexByte s c))) []:=by
 refine Ctr.pure (M:=M0) hmix Tryz.func93 rfl go93 ?_
 simp (config:={maxSteps:=1000000}) (disch:=((try simp only [awL]);omega)) only [QR,QS,QT,QU,QV,QW,QX,QY,QZ,Q0,Q1,Q2,Tryz.f93,↓awU,awV,awF,Qa,Qb,Qc,Qd,forall_const,↓reduceIte,↓reduceDIte,↓Qe,Qf,Qg,Qh,Qi,Qj,Qk,Ql,Qm,Qn,Qo,Qp,Qq,Qr,Qs,implies_true,Qt,Qu,Qv,Qw,Qx,Qy,Qz,QA,QB,QC,QD,QE,QF,QG,QH,QI,QJ,QK,QL,QM,QN,QO,QP,QQ]
 refine ⟨fun h=>?_,fun h=>?_⟩
 ·rw [← h];simp [Lib.indexByte]
 ·refine CallC.pure (indexByte_spec s c) ?_
  simp (config:={maxSteps:=1000000}) (disch:=((try simp only [awL]);omega)) only [QR,QS,QT,QU,QV,QW,QX,QY,QZ,Q0,Q1,Q2,↓awU,awV,awF,Qa,Qb,Qc,Qd,forall_const,↓reduceIte,↓reduceDIte,↓Qe,Qf,Qg,Qh,Qi,Qj,Qk,Ql,Qm,Qn,Qo,Qp,Qq,Qr,Qs,implies_true,Qt,Qu,Qv,Qw,Qx,Qy,Qz,QA,QB,QC,QD,QE,QF,QG,QH,QI,QJ,QK,QL,QM,QN,QO,QP,QQ]
theorem cutS_spec (s:List UInt8) (c:UInt8) (hs:s.length<2 ^ 62):Ctr Tryz.prog G 105 [.d (S s),.d (S [c])] [] (.d (.tup [S (cutL c s),S (cutR c s),.bool (decide (c∈s))])) []:=by
 refine Ctr.pure (M:=M0) hmix Tryz.func105 rfl go105 ?_
 simp (config:={maxSteps:=1000000}) (disch:=((try simp only [awL]);omega)) only [QR,QS,QT,QU,QV,QW,QX,QY,QZ,Q0,Q1,Q2,Tryz.f105,↓awU,awV,awF,Qa,Qb,Qc,Qd,forall_const,↓reduceIte,↓reduceDIte,↓Qe,Qf,Qg,Qh,Qi,Qj,Qk,Ql,Qm,Qn,Qo,Qp,Qq,Qr,Qs,implies_true,Qt,Qu,Qv,Qw,Qx,Qy,Qz,QA,QB,QC,QD,QE,QF,QG,QH,QI,QJ,QK,QL,QM,QN,QO,QP,QQ]
 refine CallC.pure (index1_spec s c hs) ?_
 obtain ⟨i1,i2⟩:=cut_index c s
 by_cases h:c∈s
 ·obtain ⟨k,h1,h2,h3,h4⟩:=i1 h
  rw [h1,decide_eq_true h,← h3,← h4]
  simp (config:={maxSteps:=1000000}) (disch:=((try simp only [awL]);omega)) only [QR,QS,QT,QU,QV,QW,QX,QY,QZ,Q0,Q1,Q2,↓awU,awV,awF,Qa,Qb,Qc,Qd,forall_const,↓reduceIte,↓reduceDIte,↓Qe,Qf,Qg,Qh,Qi,Qj,Qk,Ql,Qm,Qn,Qo,Qp,Qq,Qr,Qs,implies_true,Qt,Qu,Qv,Qw,Qx,Qy,Qz,QA,QB,QC,QD,QE,QF,QG,QH,QI,QJ,QK,QL,QM,QN,QO,QP,QQ]
  rfl
 ·obtain ⟨h1,h3,h4⟩:=i2 h
  rw [h1,decide_eq_false h,h3,h4]
  simp (config:={maxSteps:=1000000}) (disch:=((try simp only [awL]);omega)) only [QR,QS,QT,QU,QV,QW,QX,QY,QZ,Q0,Q1,Q2,↓awU,awV,awF,Qa,Qb,Qc,Qd,forall_const,↓reduceIte,↓reduceDIte,↓Qe,Qf,Qg,Qh,Qi,Qj,Qk,Ql,Qm,Qn,Qo,Qp,Qq,Qr,Qs,implies_true,Qt,Qu,Qv,Qw,Qx,Qy,Qz,QA,QB,QC,QD,QE,QF,QG,QH,QI,QJ,QK,QL,QM,QN,QO,QP,QQ]
theorem cut_spec (s:List UInt8) (c:UInt8) (hs:s.length<2 ^ 62):Ctr Tryz.prog G 75 [.d (S s),.d (S [c])] [] (.d (.tup [S (cutL c s),S (cutR c s),.bool (decide (c∈s))])) []:=by
 refine Ctr.pure (M:=M0) hmix Tryz.func75 rfl go75 ?_
 simp (config:={maxSteps:=1000000}) (disch:=((try simp only [awL]);omega)) only [QR,QS,QT,QU,QV,QW,QX,QY,QZ,Q0,Q1,Q2,Tryz.f75,↓awU,awV,awF,Qa,Qb,Qc,Qd,forall_const,↓reduceIte,↓reduceDIte,↓Qe,Qf,Qg,Qh,Qi,Qj,Qk,Ql,Qm,Qn,Qo,Qp,Qq,Qr,Qs,implies_true,Qt,Qu,Qv,Qw,Qx,Qy,Qz,QA,QB,QC,QD,QE,QF,QG,QH,QI,QJ,QK,QL,QM,QN,QO,QP,QQ]
 refine CallC.pure (cutS_spec s c hs) ?_
 simp (config:={maxSteps:=1000000}) (disch:=((try simp only [awL]);omega)) only [QR,QS,QT,QU,QV,QW,QX,QY,QZ,Q0,Q1,Q2,↓awU,awV,awF,Qa,Qb,Qc,Qd,forall_const,↓reduceIte,↓reduceDIte,↓Qe,Qf,Qg,Qh,Qi,Qj,Qk,Ql,Qm,Qn,Qo,Qp,Qq,Qr,Qs,implies_true,Qt,Qu,Qv,Qw,Qx,Qy,Qz,QA,QB,QC,QD,QE,QF,QG,QH,QI,QJ,QK,QL,QM,QN,QO,QP,QQ]
end Go.Proofs.YtkgbbdoeodmkgaaGreatDoor.Num
namespace Go.Proofs.YtkgbbdoeodmkgaaGreatDoor.Num
open Go Go.Proofs Go.Abs
variable {G:Globals}
def setD (l:List UInt8):List D:=(List.range 256).map fun i=>.bool (l.any fun b=>b.toNat == i)
def setB (l:List UInt8):List AV:=(setD l).map .d
theorem setB_length {l:List UInt8}:(setB l).length=256:=by simp [setB,setD]
theorem setD_length {l:List UInt8}:(setD l).length=256:=by simp [setD]
set_option maxRecDepth 10000 in
theorem setB_nil:setB []=List.replicate 256 (.d (.bool false)):=by rfl
theorem setD_get {l:List UInt8} {c:UInt8} {d:D}:(setD l).getD c.toNat d=.bool (l.contains c):=by
 have hc:=c.toNat_lt
 simp only [setD,List.getD_eq_getElem?_getD,List.getElem?_map,List.getElem?_range (show c.toNat<256 by omega),Option.map_some,Option.getD_some]
 rw [List.contains_eq_any_beq]
 refine congrArg (fun f=>D.bool (l.any f)) ?_
 funext b
 show (b.toNat == c.toNat)=_
 by_cases h:b=c
 ·subst h;simp
 ·have:¬ b.toNat=c.toNat:=fun e=>h (UInt8.toNat_inj.1 e)
  have h':¬ c=b:=fun e=>h e.symm
  rw [beq_eq_false_iff_ne.2 this];exact (beq_eq_false_iff_ne.2 h').symm
theorem setB_get {l:List UInt8} {c:UInt8} {d:AV}:(setB l).getD c.toNat d=.d (.bool (l.contains c)):=by
 have hc:=c.toNat_lt
 have:=@setD_get l c .nilp
 rw [List.getD_eq_getElem?_getD,List.getElem?_eq_getElem (by rw [setD_length];omega)] at this
 rw [setB,List.getD_eq_getElem?_getD,List.getElem?_map,List.getElem?_eq_getElem (by rw [setD_length];omega)]
 simp only [Option.getD_some] at this
 rw [Option.map_some,Option.getD_some,this]
theorem setB_set {l:List UInt8} {c:UInt8}:(setB l).set c.toNat (.d (.bool true))=setB (l++[c]):=by
 have hc:=c.toNat_lt
 apply List.ext_getElem
 ·rw [List.length_set,setB_length,setB_length]
 ·intro i h1 h2
  rw [List.length_set,setB_length] at h1
  rw [List.getElem_set]
  simp only [setB,setD,List.getElem_map,List.getElem_range,List.any_append,List.any_cons,List.any_nil,Bool.or_false]
  split
  ·rename_i e;subst e;simp
  ·rename_i e
   have:(c.toNat == i)=false:=by simpa using e
   rw [this,Bool.or_false]
theorem SWeak_map {fl:List (Option Nat)}:∀ l:List D,SWeak fl (l.map .d) (l.map .d)
 | []=>by simp [SWeak]
 | x::l=>by simp only [List.map_cons,SWeak];exact ⟨by simp [AWeak],SWeak_map l⟩
theorem setB_weak {fl:List (Option Nat)} {l:List UInt8}:SWeak fl (setB l) (setB l)=True:=eq_true (SWeak_map _)
theorem mem_getDU {α:Type} {l:List α} {i:Nat} {d:α} (h:i<l.length):l.getD i d∈l:=by
 rw [List.getD_eq_getElem?_getD,List.getElem?_eq_getElem h];exact List.getElem_mem h
theorem setB_two (l:List UInt8):∃ a b cs,setB l=a::b::cs:=by
 have:=@setB_length l
 match h:setB l with
 | []=>rw [h] at this;cases this
 | [_]=>rw [h] at this;cases this
 | a::b::cs=>exact ⟨a,b,cs,rfl⟩
theorem setB_one {l:List UInt8}:(setB l).all AV.one=true:=by
 simp [setB,setD,AV.one,D.one]
theorem setB_seal {H:List ABlk} {l:List UInt8}:sealL H (setB l)=some (setD l):=by
 have:∀ m:List D,sealL H (m.map .d)=some m:=fun m=>by
  induction m with
  | nil=>rfl
  | cons x m ih=>simp only [List.map_cons,sealL,sealA,ih]
 exact this _
theorem setB_refs {l:List UInt8}:refsL (setB l)=[]:=by
 have:∀ m:List D,refsL (m.map .d)=[]:=fun m=>by
  induction m with
  | nil=>rfl
  | cons x m ih=>simp only [List.map_cons,refsL,refsA,ih,List.append_nil]
 exact this _
theorem setB_pass {H:List ABlk} {L:List Nat} {l:List UInt8}:passL H L (setB l)=some (setB l):=by
 have:∀ m:List D,passL H L (m.map .d)=some (m.map .d):=fun m=>by
  induction m with
  | nil=>rfl
  | cons x m ih=>simp only [List.map_cons,passL,passA,ih]
 exact this _
theorem setB_sids {H:List ABlk} {L:List Nat} {l:List UInt8}:sidsL H L (setB l)=[]:=by
 have:∀ m:List D,sidsL H L (m.map .d)=[]:=fun m=>by
  induction m with
  | nil=>rfl
  | cons x m ih=>simp only [List.map_cons,sidsL,sidsA,ih,List.append_nil]
 exact this _
theorem setB_ren {f:Nat→Nat} {l:List UInt8}:renL f (setB l)=setB l:=by
 have:∀ m:List D,renL f (m.map .d)=m.map .d:=fun m=>by
  induction m with
  | nil=>rfl
  | cons x m ih=>simp only [List.map_cons,renL,renA,ih]
 exact this _
theorem take_succ_getD {s:List UInt8} {i:Nat} (h:i<s.length):s.take i++[s.getD i 0]=s.take (i+1):=by
 rw [List.take_add_one,List.getElem?_eq_getElem h,List.getD_eq_getElem?_getD,List.getElem?_eq_getElem h];rfl
theorem contains_spec (l:List UInt8) (c:UInt8):Ctr Tryz.prog G 100 [.ptr 0 0,.d (.int .u8 c.toNat)] [.box (setB l)] (.d (.bool (l.contains c))) [.box (setB l)]:=by
 have hc:=c.toNat_lt
 have hl:=@setB_length l
 refine Ctr.body (M:=M0) hmix Tryz.func100 rfl go100 ?_
 simp (config:={maxSteps:=1000000}) (disch:=((try simp only [awL]);omega)) only [QR,QS,QT,QU,QV,QW,QX,QY,QZ,Q0,Q1,Q2,hl,setB_get,Tryz.f100,↓awU,awV,awF,Qa,Qb,Qc,Qd,forall_const,↓reduceIte,↓reduceDIte,↓Qe,Qf,Qg,Qh,Qi,Qj,Qk,Ql,Qm,Qn,Qo,Qp,Qq,Qr,Qs,implies_true,Qt,Qu,Qv,Qw,Qx,Qy,Qz,QA,QB,QC,QD,QE,QF,QG,QH,QI,QJ,QK,QL,QM,QN,QO,QP,QQ]
 exact ⟨[some 0],rfl,by simp,by simp [HWeak,BWeak,setB_weak],.inl (by simp [AWeak])⟩
set_option maxRecDepth 100000 in
theorem makeSet_spec (l:List UInt8) (hl:l.length<2 ^ 62) (ha:∀ b∈l,b.toNat<128):Ctr Tryz.prog G 68 [.d (S l)] [] (.d (.tup [.agg (setD l),.bool true])) []:=by
 refine Ctr.pure (M:=M0) hmix Tryz.func68 rfl go68 ?_
 simp (config:={maxSteps:=1000000}) (disch:=((try simp only [awL]);omega)) only [QR,QS,QT,QU,QV,QW,QX,QY,QZ,Q0,Q1,Q2,Tryz.f68,↓awU,awV,awF,Qa,Qb,Qc,Qd,forall_const,↓reduceIte,↓reduceDIte,↓Qe,Qf,Qg,Qh,Qi,Qj,Qk,Ql,Qm,Qn,Qo,Qp,Qq,Qr,Qs,implies_true,Qt,Qu,Qv,Qw,Qx,Qy,Qz,QA,QB,QC,QD,QE,QF,QG,QH,QI,QJ,QK,QL,QM,QN,QO,QP,QQ]
 refine LoopC.fr 5 (α:=Nat) (fun i=>l.length - i) (fun i=>[(4,.d (.int .i64 i))]) (fun i=>[.box (setB (l.take i))]) (fun i=>i≤l.length) 0 (Nat.zero_le _) ?_ ?_
 ·refine ⟨[some 0],rfl,by simp,by simp [setsA,keepA,SWeak,AWeak],?_⟩
  rw [List.take_zero,setB_nil]
  simp only [HWeak,BWeak,List.getElem?_cons_zero]
  refine ⟨SWeak_map (List.replicate 256 (.bool false)),trivial⟩
 ·intro i hi
  have sl:=@setB_length (l.take i)
  simp only [awK,Nat.reduceMod,Nat.reduceDiv,reduceIte]
  rcases Nat.lt_or_ge i l.length with h1 | h1
  ·have hb:=ha _ (mem_getDU (d:=0) h1)
   have hs:=take_succ_getD h1
   simp (config:={maxSteps:=1000000}) (disch:=((try simp only [awL]);omega)) only [QR,QS,QT,QU,QV,QW,QX,QY,QZ,Q0,Q1,Q2,sl,↓awU,awV,awF,Qa,Qb,Qc,Qd,forall_const,↓reduceIte,↓reduceDIte,↓Qe,Qf,Qg,Qh,Qi,Qj,Qk,Ql,Qm,Qn,Qo,Qp,Qq,Qr,Qs,implies_true,Qt,Qu,Qv,Qw,Qx,Qy,Qz,QA,QB,QC,QD,QE,QF,QG,QH,QI,QJ,QK,QL,QM,QN,QO,QP,QQ]
   exact ⟨i+1,h1,by simp only;omega,[some 0],rfl,by simp,by simp [setsA,keepA,SWeak,AWeak],by simp only [HWeak,BWeak,List.getElem?_cons_zero];rw [setB_set,hs];exact ⟨by rw [setB_weak];trivial,trivial⟩⟩
  ·have sl:=@setB_length l
   have tk:(setB l).take 256=setB l:=List.take_of_length_le (by omega)
   obtain ⟨a,b,cs,e⟩:=setB_two l
   have lc:cs.length=254:=by rw [e] at sl;simpa using sl
   have tc:cs.take 254=cs:=List.take_of_length_le (by omega)
   have dc:cs.drop cs.length=[]:=List.drop_length
   simp (config:={maxSteps:=1000000}) (disch:=((try simp only [awL]);omega)) only [QR,QS,QT,QU,QV,QW,QX,QY,QZ,Q0,Q1,Q2,sl,tk,↓awU,awV,awF,Qa,Qb,Qc,Qd,forall_const,↓reduceIte,↓reduceDIte,↓Qe,Qf,Qg,Qh,Qi,Qj,Qk,Ql,Qm,Qn,Qo,Qp,Qq,Qr,Qs,implies_true,Qt,Qu,Qv,Qw,Qx,Qy,Qz,QA,QB,QC,QD,QE,QF,QG,QH,QI,QJ,QK,QL,QM,QN,QO,QP,QQ]
   refine ⟨setB_one,?_⟩
   have pm:putL (setB l) 0 (setB l)=setB l:=by
    rw [e]
    simp only [putL,putL,List.take_zero,List.nil_append,Nat.zero_add,List.length_cons,List.drop_succ_cons,dc,List.append_nil]
   simp only [putL,putL,List.take_zero,List.nil_append,Nat.zero_add] at pm
   rw [pm,sl,tk]
   simp only [Nat.le_refl,if_true,sealA,sealL,setB_seal]
   rfl
end Go.Proofs.YtkgbbdoeodmkgaaGreatDoor.Num
namespace Go.Proofs.YtkgbbdoeodmkgaaGreatDoor.Num
open Go Go.Proofs Go.Abs
variable {G:Globals}
def trimL (l s:List UInt8):List UInt8:=s.dropWhile l.contains
def trimR (l s:List UInt8):List UInt8:=(s.reverse.dropWhile l.contains).reverse
theorem drop_cons' {s:List UInt8} {k:Nat} (h:k<s.length):s.drop k=s.getD k 0::s.drop (k+1):=by
 rw [List.drop_eq_getElem_cons h,List.getD_eq_getElem?_getD,List.getElem?_eq_getElem h];rfl
theorem drop_head {s:List UInt8} {k:Nat}:(s.drop k).getD 0 0=s.getD k 0:=by
 simp [List.getD_eq_getElem?_getD]
theorem take_snoc {s:List UInt8} {k:Nat} (h:k<s.length):s.take (k+1)=s.take k++[s.getD k 0]:=(take_succ_getD h).symm
theorem trimR_snoc {l s:List UInt8} {c:UInt8}:trimR l (s++[c])=if l.contains c then trimR l s else s++[c]:=by
 simp only [trimR,List.reverse_append,List.reverse_cons,List.reverse_nil,List.nil_append,List.singleton_append,List.dropWhile_cons]
 split<;>simp
theorem trimLA_spec (l s:List UInt8) (hs:s.length<2 ^ 62):Ctr Tryz.prog G 69 [.d (S s),.ptr 0 0] [.box (setB l)] (.d (S (trimL l s))) [.box (setB l)]:=by
 refine Ctr.body (M:=M0) hmix Tryz.func69 rfl go69 ?_
 simp (config:={maxSteps:=1000000}) (disch:=((try simp only [awL]);omega)) only [QR,QS,QT,QU,QV,QW,QX,QY,QZ,Q0,Q1,Q2,setB_refs,setB_pass,setB_sids,setB_ren,Tryz.f69,↓awU,awV,awF,Qa,Qb,Qc,Qd,forall_const,↓reduceIte,↓reduceDIte,↓Qe,Qf,Qg,Qh,Qi,Qj,Qk,Ql,Qm,Qn,Qo,Qp,Qq,Qr,Qs,implies_true,Qt,Qu,Qv,Qw,Qx,Qy,Qz,QA,QB,QC,QD,QE,QF,QG,QH,QI,QJ,QK,QL,QM,QN,QO,QP,QQ]
 refine LoopC.fr 2 (α:=Nat) (fun k=>s.length - k) (fun k=>[(0,.d (S (s.drop k)))]) (fun _=>[.box (setB l)]) (fun k=>k≤s.length∧trimL l (s.drop k)=trimL l s) 0 ⟨Nat.zero_le _,by rw [List.drop_zero]⟩ ?_ ?_
 ·exact ⟨[some 0],rfl,by simp,by simp [setsA,keepA,SWeak,AWeak],by simp [HWeak,BWeak,setB_weak]⟩
 ·rintro k ⟨hk,ht⟩
  simp only [awK,Nat.reduceMod,Nat.reduceDiv,reduceIte]
  rcases Nat.lt_or_ge k s.length with h1 | h1
  ·have hd:=drop_cons' h1
   simp (config:={maxSteps:=1000000}) (disch:=((try simp only [awL]);omega)) only [QR,QS,QT,QU,QV,QW,QX,QY,QZ,Q0,Q1,Q2,setB_refs,setB_pass,setB_sids,setB_ren,drop_head,↓awU,awV,awF,Qa,Qb,Qc,Qd,forall_const,↓reduceIte,↓reduceDIte,↓Qe,Qf,Qg,Qh,Qi,Qj,Qk,Ql,Qm,Qn,Qo,Qp,Qq,Qr,Qs,implies_true,Qt,Qu,Qv,Qw,Qx,Qy,Qz,QA,QB,QC,QD,QE,QF,QG,QH,QI,QJ,QK,QL,QM,QN,QO,QP,QQ]
   refine CallC.by (contains_spec l (s.getD k 0)) (by rfl) (by rfl) (Nat.le_refl _) ?_
   cases hc:l.contains (s.getD k 0)
   ·simp (config:={maxSteps:=1000000}) (disch:=((try simp only [awL]);omega)) only [QR,QS,QT,QU,QV,QW,QX,QY,QZ,Q0,Q1,Q2,setB_refs,setB_pass,setB_sids,setB_ren,↓awU,awV,awF,Qa,Qb,Qc,Qd,forall_const,↓reduceIte,↓reduceDIte,↓Qe,Qf,Qg,Qh,Qi,Qj,Qk,Ql,Qm,Qn,Qo,Qp,Qq,Qr,Qs,implies_true,Qt,Qu,Qv,Qw,Qx,Qy,Qz,QA,QB,QC,QD,QE,QF,QG,QH,QI,QJ,QK,QL,QM,QN,QO,QP,QQ]
    rw [← ht,trimL,hd,List.dropWhile_cons,hc]
    exact ⟨[some 0],rfl,by simp,by simp [HWeak,BWeak,setB_weak],.inl (by simp [AWeak])⟩
   ·simp (config:={maxSteps:=1000000}) (disch:=((try simp only [awL]);omega)) only [QR,QS,QT,QU,QV,QW,QX,QY,QZ,Q0,Q1,Q2,setB_refs,setB_pass,setB_sids,setB_ren,↓awU,awV,awF,Qa,Qb,Qc,Qd,forall_const,↓reduceIte,↓reduceDIte,↓Qe,Qf,Qg,Qh,Qi,Qj,Qk,Ql,Qm,Qn,Qo,Qp,Qq,Qr,Qs,implies_true,Qt,Qu,Qv,Qw,Qx,Qy,Qz,QA,QB,QC,QD,QE,QF,QG,QH,QI,QJ,QK,QL,QM,QN,QO,QP,QQ]
    exact ⟨k+1,⟨h1,by rw [← ht,trimL,trimL,hd,List.dropWhile_cons,hc];rfl⟩,by simp only;omega,[some 0],rfl,by simp,by simp [setsA,keepA,SWeak,AWeak],by simp [HWeak,BWeak,setB_weak]⟩
  ·simp (config:={maxSteps:=1000000}) (disch:=((try simp only [awL]);omega)) only [QR,QS,QT,QU,QV,QW,QX,QY,QZ,Q0,Q1,Q2,setB_refs,setB_pass,setB_sids,setB_ren,↓awU,awV,awF,Qa,Qb,Qc,Qd,forall_const,↓reduceIte,↓reduceDIte,↓Qe,Qf,Qg,Qh,Qi,Qj,Qk,Ql,Qm,Qn,Qo,Qp,Qq,Qr,Qs,implies_true,Qt,Qu,Qv,Qw,Qx,Qy,Qz,QA,QB,QC,QD,QE,QF,QG,QH,QI,QJ,QK,QL,QM,QN,QO,QP,QQ]
   have:s.drop k=[]:=List.drop_eq_nil_of_le h1
   rw [← ht,this]
   exact ⟨[some 0],rfl,by simp,by simp [HWeak,BWeak,setB_weak],.inl (by simp [AWeak,trimL])⟩
theorem trimRA_spec (l s:List UInt8) (hs:s.length<2 ^ 62):Ctr Tryz.prog G 70 [.d (S s),.ptr 0 0] [.box (setB l)] (.d (S (trimR l s))) [.box (setB l)]:=by
 refine Ctr.body (M:=M0) hmix Tryz.func70 rfl go70 ?_
 simp (config:={maxSteps:=1000000}) (disch:=((try simp only [awL]);omega)) only [QR,QS,QT,QU,QV,QW,QX,QY,QZ,Q0,Q1,Q2,setB_refs,setB_pass,setB_sids,setB_ren,Tryz.f70,↓awU,awV,awF,Qa,Qb,Qc,Qd,forall_const,↓reduceIte,↓reduceDIte,↓Qe,Qf,Qg,Qh,Qi,Qj,Qk,Ql,Qm,Qn,Qo,Qp,Qq,Qr,Qs,implies_true,Qt,Qu,Qv,Qw,Qx,Qy,Qz,QA,QB,QC,QD,QE,QF,QG,QH,QI,QJ,QK,QL,QM,QN,QO,QP,QQ]
 refine LoopC.fr 2 (α:=Nat) (fun k=>k) (fun k=>[(0,.d (S (s.take k)))]) (fun _=>[.box (setB l)]) (fun k=>k≤s.length∧trimR l (s.take k)=trimR l s) s.length ⟨Nat.le_refl _,by rw [List.take_length]⟩ ?_ ?_
 ·exact ⟨[some 0],rfl,by simp,by simp [setsA,keepA,SWeak,AWeak],by simp [HWeak,BWeak,setB_weak]⟩
 ·rintro k ⟨hk,ht⟩
  have lk:(s.take k).length=k:=by rw [List.length_take];omega
  simp only [awK,Nat.reduceMod,Nat.reduceDiv,reduceIte]
  rcases k with _ | k
  ·rw [List.take_zero] at *
   simp (config:={maxSteps:=1000000}) (disch:=((try simp only [awL]);omega)) only [QR,QS,QT,QU,QV,QW,QX,QY,QZ,Q0,Q1,Q2,setB_refs,setB_pass,setB_sids,setB_ren,↓awU,awV,awF,Qa,Qb,Qc,Qd,forall_const,↓reduceIte,↓reduceDIte,↓Qe,Qf,Qg,Qh,Qi,Qj,Qk,Ql,Qm,Qn,Qo,Qp,Qq,Qr,Qs,implies_true,Qt,Qu,Qv,Qw,Qx,Qy,Qz,QA,QB,QC,QD,QE,QF,QG,QH,QI,QJ,QK,QL,QM,QN,QO,QP,QQ]
   rw [← ht]
   exact ⟨[some 0],rfl,by simp,by simp [HWeak,BWeak,setB_weak],.inl (by simp [AWeak,trimR])⟩
  ·have hd:=take_snoc (show k<s.length by omega)
   have hg:(s.take (k+1)).getD k 0=s.getD k 0:=by
    rw [List.getD_eq_getElem?_getD,List.getElem?_take,if_pos (by omega),← List.getD_eq_getElem?_getD]
   have hx:(s.take (k+1)).take k=s.take k:=by rw [List.take_take];congr 1;omega
   simp (config:={maxSteps:=1000000}) (disch:=((try simp only [awL]);omega)) only [QR,QS,QT,QU,QV,QW,QX,QY,QZ,Q0,Q1,Q2,setB_refs,setB_pass,setB_sids,setB_ren,lk,hg,↓awU,awV,awF,Qa,Qb,Qc,Qd,forall_const,↓reduceIte,↓reduceDIte,↓Qe,Qf,Qg,Qh,Qi,Qj,Qk,Ql,Qm,Qn,Qo,Qp,Qq,Qr,Qs,implies_true,Qt,Qu,Qv,Qw,Qx,Qy,Qz,QA,QB,QC,QD,QE,QF,QG,QH,QI,QJ,QK,QL,QM,QN,QO,QP,QQ]
   refine CallC.by (contains_spec l (s.getD k 0)) (by rfl) (by rfl) (Nat.le_refl _) ?_
   cases hc:l.contains (s.getD k 0)
   ·simp (config:={maxSteps:=1000000}) (disch:=((try simp only [awL]);omega)) only [QR,QS,QT,QU,QV,QW,QX,QY,QZ,Q0,Q1,Q2,setB_refs,setB_pass,setB_sids,setB_ren,↓awU,awV,awF,Qa,Qb,Qc,Qd,forall_const,↓reduceIte,↓reduceDIte,↓Qe,Qf,Qg,Qh,Qi,Qj,Qk,Ql,Qm,Qn,Qo,Qp,Qq,Qr,Qs,implies_true,Qt,Qu,Qv,Qw,Qx,Qy,Qz,QA,QB,QC,QD,QE,QF,QG,QH,QI,QJ,QK,QL,QM,QN,QO,QP,QQ]
    rw [← ht,hd,trimR_snoc,hc]
    exact ⟨[some 0],rfl,by simp,by simp [HWeak,BWeak,setB_weak],.inl (by simp [AWeak])⟩
   ·simp (config:={maxSteps:=1000000}) (disch:=((try simp only [awL]);omega)) only [QR,QS,QT,QU,QV,QW,QX,QY,QZ,Q0,Q1,Q2,setB_refs,setB_pass,setB_sids,setB_ren,lk,hx,↓awU,awV,awF,Qa,Qb,Qc,Qd,forall_const,↓reduceIte,↓reduceDIte,↓Qe,Qf,Qg,Qh,Qi,Qj,Qk,Ql,Qm,Qn,Qo,Qp,Qq,Qr,Qs,implies_true,Qt,Qu,Qv,Qw,Qx,Qy,Qz,QA,QB,QC,QD,QE,QF,QG,QH,QI,QJ,QK,QL,QM,QN,QO,QP,QQ]
    exact ⟨k,⟨by omega,by rw [← ht,hd,trimR_snoc,hc];rfl⟩,by simp only;omega,[some 0],rfl,by simp,by simp [setsA,keepA,SWeak,AWeak],by simp [HWeak,BWeak,setB_weak]⟩
end Go.Proofs.YtkgbbdoeodmkgaaGreatDoor.Num
namespace Go.Proofs.YtkgbbdoeodmkgaaGreatDoor.Num
open Go Go.Proofs Go.Abs
variable {G:Globals}
theorem setB_fold {l:List UInt8}:(setD l).map AV.d=setB l:=rfl
theorem setB_putL {L:List AV} {l:List UInt8} (h:L.length=256):putL L 0 ((setD l).map AV.d)=setB l:=by
 rw [setB_fold]
 obtain ⟨a,b,cs,e⟩:=setB_two l
 have q:=@setB_length l
 rw [e] at q ⊢
 have hd:L.drop (0+(a::b::cs).length)=[]:=List.drop_eq_nil_of_le (by omega)
 simp only [putL,hd,List.take_zero,List.nil_append,List.append_nil]
set_option maxRecDepth 10000 in
theorem setB_putL' {l:List UInt8}:putL ([.d (.bool false),.d (.bool false),.d (.bool false),.d (.bool false),.d (.bool false),.d (.bool false),.d (.bool false),.d (.bool false),.d (.bool false),.d (.bool false),.d (.bool false),.d (.bool false),.d (.bool false),.d (.bool false),.d (.bool false),.d (.bool false),.d (.bool false),.d (.bool false),.d (.bool false),.d (.bool false),.d (.bool false),.d (.bool false),.d (.bool false),.d (.bool false),.d (.bool false),.d (.bool false),.d (.bool false),.d (.bool false),.d (.bool false),.d (.bool false),.d (.bool false),.d (.bool false),.d (.bool false),.d (.bool false),.d (.bool false),.d (.bool false),.d (.bool false),.d (.bool false),.d (.bool false),.d (.bool false),.d (.bool false),.d (.bool false),.d (.bool false),.d (.bool false),.d (.bool false),.d (.bool false),.d (.bool false),.d (.bool false),.d (.bool false),.d (.bool false),.d (.bool false),.d (.bool false),.d (.bool false),.d (.bool false),.d (.bool false),.d (.bool false),.d (.bool false),.d (.bool false),.d (.bool false),.d (.bool false),.d (.bool false),.d (.bool false),.d (.bool false),.d (.bool false),.d (.bool false),.d (.bool false),.d (.bool false),.d (.bool false),.d (.bool false),.d (.bool false),.d (.bool false),.d (.bool false),.d (.bool false),.d (.bool false),.d (.bool false),.d (.bool false),.d (.bool false),.d (.bool false),.d (.bool false),.d (.bool false),.d (.bool false),.d (.bool false),.d (.bool false),.d (.bool false),.d (.bool false),.d (.bool false),.d (.bool false),.d (.bool false),.d (.bool false),.d (.bool false),.d (.bool false),.d (.bool false),.d (.bool false),.d (.bool false),.d (.bool false),.d (.bool false),.d (.bool false),.d (.bool false),.d (.bool false),.d (.bool false),.d (.bool false),.d (.bool false),.d (.bool false),.d (.bool false),.d (.bool false),.d (.bool false),.d (.bool false),.d (.bool false),.d (.bool false),.d (.bool false),.d (.bool false),.d (.bool false),.d (.bool false),.d (.bool false),.d (.bool false),.d (.bool false),.d (.bool false),.d (.bool false),.d (.bool false),.d (.bool false),.d (.bool false),.d (.bool false),.d (.bool false),.d (.bool false),.d (.bool false),.d (.bool false),.d (.bool false),.d (.bool false),.d (.bool false),.d (.bool false),.d (.bool false),.d (.bool false),.d (.bool false),.d (.bool false),.d (.bool false),.d (.bool false),.d (.bool false),.d (.bool false),.d (.bool false),.d (.bool false),.d (.bool false),.d (.bool false),.d (.bool false),.d (.bool false),.d (.bool false),.d (.bool false),.d (.bool false),.d (.bool false),.d (.bool false),.d (.bool false),.d (.bool false),.d (.bool false),.d (.bool false),.d (.bool false),.d (.bool false),.d (.bool false),.d (.bool false),.d (.bool false),.d (.bool false),.d (.bool false),.d (.bool false),.d (.bool false),.d (.bool false),.d (.bool false),.d (.bool false),.d (.bool false),.d (.bool false),.d (.bool false),.d (.bool false),.d (.bool false),.d (.bool false),.d (.bool false),.d (.bool false),.d (.bool false),.d (.bool false),.d (.bool false),.d (.bool false),.d (.bool false),.d (.bool false),.d (.bool false),.d (.bool false),.d (.bool false),.d (.bool false),.d (.bool false),.d (.bool false),.d (.bool false),.d (.bool false),.d (.bool false),.d (.bool false),.d (.bool false),.d (.bool false),.d (.bool false),.d (.bool false),.d (.bool false),.d (.bool false),.d (.bool false),.d (.bool false),.d (.bool false),.d (.bool false),.d (.bool false),.d (.bool false),.d (.bool false),.d (.bool false),.d (.bool false),.d (.bool false),.d (.bool false),.d (.bool false),.d (.bool false),.d (.bool false),.d (.bool false),.d (.bool false),.d (.bool false),.d (.bool false),.d (.bool false),.d (.bool false),.d (.bool false),.d (.bool false),.d (.bool false),.d (.bool false),.d (.bool false),.d (.bool false),.d (.bool false),.d (.bool false),.d (.bool false),.d (.bool false),.d (.bool false),.d (.bool false),.d (.bool false),.d (.bool false),.d (.bool false),.d (.bool false),.d (.bool false),.d (.bool false),.d (.bool false),.d (.bool false),.d (.bool false),.d (.bool false),.d (.bool false),.d (.bool false),.d (.bool false),.d (.bool false),.d (.bool false),.d (.bool false),.d (.bool false),.d (.bool false),.d (.bool false),.d (.bool false),.d (.bool false),.d (.bool false),.d (.bool false),.d (.bool false),.d (.bool false),.d (.bool false),.d (.bool false),.d (.bool false),.d (.bool false)]:List AV) 0 (setB l)=setB l:=setB_putL rfl
set_option maxHeartbeats 4000000 in
set_option maxRecDepth 100000 in
theorem trim_spec (s l:List UInt8) (hs:s.length<2 ^ 62) (hl:l.length<2 ^ 62) (h2:2≤l.length) (ha:∀ b∈l,b.toNat<128):Ctr Tryz.prog G 50 [.d (S s),.d (S l)] [] (.d (S (trimL l (trimR l s)))) []:=by
 refine Ctr.pure (M:=M0) hmix Tryz.func50 rfl go50 ?_
 have q:=@setB_length l
 have tr:(trimR l s).length≤s.length:=by
  simp only [trimR,List.length_reverse]
  exact Nat.le_trans (List.dropWhile_sublist _).length_le (by simp)
 simp (config:={maxSteps:=1000000}) (disch:=((try simp only [awL]);omega)) only [QR,QS,QT,QU,QV,QW,QX,QY,QZ,Q0,Q1,Q2,setB_refs,setB_pass,setB_sids,setB_ren,Tryz.f50,↓awU,awV,awF,Qa,Qb,Qc,Qd,forall_const,↓reduceIte,↓reduceDIte,↓Qe,Qf,Qg,Qh,Qi,Qj,Qk,Ql,Qm,Qn,Qo,Qp,Qq,Qr,Qs,implies_true,Qt,Qu,Qv,Qw,Qx,Qy,Qz,QA,QB,QC,QD,QE,QF,QG,QH,QI,QJ,QK,QL,QM,QN,QO,QP,QQ]
 refine ⟨fun h=>⟨fun h3=>?_,fun h3=>?_⟩,fun h=>?_⟩
 ·subst h3;simp at h2
 ·refine CallC.pure (makeSet_spec l hl ha) ?_
  have tk:(setD l).take 256=setD l:=List.take_of_length_le (by rw [setD_length];omega)
  simp (config:={maxSteps:=1000000}) (disch:=((try simp only [awL]);omega)) only [QR,QS,QT,QU,QV,QW,QX,QY,QZ,Q0,Q1,Q2,↓ setB_putL',setB_putL',setB_fold,q,setB_refs,setB_pass,setB_sids,setB_ren,↓awU,awV,awF,Qa,Qb,Qc,Qd,forall_const,↓reduceIte,↓reduceDIte,↓Qe,Qf,Qg,Qh,Qi,Qj,Qk,Ql,Qm,Qn,Qo,Qp,Qq,Qr,Qs,implies_true,Qt,Qu,Qv,Qw,Qx,Qy,Qz,QA,QB,QC,QD,QE,QF,QG,QH,QI,QJ,QK,QL,QM,QN,QO,QP,QQ]
  refine ⟨setB_one,?_⟩
  refine CallC.by (trimRA_spec l s hs) (by rfl) (by rfl) (Nat.le_refl _) ?_
  simp (config:={maxSteps:=1000000}) (disch:=((try simp only [awL]);omega)) only [QR,QS,QT,QU,QV,QW,QX,QY,QZ,Q0,Q1,Q2,setB_fold,setB_refs,setB_pass,setB_sids,setB_ren,↓awU,awV,awF,Qa,Qb,Qc,Qd,forall_const,↓reduceIte,↓reduceDIte,↓Qe,Qf,Qg,Qh,Qi,Qj,Qk,Ql,Qm,Qn,Qo,Qp,Qq,Qr,Qs,implies_true,Qt,Qu,Qv,Qw,Qx,Qy,Qz,QA,QB,QC,QD,QE,QF,QG,QH,QI,QJ,QK,QL,QM,QN,QO,QP,QQ]
  refine CallC.by (trimLA_spec l (trimR l s) (by omega)) (by rfl) (by rfl) (Nat.le_refl _) ?_
  simp (config:={maxSteps:=1000000}) (disch:=((try simp only [awL]);omega)) only [QR,QS,QT,QU,QV,QW,QX,QY,QZ,Q0,Q1,Q2,setB_fold,setB_refs,setB_pass,setB_sids,setB_ren,↓awU,awV,awF,Qa,Qb,Qc,Qd,forall_const,↓reduceIte,↓reduceDIte,↓Qe,Qf,Qg,Qh,Qi,Qj,Qk,Ql,Qm,Qn,Qo,Qp,Qq,Qr,Qs,implies_true,Qt,Qu,Qv,Qw,Qx,Qy,Qz,QA,QB,QC,QD,QE,QF,QG,QH,QI,QJ,QK,QL,QM,QN,QO,QP,QQ]
 ·subst h;rfl
theorem dropWhile_nil {l:List UInt8} {p:UInt8→Bool}:l.dropWhile p=[]↔l.all p=true:=by
 induction l with
 | nil=>simp
 | cons b l ih =>
  rw [List.dropWhile_cons,List.all_cons]
  cases h:p b<;>simp [ih]
theorem trim_nil {l s:List UInt8}:trimL l (trimR l s)=[]↔s.all l.contains=true:=by
 rw [trimL,dropWhile_nil,trimR]
 rw [List.all_reverse]
 constructor
 ·intro h
  by_cases e:s.reverse.dropWhile l.contains=[]
  ·have:=dropWhile_nil.1 e
   rwa [List.all_reverse] at this
  ·exfalso
   have h1:=List.head_dropWhile_not l.contains e
   have h2:=List.all_eq_true.1 h _ (List.head_mem e)
   rw [h1] at h2;cases h2
 ·intro h
  have:s.reverse.dropWhile l.contains=[]:=dropWhile_nil.2 (by rwa [List.all_reverse])
  rw [this];rfl
abbrev dig10:List UInt8:=[48,49,50,51,52,53,54,55,56,57]
def digB (s:List UInt8) (m:Int):Bool:=decide (1≤s.length∧(s.length:Int)≤m) && s.all dig10.contains
theorem digits_spec (s:List UInt8) (m:Int) (hs:s.length<2 ^ 62):Ctr Tryz.prog G 76 [.d (S s),.d (.int .i64 m)] [] (.d (.bool (digB s m))) []:=by
 refine Ctr.pure (M:=M0) hmix Tryz.func76 rfl go76 ?_
 simp (config:={maxSteps:=1000000}) (disch:=((try simp only [awL]);omega)) only [QR,QS,QT,QU,QV,QW,QX,QY,QZ,Q0,Q1,Q2,Tryz.f76,↓awU,awV,awF,Qa,Qb,Qc,Qd,forall_const,↓reduceIte,↓reduceDIte,↓Qe,Qf,Qg,Qh,Qi,Qj,Qk,Ql,Qm,Qn,Qo,Qp,Qq,Qr,Qs,implies_true,Qt,Qu,Qv,Qw,Qx,Qy,Qz,QA,QB,QC,QD,QE,QF,QG,QH,QI,QJ,QK,QL,QM,QN,QO,QP,QQ]
 refine ⟨fun h1=>⟨fun h2=>?_,fun h2=>?_⟩,fun h1=>?_⟩
 ·refine CallC.pure (trim_spec s dig10 hs (by decide) (by decide) (by decide)) ?_
  simp (config:={maxSteps:=1000000}) (disch:=((try simp only [awL]);omega)) only [QR,QS,QT,QU,QV,QW,QX,QY,QZ,Q0,Q1,Q2,↓awU,awV,awF,Qa,Qb,Qc,Qd,forall_const,↓reduceIte,↓reduceDIte,↓Qe,Qf,Qg,Qh,Qi,Qj,Qk,Ql,Qm,Qn,Qo,Qp,Qq,Qr,Qs,implies_true,Qt,Qu,Qv,Qw,Qx,Qy,Qz,QA,QB,QC,QD,QE,QF,QG,QH,QI,QJ,QK,QL,QM,QN,QO,QP,QQ]
  rw [digB,decide_eq_true (show 1≤s.length∧(s.length:Int)≤m by omega),Bool.true_and]
  cases h:s.all dig10.contains
  ·rw [decide_eq_false fun e=>by rw [trim_nil,h] at e;cases e]
  ·rw [decide_eq_true (trim_nil.2 h)]
 ·rw [digB,decide_eq_false (by omega)];rfl
 ·rw [digB,decide_eq_false (by omega)];rfl
end Go.Proofs.YtkgbbdoeodmkgaaGreatDoor.Num
namespace Go.Proofs.YtkgbbdoeodmkgaaGreatDoor.Num
open Go Go.Proofs Go.Abs
variable {G:Globals}
end Go.Proofs.YtkgbbdoeodmkgaaGreatDoor.Num
namespace Go.Proofs.YtkgbbdoeodmkgaaGreatDoor.Num
open Go Go.Proofs Go.Abs
variable {G:Globals}
end Go.Proofs.YtkgbbdoeodmkgaaGreatDoor.Num
namespace Go.Proofs.YtkgbbdoeodmkgaaGreatDoor.Num
open Go Go.Proofs Go.Abs
variable {G:Globals}
def decNeg (s:List UInt8):Bool:=hasP s [45]
def decBody (s:List UInt8):List UInt8:=if hasP s [45] then s.drop 1 else if hasP s [43] then s.drop 1 else s
def decF (s:List UInt8):List UInt8:=cutL 46 (decBody s)
def decB (s:List UInt8):List UInt8:=cutR 46 (decBody s)
def decOk (s:List UInt8):Bool:=digB (decF s) 15 && (!decide (46∈decBody s) || digB (decB s) 9)
def decNum (l:List UInt8):Nat:=l.foldl (fun v b=>v*10+(b.toNat - 48)) 0
def decVal (s:List UInt8):Rat:=Rat.divInt (if decNeg s then -(decNum (decF s++decB s):Int) else (decNum (decF s++decB s):Int)) ((10 ^ (decB s).length:Nat):Int)
theorem decNum_push {l:List UInt8} {i:Nat} (h:i<l.length):decNum (l.take i)*10+((l.getD i 0).toNat - 48)=decNum (l.take (i+1)):=by
 rw [take_snoc h,decNum,decNum,List.foldl_append];rfl
theorem cutL_len {c:UInt8}:∀ s:List UInt8,(cutL c s).length≤s.length
 | []=>Nat.le_refl _
 | b::l=>by
   have:=cutL_len (c:=c) l
   rw [cutL];split<;>simp;exact this
theorem cutR_none {c:UInt8} {s:List UInt8} (h:c∉s):cutR c s=[]:=((cut_index c s).2 h).2.2
theorem cutR_len {c:UInt8}:∀ s:List UInt8,(cutR c s).length≤s.length
 | []=>Nat.le_refl _
 | b::l=>by
   have:=cutR_len (c:=c) l
   rw [cutR];split<;>simp;omega
theorem dig_range {b:UInt8} (h:dig10.contains b=true):48≤b.toNat∧b.toNat≤57:=by
 have:b∈dig10:=by simpa using h
 simp only [dig10,List.mem_cons,List.not_mem_nil,or_false] at this
 rcases this with rfl | rfl | rfl | rfl | rfl | rfl | rfl | rfl | rfl | rfl<;>decide
theorem decNum_lt {l:List UInt8} (h:∀ b∈l,dig10.contains b=true):decNum l<10 ^ l.length:=by
 have key:∀ (l:List UInt8) (v:Nat),(∀ b∈l,dig10.contains b=true)→l.foldl (fun v b=>v*10+(b.toNat - 48)) v<(v+1)*10 ^ l.length:=by
  intro l
  induction l with
  | nil=>intro v _;simp
  | cons b l ih =>
   intro v hl
   have hb:=dig_range (hl b (List.mem_cons_self ..))
   have:=ih (v*10+(b.toNat - 48)) (fun c hc=>hl c (List.mem_cons_of_mem _ hc))
   rw [List.foldl_cons,List.length_cons,Nat.pow_succ]
   refine Nat.lt_of_lt_of_le this ?_
   rw [Nat.mul_comm (10 ^ l.length) 10,← Nat.mul_assoc]
   exact Nat.mul_le_mul_right _ (by omega)
 have:=key l 0 h
 rw [Nat.zero_add,Nat.one_mul] at this
 exact this
theorem cells_nums {l:List UInt8}:(l.map fun b=>D.int .u8 (b.toNat:Int))=ints .u8 (nums l):=by simp [ints,nums]
theorem decOk_facts {s:List UInt8} (h:decOk s=true):(∀ b∈decF s++decB s,dig10.contains b=true)∧(decF s++decB s).length≤24∧(decB s).length≤9:=by
 unfold decOk at h
 rw [Bool.and_eq_true,Bool.or_eq_true] at h
 obtain ⟨h1,h2⟩:=h
 unfold digB at h1
 rw [Bool.and_eq_true,decide_eq_true_eq] at h1
 have hb:(decB s).length≤9∧∀ b∈decB s,dig10.contains b=true:=by
  rcases h2 with h2 | h2
  ·have e:decB s=[]:=cutR_none (by simpa using h2)
   rw [e];exact ⟨by simp,fun b hb=>by cases hb⟩
  ·unfold digB at h2
   rw [Bool.and_eq_true,decide_eq_true_eq] at h2
   exact ⟨by omega,fun b hb=>List.all_eq_true.1 h2.2 b hb⟩
 refine ⟨fun b hb'=>?_,by rw [List.length_append];omega,hb.1⟩
 rcases List.mem_append.1 hb' with h | h
 ·exact List.all_eq_true.1 h1.2 b h
 ·exact hb.2 b h
theorem toW_10:toW 10=[10]:=by rw [toW_pos (by decide),show 10 / B=0 from rfl,toW_zero];rfl
theorem sz_small {n k:Nat} (h:n<10 ^ k):(toW n).length≤k:=toW_length_le (Nat.lt_of_lt_of_le h (Nat.pow_le_pow_left (by decide) _))
set_option maxHeartbeats 4000000 in
set_option maxRecDepth 100000 in
theorem decimalF_spec (hG:HG G) (s:List UInt8) (hs:s.length≤1000000000):Ctr Tryz.prog G 52 [.d (S s)] [] (.d (.tup [if decOk s=true then Frac (decVal s) else Zf,.bool (decOk s)])) []:=by
 have hG':=hG
 unfold HG at hG
 refine Ctr.pure (M:=M0) hmix Tryz.func52 rfl go52 ?_
 simp (config:={maxSteps:=1000000}) (disch:=((try simp only [awL]);omega)) only [QR,QS,QT,QU,QV,QW,QX,QY,QZ,Q0,Q1,Q2,Tryz.f52,↓awU,awV,awF,Qa,Qb,Qc,Qd,forall_const,↓reduceIte,↓reduceDIte,↓Qe,Qf,Qg,Qh,Qi,Qj,Qk,Ql,Qm,Qn,Qo,Qp,Qq,Qr,Qs,implies_true,Qt,Qu,Qv,Qw,Qx,Qy,Qz,QA,QB,QC,QD,QE,QF,QG,QH,QI,QJ,QK,QL,QM,QN,QO,QP,QQ]
 refine CallC.pure (cutPrefix_spec s [45]) ?_
 have hbody:(decBody s).length≤s.length:=by
  unfold decBody
  split
  ·simp
  ·split<;>simp
 have l1:=cutL_len (c:=46) (decBody s)
 have l2:=cutR_len (c:=46) (decBody s)
 have hno:decide (46∈decBody s)=false→decB s=[]:=fun h=>cutR_none (of_decide_eq_false h)
 have hok:decOk s=(digB (decF s) 15 && (!decide (46∈decBody s) || digB (decB s) 9)):=rfl
 have hdv:decVal s=Rat.divInt (if decNeg s then -(decNum (decF s++decB s):Int) else (decNum (decF s++decB s):Int)) ((10 ^ (decB s).length:Nat):Int):=rfl
 have f1:cutL 46 (decBody s)=decF s:=rfl
 have f2:cutR 46 (decBody s)=decB s:=rfl
 rw [f1] at l1
 rw [f2] at l2
 cases h45:hasP s [45]
 ·simp (config:={maxSteps:=1000000}) (disch:=((try simp only [awL]);omega)) only [QR,QS,QT,QU,QV,QW,QX,QY,QZ,Q0,Q1,Q2,↓awU,awV,awF,Qa,Qb,Qc,Qd,forall_const,↓reduceIte,↓reduceDIte,↓Qe,Qf,Qg,Qh,Qi,Qj,Qk,Ql,Qm,Qn,Qo,Qp,Qq,Qr,Qs,implies_true,Qt,Qu,Qv,Qw,Qx,Qy,Qz,QA,QB,QC,QD,QE,QF,QG,QH,QI,QJ,QK,QL,QM,QN,QO,QP,QQ]
  refine CallC.pure (trimPrefix_spec s [43]) ?_
  have eb:(if hasP s [43] then s.drop ([43]:List UInt8).length else s)=decBody s:=by rw [decBody,h45];rfl
  have en:decNeg s=false:=h45
  rw [eb]
  rw [en] at hdv
  simp (config:={maxSteps:=1000000}) (disch:=((try simp only [awL]);omega)) only [QR,QS,QT,QU,QV,QW,QX,QY,QZ,Q0,Q1,Q2,↓awU,awV,awF,Qa,Qb,Qc,Qd,forall_const,↓reduceIte,↓reduceDIte,↓Qe,Qf,Qg,Qh,Qi,Qj,Qk,Ql,Qm,Qn,Qo,Qp,Qq,Qr,Qs,implies_true,Qt,Qu,Qv,Qw,Qx,Qy,Qz,QA,QB,QC,QD,QE,QF,QG,QH,QI,QJ,QK,QL,QM,QN,QO,QP,QQ]
  refine CallC.pure (cut_spec (decBody s) 46 (by omega)) ?_
  rw [f1,f2]
  simp (config:={maxSteps:=1000000}) (disch:=((try simp only [awL]);omega)) only [QR,QS,QT,QU,QV,QW,QX,QY,QZ,Q0,Q1,Q2,↓awU,awV,awF,Qa,Qb,Qc,Qd,forall_const,↓reduceIte,↓reduceDIte,↓Qe,Qf,Qg,Qh,Qi,Qj,Qk,Ql,Qm,Qn,Qo,Qp,Qq,Qr,Qs,implies_true,Qt,Qu,Qv,Qw,Qx,Qy,Qz,QA,QB,QC,QD,QE,QF,QG,QH,QI,QJ,QK,QL,QM,QN,QO,QP,QQ]
  refine CallC.pure (digits_spec (decF s) 15 (by omega)) ?_
  cases d1:digB (decF s) 15
  ·rw [hok,d1,Bool.false_and]
   simp (config:={maxSteps:=1000000}) (disch:=((try simp only [awL]);omega)) only [QR,QS,QT,QU,QV,QW,QX,QY,QZ,Q0,Q1,Q2,↓awU,awV,awF,Qa,Qb,Qc,Qd,forall_const,↓reduceIte,↓reduceDIte,↓Qe,Qf,Qg,Qh,Qi,Qj,Qk,Ql,Qm,Qn,Qo,Qp,Qq,Qr,Qs,implies_true,Qt,Qu,Qv,Qw,Qx,Qy,Qz,QA,QB,QC,QD,QE,QF,QG,QH,QI,QJ,QK,QL,QM,QN,QO,QP,QQ]
   first | done | rfl
  ·rw [d1,Bool.true_and] at hok
   cases dp:decide (46∈decBody s)
   ·rw [dp,Bool.not_false,Bool.true_or] at hok
    obtain ⟨hall,hlen,hlb⟩:=decOk_facts hok
    have hsm:∀ i,i≤(decF s++decB s).length→(toW (decNum ((decF s++decB s).take i))).length≤30:=fun i hi=>by
     have h:=decNum_lt (l:=(decF s++decB s).take i) fun b hb=>hall b (List.mem_of_mem_take hb)
     exact sz_small (Nat.lt_of_lt_of_le h (Nat.pow_le_pow_right (by decide) (by rw [List.length_take];omega)))
    have hlt:∀ i,i≤(decF s++decB s).length→decNum ((decF s++decB s).take i)*10<10 ^ 30:=fun i hi=>by
     have h:=decNum_lt (l:=(decF s++decB s).take i) fun b hb=>hall b (List.mem_of_mem_take hb)
     have h2:10 ^ ((decF s++decB s).take i).length≤10 ^ 29:=Nat.pow_le_pow_right (by decide) (by rw [List.length_take];omega)
     have h3:(10:Nat) ^ 30=10 ^ 29*10:=rfl
     omega
    rw [if_pos hok,hok]
    generalize hL:decF s++decB s=L at *
    simp (config:={maxSteps:=1000000}) (disch:=((try simp only [awL]);omega)) only [hG,QR,QS,QT,QU,QV,QW,QX,QY,QZ,Q0,Q1,Q2,↓awU,awV,awF,Qa,Qb,Qc,Qd,forall_const,↓reduceIte,↓reduceDIte,↓Qe,Qf,Qg,Qh,Qi,Qj,Qk,Ql,Qm,Qn,Qo,Qp,Qq,Qr,Qs,implies_true,Qt,Qu,Qv,Qw,Qx,Qy,Qz,QA,QB,QC,QD,QE,QF,QG,QH,QI,QJ,QK,QL,QM,QN,QO,QP,QQ]
    refine CallC.of (clone_spec [1] (by decide)) (by rfl) ?_
    simp (config:={maxSteps:=1000000}) (disch:=((try simp only [awL]);omega)) only [hG,QR,QS,QT,QU,QV,QW,QX,QY,QZ,Q0,Q1,Q2,hL,cells_nums,↓awU,awV,awF,Qa,Qb,Qc,Qd,forall_const,↓reduceIte,↓reduceDIte,↓Qe,Qf,Qg,Qh,Qi,Qj,Qk,Ql,Qm,Qn,Qo,Qp,Qq,Qr,Qs,implies_true,Qt,Qu,Qv,Qw,Qx,Qy,Qz,QA,QB,QC,QD,QE,QF,QG,QH,QI,QJ,QK,QL,QM,QN,QO,QP,QQ]
    refine LoopC.fr 422212465069220 (α:=Nat) (fun i=>L.length - i) (fun i=>[(9,.d (W (toW (decNum (L.take i))))),(49,.d (.int .i64 i))])
     (fun _=>[.box [.d (.bool false),.d (.sl 0 true []),.d (.bool false),.d (.sl 0 true [])],.row true (nats .u32 [10]),.row false (ints .u8 (nums L))]) (fun i=>i≤L.length) 0 (Nat.zero_le _) ?_ ?_
    ·exact ⟨[some 0,some 1,some 2],rfl,by simp,by simp [setsA,keepA,SWeak,AWeak,decNum,toW_zero,nats],by simp [HWeak,BWeak,SWeak,AWeak,nats]⟩
    ·intro i hi
     have lt:=hsm i hi
     have nl:=@nums_length L
     simp only [awK,Nat.reduceMod,Nat.reduceDiv,reduceIte]
     rcases Nat.lt_or_ge i L.length with h1 | h1
     ·have hb:=dig_range (hall _ (mem_getDU (d:=0) h1))
      have hp:=decNum_push h1
      have ls:=sz_small (n:=(L.getD i 0).toNat - 48) (k:=2) (by omega)
      have e48:((L.getD i 0).toNat:Int) - 48=(((L.getD i 0).toNat - 48:Nat):Int):=by omega
      have lm:(toW (decNum (L.take i)*10)).length≤40:=sz_small (Nat.lt_of_lt_of_le (hlt i hi) (by decide))
      simp (config:={maxSteps:=1000000}) (disch:=((try simp only [awL]);omega)) only [hG,QR,QS,QT,QU,QV,QW,QX,QY,QZ,Q0,Q1,Q2,nl,↓awU,awV,awF,Qa,Qb,Qc,Qd,forall_const,↓reduceIte,↓reduceDIte,↓Qe,Qf,Qg,Qh,Qi,Qj,Qk,Ql,Qm,Qn,Qo,Qp,Qq,Qr,Qs,implies_true,Qt,Qu,Qv,Qw,Qx,Qy,Qz,QA,QB,QC,QD,QE,QF,QG,QH,QI,QJ,QK,QL,QM,QN,QO,QP,QQ]
      refine CallC.frozenE (times_spec (decNum (L.take i)) 10 (by omega) (by rw [toW_10];decide)) (by rw [toW_10];rfl) ?_
      simp (config:={maxSteps:=1000000}) (disch:=((try simp only [awL]);omega)) only [hG,QR,QS,QT,QU,QV,QW,QX,QY,QZ,Q0,Q1,Q2,nl,e48,↓awU,awV,awF,Qa,Qb,Qc,Qd,forall_const,↓reduceIte,↓reduceDIte,↓Qe,Qf,Qg,Qh,Qi,Qj,Qk,Ql,Qm,Qn,Qo,Qp,Qq,Qr,Qs,implies_true,Qt,Qu,Qv,Qw,Qx,Qy,Qz,QA,QB,QC,QD,QE,QF,QG,QH,QI,QJ,QK,QL,QM,QN,QO,QP,QQ]
      refine CallC.pure (natural_spec ((L.getD i 0).toNat - 48) (by omega)) ?_
      simp (config:={maxSteps:=1000000}) (disch:=((try simp only [awL]);omega)) only [hG,QR,QS,QT,QU,QV,QW,QX,QY,QZ,Q0,Q1,Q2,nl,↓awU,awV,awF,Qa,Qb,Qc,Qd,forall_const,↓reduceIte,↓reduceDIte,↓Qe,Qf,Qg,Qh,Qi,Qj,Qk,Ql,Qm,Qn,Qo,Qp,Qq,Qr,Qs,implies_true,Qt,Qu,Qv,Qw,Qx,Qy,Qz,QA,QB,QC,QD,QE,QF,QG,QH,QI,QJ,QK,QL,QM,QN,QO,QP,QQ]
      refine CallC.pure (plus_spec (decNum (L.take i)*10) ((L.getD i 0).toNat - 48) (by omega) (by omega)) ?_
      rw [hp]
      simp (config:={maxSteps:=1000000}) (disch:=((try simp only [awL]);omega)) only [hG,QR,QS,QT,QU,QV,QW,QX,QY,QZ,Q0,Q1,Q2,nl,↓awU,awV,awF,Qa,Qb,Qc,Qd,forall_const,↓reduceIte,↓reduceDIte,↓Qe,Qf,Qg,Qh,Qi,Qj,Qk,Ql,Qm,Qn,Qo,Qp,Qq,Qr,Qs,implies_true,Qt,Qu,Qv,Qw,Qx,Qy,Qz,QA,QB,QC,QD,QE,QF,QG,QH,QI,QJ,QK,QL,QM,QN,QO,QP,QQ]
      exact ⟨i+1,h1,by simp only;omega,⟨[some 0,some 1,some 2],rfl,by simp,by simp [setsA,keepA,SWeak,AWeak],by simp [HWeak,BWeak,SWeak,AWeak]⟩⟩
     ·obtain rfl:i=L.length:=by omega
      rw [List.take_length] at *
      simp (config:={maxSteps:=1000000}) (disch:=((try simp only [awL]);omega)) only [hG,QR,QS,QT,QU,QV,QW,QX,QY,QZ,Q0,Q1,Q2,nl,↓awU,awV,awF,Qa,Qb,Qc,Qd,forall_const,↓reduceIte,↓reduceDIte,↓Qe,Qf,Qg,Qh,Qi,Qj,Qk,Ql,Qm,Qn,Qo,Qp,Qq,Qr,Qs,implies_true,Qt,Qu,Qv,Qw,Qx,Qy,Qz,QA,QB,QC,QD,QE,QF,QG,QH,QI,QJ,QK,QL,QM,QN,QO,QP,QQ]
      refine LoopC.fr 9223372036854777380 (α:=Nat) (fun j=>(decB s).length - j) (fun j=>[(11,.d (W (toW (10 ^ j)))),(64,.d (.int .i64 j))])
       (fun _=>[.box [.d (.bool false),.d (.sl 0 true []),.d (.bool false),.d (.sl 0 true [])],.row true (nats .u32 [10]),.row false (ints .u8 (nums L))]) (fun j=>j≤(decB s).length) 0 (Nat.zero_le _) ?_ ?_
      ·exact ⟨[some 0,some 1,some 2],rfl,by simp,by simp [setsA,keepA,SWeak,AWeak,toW_one],by simp [HWeak,BWeak,SWeak,AWeak,nats]⟩
      ·intro j hj
       have lj:(toW (10 ^ j)).length≤10:=sz_small (Nat.pow_lt_pow_right (by decide) (by omega))
       simp only [awK,Nat.reduceMod,Nat.reduceDiv,reduceIte]
       rcases Nat.lt_or_ge j (decB s).length with h2 | h2
       ·simp (config:={maxSteps:=1000000}) (disch:=((try simp only [awL]);omega)) only [hG,QR,QS,QT,QU,QV,QW,QX,QY,QZ,Q0,Q1,Q2,↓awU,awV,awF,Qa,Qb,Qc,Qd,forall_const,↓reduceIte,↓reduceDIte,↓Qe,Qf,Qg,Qh,Qi,Qj,Qk,Ql,Qm,Qn,Qo,Qp,Qq,Qr,Qs,implies_true,Qt,Qu,Qv,Qw,Qx,Qy,Qz,QA,QB,QC,QD,QE,QF,QG,QH,QI,QJ,QK,QL,QM,QN,QO,QP,QQ]
        refine CallC.frozenE (times_spec (10 ^ j) 10 (by omega) (by rw [toW_10];decide)) (by rw [toW_10];rfl) ?_
        rw [← Nat.pow_succ]
        simp (config:={maxSteps:=1000000}) (disch:=((try simp only [awL]);omega)) only [hG,QR,QS,QT,QU,QV,QW,QX,QY,QZ,Q0,Q1,Q2,↓awU,awV,awF,Qa,Qb,Qc,Qd,forall_const,↓reduceIte,↓reduceDIte,↓Qe,Qf,Qg,Qh,Qi,Qj,Qk,Ql,Qm,Qn,Qo,Qp,Qq,Qr,Qs,implies_true,Qt,Qu,Qv,Qw,Qx,Qy,Qz,QA,QB,QC,QD,QE,QF,QG,QH,QI,QJ,QK,QL,QM,QN,QO,QP,QQ]
        exact ⟨j+1,h2,by simp only;omega,⟨[some 0,some 1,some 2],rfl,by simp,by simp [setsA,keepA,SWeak,AWeak],by simp [HWeak,BWeak,SWeak,AWeak]⟩⟩
       ·obtain rfl:j=(decB s).length:=by omega
        have hd0:((10 ^ (decB s).length:Nat):Int)≠0:=by
         have:0<10 ^ (decB s).length:=Nat.pow_pos (by decide)
         omega
        simp (config:={maxSteps:=1000000}) (disch:=((try simp only [awL]);omega)) only [hG,QR,QS,QT,QU,QV,QW,QX,QY,QZ,Q0,Q1,Q2,↓awU,awV,awF,Qa,Qb,Qc,Qd,forall_const,↓reduceIte,↓reduceDIte,↓Qe,Qf,Qg,Qh,Qi,Qj,Qk,Ql,Qm,Qn,Qo,Qp,Qq,Qr,Qs,implies_true,Qt,Qu,Qv,Qw,Qx,Qy,Qz,QA,QB,QC,QD,QE,QF,QG,QH,QI,QJ,QK,QL,QM,QN,QO,QP,QQ]
        refine CallC.pure (signed_spec false (decNum L) (by omega)) ?_
        simp (config:={maxSteps:=1000000}) (disch:=((try simp only [awL]);omega)) only [hG,QR,QS,QT,QU,QV,QW,QX,QY,QZ,Q0,Q1,Q2,↓awU,awV,awF,Qa,Qb,Qc,Qd,forall_const,↓reduceIte,↓reduceDIte,↓Qe,Qf,Qg,Qh,Qi,Qj,Qk,Ql,Qm,Qn,Qo,Qp,Qq,Qr,Qs,implies_true,Qt,Qu,Qv,Qw,Qx,Qy,Qz,QA,QB,QC,QD,QE,QF,QG,QH,QI,QJ,QK,QL,QM,QN,QO,QP,QQ]
        refine CallC.pure (signed_spec false (10 ^ (decB s).length) (by omega)) ?_
        simp (config:={maxSteps:=1000000}) (disch:=((try simp only [awL]);omega)) only [hG,QR,QS,QT,QU,QV,QW,QX,QY,QZ,Q0,Q1,Q2,↓awU,awV,awF,Qa,Qb,Qc,Qd,forall_const,↓reduceIte,↓reduceDIte,↓Qe,Qf,Qg,Qh,Qi,Qj,Qk,Ql,Qm,Qn,Qo,Qp,Qq,Qr,Qs,implies_true,Qt,Qu,Qv,Qw,Qx,Qy,Qz,QA,QB,QC,QD,QE,QF,QG,QH,QI,QJ,QK,QL,QM,QN,QO,QP,QQ]
        refine CallC.of (reduced_spec (if false=true then -(decNum L:Int) else (decNum L:Int)) ((10 ^ (decB s).length:Nat):Int) hd0 (by simp only [sz];split<;>simp<;>omega) (by simp only [sz,Int.natAbs_natCast];omega)) (by rfl) ?_
        rw [← hdv]
        simp (config:={maxSteps:=1000000}) (disch:=((try simp only [awL]);omega)) only [hG,QR,QS,QT,QU,QV,QW,QX,QY,QZ,Q0,Q1,Q2,↓awU,awV,awF,Qa,Qb,Qc,Qd,forall_const,↓reduceIte,↓reduceDIte,↓Qe,Qf,Qg,Qh,Qi,Qj,Qk,Ql,Qm,Qn,Qo,Qp,Qq,Qr,Qs,implies_true,Qt,Qu,Qv,Qw,Qx,Qy,Qz,QA,QB,QC,QD,QE,QF,QG,QH,QI,QJ,QK,QL,QM,QN,QO,QP,QQ]
        first | done | rfl
   ·rw [dp,Bool.not_true,Bool.false_or] at hok
    simp (config:={maxSteps:=1000000}) (disch:=((try simp only [awL]);omega)) only [QR,QS,QT,QU,QV,QW,QX,QY,QZ,Q0,Q1,Q2,↓awU,awV,awF,Qa,Qb,Qc,Qd,forall_const,↓reduceIte,↓reduceDIte,↓Qe,Qf,Qg,Qh,Qi,Qj,Qk,Ql,Qm,Qn,Qo,Qp,Qq,Qr,Qs,implies_true,Qt,Qu,Qv,Qw,Qx,Qy,Qz,QA,QB,QC,QD,QE,QF,QG,QH,QI,QJ,QK,QL,QM,QN,QO,QP,QQ]
    refine CallC.pure (digits_spec (decB s) 9 (by omega)) ?_
    cases d2:digB (decB s) 9
    ·rw [hok,d2]
     simp (config:={maxSteps:=1000000}) (disch:=((try simp only [awL]);omega)) only [QR,QS,QT,QU,QV,QW,QX,QY,QZ,Q0,Q1,Q2,↓awU,awV,awF,Qa,Qb,Qc,Qd,forall_const,↓reduceIte,↓reduceDIte,↓Qe,Qf,Qg,Qh,Qi,Qj,Qk,Ql,Qm,Qn,Qo,Qp,Qq,Qr,Qs,implies_true,Qt,Qu,Qv,Qw,Qx,Qy,Qz,QA,QB,QC,QD,QE,QF,QG,QH,QI,QJ,QK,QL,QM,QN,QO,QP,QQ]
     first | done | rfl
    ·rw [d2] at hok
     obtain ⟨hall,hlen,hlb⟩:=decOk_facts hok
     have hsm:∀ i,i≤(decF s++decB s).length→(toW (decNum ((decF s++decB s).take i))).length≤30:=fun i hi=>by
      have h:=decNum_lt (l:=(decF s++decB s).take i) fun b hb=>hall b (List.mem_of_mem_take hb)
      exact sz_small (Nat.lt_of_lt_of_le h (Nat.pow_le_pow_right (by decide) (by rw [List.length_take];omega)))
     have hlt:∀ i,i≤(decF s++decB s).length→decNum ((decF s++decB s).take i)*10<10 ^ 30:=fun i hi=>by
      have h:=decNum_lt (l:=(decF s++decB s).take i) fun b hb=>hall b (List.mem_of_mem_take hb)
      have h2:10 ^ ((decF s++decB s).take i).length≤10 ^ 29:=Nat.pow_le_pow_right (by decide) (by rw [List.length_take];omega)
      have h3:(10:Nat) ^ 30=10 ^ 29*10:=rfl
      omega
     rw [if_pos hok,hok]
     generalize hL:decF s++decB s=L at *
     simp (config:={maxSteps:=1000000}) (disch:=((try simp only [awL]);omega)) only [hG,QR,QS,QT,QU,QV,QW,QX,QY,QZ,Q0,Q1,Q2,↓awU,awV,awF,Qa,Qb,Qc,Qd,forall_const,↓reduceIte,↓reduceDIte,↓Qe,Qf,Qg,Qh,Qi,Qj,Qk,Ql,Qm,Qn,Qo,Qp,Qq,Qr,Qs,implies_true,Qt,Qu,Qv,Qw,Qx,Qy,Qz,QA,QB,QC,QD,QE,QF,QG,QH,QI,QJ,QK,QL,QM,QN,QO,QP,QQ]
     refine CallC.of (clone_spec [1] (by decide)) (by rfl) ?_
     simp (config:={maxSteps:=1000000}) (disch:=((try simp only [awL]);omega)) only [hG,QR,QS,QT,QU,QV,QW,QX,QY,QZ,Q0,Q1,Q2,hL,cells_nums,↓awU,awV,awF,Qa,Qb,Qc,Qd,forall_const,↓reduceIte,↓reduceDIte,↓Qe,Qf,Qg,Qh,Qi,Qj,Qk,Ql,Qm,Qn,Qo,Qp,Qq,Qr,Qs,implies_true,Qt,Qu,Qv,Qw,Qx,Qy,Qz,QA,QB,QC,QD,QE,QF,QG,QH,QI,QJ,QK,QL,QM,QN,QO,QP,QQ]
     refine LoopC.fr 422212465069220 (α:=Nat) (fun i=>L.length - i) (fun i=>[(9,.d (W (toW (decNum (L.take i))))),(49,.d (.int .i64 i))])
      (fun _=>[.box [.d (.bool false),.d (.sl 0 true []),.d (.bool false),.d (.sl 0 true [])],.row true (nats .u32 [10]),.row false (ints .u8 (nums L))]) (fun i=>i≤L.length) 0 (Nat.zero_le _) ?_ ?_
     ·exact ⟨[some 0,some 1,some 2],rfl,by simp,by simp [setsA,keepA,SWeak,AWeak,decNum,toW_zero,nats],by simp [HWeak,BWeak,SWeak,AWeak,nats]⟩
     ·intro i hi
      have lt:=hsm i hi
      have nl:=@nums_length L
      simp only [awK,Nat.reduceMod,Nat.reduceDiv,reduceIte]
      rcases Nat.lt_or_ge i L.length with h1 | h1
      ·have hb:=dig_range (hall _ (mem_getDU (d:=0) h1))
       have hp:=decNum_push h1
       have ls:=sz_small (n:=(L.getD i 0).toNat - 48) (k:=2) (by omega)
       have e48:((L.getD i 0).toNat:Int) - 48=(((L.getD i 0).toNat - 48:Nat):Int):=by omega
       have lm:(toW (decNum (L.take i)*10)).length≤40:=sz_small (Nat.lt_of_lt_of_le (hlt i hi) (by decide))
       simp (config:={maxSteps:=1000000}) (disch:=((try simp only [awL]);omega)) only [hG,QR,QS,QT,QU,QV,QW,QX,QY,QZ,Q0,Q1,Q2,nl,↓awU,awV,awF,Qa,Qb,Qc,Qd,forall_const,↓reduceIte,↓reduceDIte,↓Qe,Qf,Qg,Qh,Qi,Qj,Qk,Ql,Qm,Qn,Qo,Qp,Qq,Qr,Qs,implies_true,Qt,Qu,Qv,Qw,Qx,Qy,Qz,QA,QB,QC,QD,QE,QF,QG,QH,QI,QJ,QK,QL,QM,QN,QO,QP,QQ]
       refine CallC.frozenE (times_spec (decNum (L.take i)) 10 (by omega) (by rw [toW_10];decide)) (by rw [toW_10];rfl) ?_
       simp (config:={maxSteps:=1000000}) (disch:=((try simp only [awL]);omega)) only [hG,QR,QS,QT,QU,QV,QW,QX,QY,QZ,Q0,Q1,Q2,nl,e48,↓awU,awV,awF,Qa,Qb,Qc,Qd,forall_const,↓reduceIte,↓reduceDIte,↓Qe,Qf,Qg,Qh,Qi,Qj,Qk,Ql,Qm,Qn,Qo,Qp,Qq,Qr,Qs,implies_true,Qt,Qu,Qv,Qw,Qx,Qy,Qz,QA,QB,QC,QD,QE,QF,QG,QH,QI,QJ,QK,QL,QM,QN,QO,QP,QQ]
       refine CallC.pure (natural_spec ((L.getD i 0).toNat - 48) (by omega)) ?_
       simp (config:={maxSteps:=1000000}) (disch:=((try simp only [awL]);omega)) only [hG,QR,QS,QT,QU,QV,QW,QX,QY,QZ,Q0,Q1,Q2,nl,↓awU,awV,awF,Qa,Qb,Qc,Qd,forall_const,↓reduceIte,↓reduceDIte,↓Qe,Qf,Qg,Qh,Qi,Qj,Qk,Ql,Qm,Qn,Qo,Qp,Qq,Qr,Qs,implies_true,Qt,Qu,Qv,Qw,Qx,Qy,Qz,QA,QB,QC,QD,QE,QF,QG,QH,QI,QJ,QK,QL,QM,QN,QO,QP,QQ]
       refine CallC.pure (plus_spec (decNum (L.take i)*10) ((L.getD i 0).toNat - 48) (by omega) (by omega)) ?_
       rw [hp]
       simp (config:={maxSteps:=1000000}) (disch:=((try simp only [awL]);omega)) only [hG,QR,QS,QT,QU,QV,QW,QX,QY,QZ,Q0,Q1,Q2,nl,↓awU,awV,awF,Qa,Qb,Qc,Qd,forall_const,↓reduceIte,↓reduceDIte,↓Qe,Qf,Qg,Qh,Qi,Qj,Qk,Ql,Qm,Qn,Qo,Qp,Qq,Qr,Qs,implies_true,Qt,Qu,Qv,Qw,Qx,Qy,Qz,QA,QB,QC,QD,QE,QF,QG,QH,QI,QJ,QK,QL,QM,QN,QO,QP,QQ]
       exact ⟨i+1,h1,by simp only;omega,⟨[some 0,some 1,some 2],rfl,by simp,by simp [setsA,keepA,SWeak,AWeak],by simp [HWeak,BWeak,SWeak,AWeak]⟩⟩
      ·obtain rfl:i=L.length:=by omega
       rw [List.take_length] at *
       simp (config:={maxSteps:=1000000}) (disch:=((try simp only [awL]);omega)) only [hG,QR,QS,QT,QU,QV,QW,QX,QY,QZ,Q0,Q1,Q2,nl,↓awU,awV,awF,Qa,Qb,Qc,Qd,forall_const,↓reduceIte,↓reduceDIte,↓Qe,Qf,Qg,Qh,Qi,Qj,Qk,Ql,Qm,Qn,Qo,Qp,Qq,Qr,Qs,implies_true,Qt,Qu,Qv,Qw,Qx,Qy,Qz,QA,QB,QC,QD,QE,QF,QG,QH,QI,QJ,QK,QL,QM,QN,QO,QP,QQ]
       refine LoopC.fr 9223372036854777380 (α:=Nat) (fun j=>(decB s).length - j) (fun j=>[(11,.d (W (toW (10 ^ j)))),(64,.d (.int .i64 j))])
        (fun _=>[.box [.d (.bool false),.d (.sl 0 true []),.d (.bool false),.d (.sl 0 true [])],.row true (nats .u32 [10]),.row false (ints .u8 (nums L))]) (fun j=>j≤(decB s).length) 0 (Nat.zero_le _) ?_ ?_
       ·exact ⟨[some 0,some 1,some 2],rfl,by simp,by simp [setsA,keepA,SWeak,AWeak,toW_one],by simp [HWeak,BWeak,SWeak,AWeak,nats]⟩
       ·intro j hj
        have lj:(toW (10 ^ j)).length≤10:=sz_small (Nat.pow_lt_pow_right (by decide) (by omega))
        simp only [awK,Nat.reduceMod,Nat.reduceDiv,reduceIte]
        rcases Nat.lt_or_ge j (decB s).length with h2 | h2
        ·simp (config:={maxSteps:=1000000}) (disch:=((try simp only [awL]);omega)) only [hG,QR,QS,QT,QU,QV,QW,QX,QY,QZ,Q0,Q1,Q2,↓awU,awV,awF,Qa,Qb,Qc,Qd,forall_const,↓reduceIte,↓reduceDIte,↓Qe,Qf,Qg,Qh,Qi,Qj,Qk,Ql,Qm,Qn,Qo,Qp,Qq,Qr,Qs,implies_true,Qt,Qu,Qv,Qw,Qx,Qy,Qz,QA,QB,QC,QD,QE,QF,QG,QH,QI,QJ,QK,QL,QM,QN,QO,QP,QQ]
         refine CallC.frozenE (times_spec (10 ^ j) 10 (by omega) (by rw [toW_10];decide)) (by rw [toW_10];rfl) ?_
         rw [← Nat.pow_succ]
         simp (config:={maxSteps:=1000000}) (disch:=((try simp only [awL]);omega)) only [hG,QR,QS,QT,QU,QV,QW,QX,QY,QZ,Q0,Q1,Q2,↓awU,awV,awF,Qa,Qb,Qc,Qd,forall_const,↓reduceIte,↓reduceDIte,↓Qe,Qf,Qg,Qh,Qi,Qj,Qk,Ql,Qm,Qn,Qo,Qp,Qq,Qr,Qs,implies_true,Qt,Qu,Qv,Qw,Qx,Qy,Qz,QA,QB,QC,QD,QE,QF,QG,QH,QI,QJ,QK,QL,QM,QN,QO,QP,QQ]
         exact ⟨j+1,h2,by simp only;omega,⟨[some 0,some 1,some 2],rfl,by simp,by simp [setsA,keepA,SWeak,AWeak],by simp [HWeak,BWeak,SWeak,AWeak]⟩⟩
        ·obtain rfl:j=(decB s).length:=by omega
         have hd0:((10 ^ (decB s).length:Nat):Int)≠0:=by
          have:0<10 ^ (decB s).length:=Nat.pow_pos (by decide)
          omega
         simp (config:={maxSteps:=1000000}) (disch:=((try simp only [awL]);omega)) only [hG,QR,QS,QT,QU,QV,QW,QX,QY,QZ,Q0,Q1,Q2,↓awU,awV,awF,Qa,Qb,Qc,Qd,forall_const,↓reduceIte,↓reduceDIte,↓Qe,Qf,Qg,Qh,Qi,Qj,Qk,Ql,Qm,Qn,Qo,Qp,Qq,Qr,Qs,implies_true,Qt,Qu,Qv,Qw,Qx,Qy,Qz,QA,QB,QC,QD,QE,QF,QG,QH,QI,QJ,QK,QL,QM,QN,QO,QP,QQ]
         refine CallC.pure (signed_spec false (decNum L) (by omega)) ?_
         simp (config:={maxSteps:=1000000}) (disch:=((try simp only [awL]);omega)) only [hG,QR,QS,QT,QU,QV,QW,QX,QY,QZ,Q0,Q1,Q2,↓awU,awV,awF,Qa,Qb,Qc,Qd,forall_const,↓reduceIte,↓reduceDIte,↓Qe,Qf,Qg,Qh,Qi,Qj,Qk,Ql,Qm,Qn,Qo,Qp,Qq,Qr,Qs,implies_true,Qt,Qu,Qv,Qw,Qx,Qy,Qz,QA,QB,QC,QD,QE,QF,QG,QH,QI,QJ,QK,QL,QM,QN,QO,QP,QQ]
         refine CallC.pure (signed_spec false (10 ^ (decB s).length) (by omega)) ?_
         simp (config:={maxSteps:=1000000}) (disch:=((try simp only [awL]);omega)) only [hG,QR,QS,QT,QU,QV,QW,QX,QY,QZ,Q0,Q1,Q2,↓awU,awV,awF,Qa,Qb,Qc,Qd,forall_const,↓reduceIte,↓reduceDIte,↓Qe,Qf,Qg,Qh,Qi,Qj,Qk,Ql,Qm,Qn,Qo,Qp,Qq,Qr,Qs,implies_true,Qt,Qu,Qv,Qw,Qx,Qy,Qz,QA,QB,QC,QD,QE,QF,QG,QH,QI,QJ,QK,QL,QM,QN,QO,QP,QQ]
         refine CallC.of (reduced_spec (if false=true then -(decNum L:Int) else (decNum L:Int)) ((10 ^ (decB s).length:Nat):Int) hd0 (by simp only [sz];split<;>simp<;>omega) (by simp only [sz,Int.natAbs_natCast];omega)) (by rfl) ?_
         rw [← hdv]
         simp (config:={maxSteps:=1000000}) (disch:=((try simp only [awL]);omega)) only [hG,QR,QS,QT,QU,QV,QW,QX,QY,QZ,Q0,Q1,Q2,↓awU,awV,awF,Qa,Qb,Qc,Qd,forall_const,↓reduceIte,↓reduceDIte,↓Qe,Qf,Qg,Qh,Qi,Qj,Qk,Ql,Qm,Qn,Qo,Qp,Qq,Qr,Qs,implies_true,Qt,Qu,Qv,Qw,Qx,Qy,Qz,QA,QB,QC,QD,QE,QF,QG,QH,QI,QJ,QK,QL,QM,QN,QO,QP,QQ]
         first | done | rfl
 ·have eb:s.drop 1=decBody s:=by rw [decBody,h45];rfl
  have en:decNeg s=true:=h45
  rw [en] at hdv
  simp (config:={maxSteps:=1000000}) (disch:=((try simp only [awL]);omega)) only [QR,QS,QT,QU,QV,QW,QX,QY,QZ,Q0,Q1,Q2,eb,↓awU,awV,awF,Qa,Qb,Qc,Qd,forall_const,↓reduceIte,↓reduceDIte,↓Qe,Qf,Qg,Qh,Qi,Qj,Qk,Ql,Qm,Qn,Qo,Qp,Qq,Qr,Qs,implies_true,Qt,Qu,Qv,Qw,Qx,Qy,Qz,QA,QB,QC,QD,QE,QF,QG,QH,QI,QJ,QK,QL,QM,QN,QO,QP,QQ]
  refine CallC.pure (cut_spec (decBody s) 46 (by omega)) ?_
  rw [f1,f2]
  simp (config:={maxSteps:=1000000}) (disch:=((try simp only [awL]);omega)) only [QR,QS,QT,QU,QV,QW,QX,QY,QZ,Q0,Q1,Q2,↓awU,awV,awF,Qa,Qb,Qc,Qd,forall_const,↓reduceIte,↓reduceDIte,↓Qe,Qf,Qg,Qh,Qi,Qj,Qk,Ql,Qm,Qn,Qo,Qp,Qq,Qr,Qs,implies_true,Qt,Qu,Qv,Qw,Qx,Qy,Qz,QA,QB,QC,QD,QE,QF,QG,QH,QI,QJ,QK,QL,QM,QN,QO,QP,QQ]
  refine CallC.pure (digits_spec (decF s) 15 (by omega)) ?_
  cases d1:digB (decF s) 15
  ·rw [hok,d1,Bool.false_and]
   simp (config:={maxSteps:=1000000}) (disch:=((try simp only [awL]);omega)) only [QR,QS,QT,QU,QV,QW,QX,QY,QZ,Q0,Q1,Q2,↓awU,awV,awF,Qa,Qb,Qc,Qd,forall_const,↓reduceIte,↓reduceDIte,↓Qe,Qf,Qg,Qh,Qi,Qj,Qk,Ql,Qm,Qn,Qo,Qp,Qq,Qr,Qs,implies_true,Qt,Qu,Qv,Qw,Qx,Qy,Qz,QA,QB,QC,QD,QE,QF,QG,QH,QI,QJ,QK,QL,QM,QN,QO,QP,QQ]
   first | done | rfl
  ·rw [d1,Bool.true_and] at hok
   cases dp:decide (46∈decBody s)
   ·rw [dp,Bool.not_false,Bool.true_or] at hok
    obtain ⟨hall,hlen,hlb⟩:=decOk_facts hok
    have hsm:∀ i,i≤(decF s++decB s).length→(toW (decNum ((decF s++decB s).take i))).length≤30:=fun i hi=>by
     have h:=decNum_lt (l:=(decF s++decB s).take i) fun b hb=>hall b (List.mem_of_mem_take hb)
     exact sz_small (Nat.lt_of_lt_of_le h (Nat.pow_le_pow_right (by decide) (by rw [List.length_take];omega)))
    have hlt:∀ i,i≤(decF s++decB s).length→decNum ((decF s++decB s).take i)*10<10 ^ 30:=fun i hi=>by
     have h:=decNum_lt (l:=(decF s++decB s).take i) fun b hb=>hall b (List.mem_of_mem_take hb)
     have h2:10 ^ ((decF s++decB s).take i).length≤10 ^ 29:=Nat.pow_le_pow_right (by decide) (by rw [List.length_take];omega)
     have h3:(10:Nat) ^ 30=10 ^ 29*10:=rfl
     omega
    rw [if_pos hok,hok]
    generalize hL:decF s++decB s=L at *
    simp (config:={maxSteps:=1000000}) (disch:=((try simp only [awL]);omega)) only [hG,QR,QS,QT,QU,QV,QW,QX,QY,QZ,Q0,Q1,Q2,↓awU,awV,awF,Qa,Qb,Qc,Qd,forall_const,↓reduceIte,↓reduceDIte,↓Qe,Qf,Qg,Qh,Qi,Qj,Qk,Ql,Qm,Qn,Qo,Qp,Qq,Qr,Qs,implies_true,Qt,Qu,Qv,Qw,Qx,Qy,Qz,QA,QB,QC,QD,QE,QF,QG,QH,QI,QJ,QK,QL,QM,QN,QO,QP,QQ]
    refine CallC.of (clone_spec [1] (by decide)) (by rfl) ?_
    simp (config:={maxSteps:=1000000}) (disch:=((try simp only [awL]);omega)) only [hG,QR,QS,QT,QU,QV,QW,QX,QY,QZ,Q0,Q1,Q2,hL,cells_nums,↓awU,awV,awF,Qa,Qb,Qc,Qd,forall_const,↓reduceIte,↓reduceDIte,↓Qe,Qf,Qg,Qh,Qi,Qj,Qk,Ql,Qm,Qn,Qo,Qp,Qq,Qr,Qs,implies_true,Qt,Qu,Qv,Qw,Qx,Qy,Qz,QA,QB,QC,QD,QE,QF,QG,QH,QI,QJ,QK,QL,QM,QN,QO,QP,QQ]
    refine LoopC.fr 422212465069220 (α:=Nat) (fun i=>L.length - i) (fun i=>[(9,.d (W (toW (decNum (L.take i))))),(49,.d (.int .i64 i))])
     (fun _=>[.box [.d (.bool false),.d (.sl 0 true []),.d (.bool false),.d (.sl 0 true [])],.row true (nats .u32 [10]),.row false (ints .u8 (nums L))]) (fun i=>i≤L.length) 0 (Nat.zero_le _) ?_ ?_
    ·exact ⟨[some 0,some 1,some 2],rfl,by simp,by simp [setsA,keepA,SWeak,AWeak,decNum,toW_zero,nats],by simp [HWeak,BWeak,SWeak,AWeak,nats]⟩
    ·intro i hi
     have lt:=hsm i hi
     have nl:=@nums_length L
     simp only [awK,Nat.reduceMod,Nat.reduceDiv,reduceIte]
     rcases Nat.lt_or_ge i L.length with h1 | h1
     ·have hb:=dig_range (hall _ (mem_getDU (d:=0) h1))
      have hp:=decNum_push h1
      have ls:=sz_small (n:=(L.getD i 0).toNat - 48) (k:=2) (by omega)
      have e48:((L.getD i 0).toNat:Int) - 48=(((L.getD i 0).toNat - 48:Nat):Int):=by omega
      have lm:(toW (decNum (L.take i)*10)).length≤40:=sz_small (Nat.lt_of_lt_of_le (hlt i hi) (by decide))
      simp (config:={maxSteps:=1000000}) (disch:=((try simp only [awL]);omega)) only [hG,QR,QS,QT,QU,QV,QW,QX,QY,QZ,Q0,Q1,Q2,nl,↓awU,awV,awF,Qa,Qb,Qc,Qd,forall_const,↓reduceIte,↓reduceDIte,↓Qe,Qf,Qg,Qh,Qi,Qj,Qk,Ql,Qm,Qn,Qo,Qp,Qq,Qr,Qs,implies_true,Qt,Qu,Qv,Qw,Qx,Qy,Qz,QA,QB,QC,QD,QE,QF,QG,QH,QI,QJ,QK,QL,QM,QN,QO,QP,QQ]
      refine CallC.frozenE (times_spec (decNum (L.take i)) 10 (by omega) (by rw [toW_10];decide)) (by rw [toW_10];rfl) ?_
      simp (config:={maxSteps:=1000000}) (disch:=((try simp only [awL]);omega)) only [hG,QR,QS,QT,QU,QV,QW,QX,QY,QZ,Q0,Q1,Q2,nl,e48,↓awU,awV,awF,Qa,Qb,Qc,Qd,forall_const,↓reduceIte,↓reduceDIte,↓Qe,Qf,Qg,Qh,Qi,Qj,Qk,Ql,Qm,Qn,Qo,Qp,Qq,Qr,Qs,implies_true,Qt,Qu,Qv,Qw,Qx,Qy,Qz,QA,QB,QC,QD,QE,QF,QG,QH,QI,QJ,QK,QL,QM,QN,QO,QP,QQ]
      refine CallC.pure (natural_spec ((L.getD i 0).toNat - 48) (by omega)) ?_
      simp (config:={maxSteps:=1000000}) (disch:=((try simp only [awL]);omega)) only [hG,QR,QS,QT,QU,QV,QW,QX,QY,QZ,Q0,Q1,Q2,nl,↓awU,awV,awF,Qa,Qb,Qc,Qd,forall_const,↓reduceIte,↓reduceDIte,↓Qe,Qf,Qg,Qh,Qi,Qj,Qk,Ql,Qm,Qn,Qo,Qp,Qq,Qr,Qs,implies_true,Qt,Qu,Qv,Qw,Qx,Qy,Qz,QA,QB,QC,QD,QE,QF,QG,QH,QI,QJ,QK,QL,QM,QN,QO,QP,QQ]
      refine CallC.pure (plus_spec (decNum (L.take i)*10) ((L.getD i 0).toNat - 48) (by omega) (by omega)) ?_
      rw [hp]
      simp (config:={maxSteps:=1000000}) (disch:=((try simp only [awL]);omega)) only [hG,QR,QS,QT,QU,QV,QW,QX,QY,QZ,Q0,Q1,Q2,nl,↓awU,awV,awF,Qa,Qb,Qc,Qd,forall_const,↓reduceIte,↓reduceDIte,↓Qe,Qf,Qg,Qh,Qi,Qj,Qk,Ql,Qm,Qn,Qo,Qp,Qq,Qr,Qs,implies_true,Qt,Qu,Qv,Qw,Qx,Qy,Qz,QA,QB,QC,QD,QE,QF,QG,QH,QI,QJ,QK,QL,QM,QN,QO,QP,QQ]
      exact ⟨i+1,h1,by simp only;omega,⟨[some 0,some 1,some 2],rfl,by simp,by simp [setsA,keepA,SWeak,AWeak],by simp [HWeak,BWeak,SWeak,AWeak]⟩⟩
     ·obtain rfl:i=L.length:=by omega
      rw [List.take_length] at *
      simp (config:={maxSteps:=1000000}) (disch:=((try simp only [awL]);omega)) only [hG,QR,QS,QT,QU,QV,QW,QX,QY,QZ,Q0,Q1,Q2,nl,↓awU,awV,awF,Qa,Qb,Qc,Qd,forall_const,↓reduceIte,↓reduceDIte,↓Qe,Qf,Qg,Qh,Qi,Qj,Qk,Ql,Qm,Qn,Qo,Qp,Qq,Qr,Qs,implies_true,Qt,Qu,Qv,Qw,Qx,Qy,Qz,QA,QB,QC,QD,QE,QF,QG,QH,QI,QJ,QK,QL,QM,QN,QO,QP,QQ]
      refine LoopC.fr 9223372036854777380 (α:=Nat) (fun j=>(decB s).length - j) (fun j=>[(11,.d (W (toW (10 ^ j)))),(64,.d (.int .i64 j))])
       (fun _=>[.box [.d (.bool false),.d (.sl 0 true []),.d (.bool false),.d (.sl 0 true [])],.row true (nats .u32 [10]),.row false (ints .u8 (nums L))]) (fun j=>j≤(decB s).length) 0 (Nat.zero_le _) ?_ ?_
      ·exact ⟨[some 0,some 1,some 2],rfl,by simp,by simp [setsA,keepA,SWeak,AWeak,toW_one],by simp [HWeak,BWeak,SWeak,AWeak,nats]⟩
      ·intro j hj
       have lj:(toW (10 ^ j)).length≤10:=sz_small (Nat.pow_lt_pow_right (by decide) (by omega))
       simp only [awK,Nat.reduceMod,Nat.reduceDiv,reduceIte]
       rcases Nat.lt_or_ge j (decB s).length with h2 | h2
       ·simp (config:={maxSteps:=1000000}) (disch:=((try simp only [awL]);omega)) only [hG,QR,QS,QT,QU,QV,QW,QX,QY,QZ,Q0,Q1,Q2,↓awU,awV,awF,Qa,Qb,Qc,Qd,forall_const,↓reduceIte,↓reduceDIte,↓Qe,Qf,Qg,Qh,Qi,Qj,Qk,Ql,Qm,Qn,Qo,Qp,Qq,Qr,Qs,implies_true,Qt,Qu,Qv,Qw,Qx,Qy,Qz,QA,QB,QC,QD,QE,QF,QG,QH,QI,QJ,QK,QL,QM,QN,QO,QP,QQ]
        refine CallC.frozenE (times_spec (10 ^ j) 10 (by omega) (by rw [toW_10];decide)) (by rw [toW_10];rfl) ?_
        rw [← Nat.pow_succ]
        simp (config:={maxSteps:=1000000}) (disch:=((try simp only [awL]);omega)) only [hG,QR,QS,QT,QU,QV,QW,QX,QY,QZ,Q0,Q1,Q2,↓awU,awV,awF,Qa,Qb,Qc,Qd,forall_const,↓reduceIte,↓reduceDIte,↓Qe,Qf,Qg,Qh,Qi,Qj,Qk,Ql,Qm,Qn,Qo,Qp,Qq,Qr,Qs,implies_true,Qt,Qu,Qv,Qw,Qx,Qy,Qz,QA,QB,QC,QD,QE,QF,QG,QH,QI,QJ,QK,QL,QM,QN,QO,QP,QQ]
        exact ⟨j+1,h2,by simp only;omega,⟨[some 0,some 1,some 2],rfl,by simp,by simp [setsA,keepA,SWeak,AWeak],by simp [HWeak,BWeak,SWeak,AWeak]⟩⟩
       ·obtain rfl:j=(decB s).length:=by omega
        have hd0:((10 ^ (decB s).length:Nat):Int)≠0:=by
         have:0<10 ^ (decB s).length:=Nat.pow_pos (by decide)
         omega
        simp (config:={maxSteps:=1000000}) (disch:=((try simp only [awL]);omega)) only [hG,QR,QS,QT,QU,QV,QW,QX,QY,QZ,Q0,Q1,Q2,↓awU,awV,awF,Qa,Qb,Qc,Qd,forall_const,↓reduceIte,↓reduceDIte,↓Qe,Qf,Qg,Qh,Qi,Qj,Qk,Ql,Qm,Qn,Qo,Qp,Qq,Qr,Qs,implies_true,Qt,Qu,Qv,Qw,Qx,Qy,Qz,QA,QB,QC,QD,QE,QF,QG,QH,QI,QJ,QK,QL,QM,QN,QO,QP,QQ]
        refine CallC.pure (signed_spec true (decNum L) (by omega)) ?_
        simp (config:={maxSteps:=1000000}) (disch:=((try simp only [awL]);omega)) only [hG,QR,QS,QT,QU,QV,QW,QX,QY,QZ,Q0,Q1,Q2,↓awU,awV,awF,Qa,Qb,Qc,Qd,forall_const,↓reduceIte,↓reduceDIte,↓Qe,Qf,Qg,Qh,Qi,Qj,Qk,Ql,Qm,Qn,Qo,Qp,Qq,Qr,Qs,implies_true,Qt,Qu,Qv,Qw,Qx,Qy,Qz,QA,QB,QC,QD,QE,QF,QG,QH,QI,QJ,QK,QL,QM,QN,QO,QP,QQ]
        refine CallC.pure (signed_spec false (10 ^ (decB s).length) (by omega)) ?_
        simp (config:={maxSteps:=1000000}) (disch:=((try simp only [awL]);omega)) only [hG,QR,QS,QT,QU,QV,QW,QX,QY,QZ,Q0,Q1,Q2,↓awU,awV,awF,Qa,Qb,Qc,Qd,forall_const,↓reduceIte,↓reduceDIte,↓Qe,Qf,Qg,Qh,Qi,Qj,Qk,Ql,Qm,Qn,Qo,Qp,Qq,Qr,Qs,implies_true,Qt,Qu,Qv,Qw,Qx,Qy,Qz,QA,QB,QC,QD,QE,QF,QG,QH,QI,QJ,QK,QL,QM,QN,QO,QP,QQ]
        refine CallC.of (reduced_spec (if true=true then -(decNum L:Int) else (decNum L:Int)) ((10 ^ (decB s).length:Nat):Int) hd0 (by simp only [sz];split<;>simp<;>omega) (by simp only [sz,Int.natAbs_natCast];omega)) (by rfl) ?_
        rw [← hdv]
        simp (config:={maxSteps:=1000000}) (disch:=((try simp only [awL]);omega)) only [hG,QR,QS,QT,QU,QV,QW,QX,QY,QZ,Q0,Q1,Q2,↓awU,awV,awF,Qa,Qb,Qc,Qd,forall_const,↓reduceIte,↓reduceDIte,↓Qe,Qf,Qg,Qh,Qi,Qj,Qk,Ql,Qm,Qn,Qo,Qp,Qq,Qr,Qs,implies_true,Qt,Qu,Qv,Qw,Qx,Qy,Qz,QA,QB,QC,QD,QE,QF,QG,QH,QI,QJ,QK,QL,QM,QN,QO,QP,QQ]
        first | done | rfl
   ·rw [dp,Bool.not_true,Bool.false_or] at hok
    simp (config:={maxSteps:=1000000}) (disch:=((try simp only [awL]);omega)) only [QR,QS,QT,QU,QV,QW,QX,QY,QZ,Q0,Q1,Q2,↓awU,awV,awF,Qa,Qb,Qc,Qd,forall_const,↓reduceIte,↓reduceDIte,↓Qe,Qf,Qg,Qh,Qi,Qj,Qk,Ql,Qm,Qn,Qo,Qp,Qq,Qr,Qs,implies_true,Qt,Qu,Qv,Qw,Qx,Qy,Qz,QA,QB,QC,QD,QE,QF,QG,QH,QI,QJ,QK,QL,QM,QN,QO,QP,QQ]
    refine CallC.pure (digits_spec (decB s) 9 (by omega)) ?_
    cases d2:digB (decB s) 9
    ·rw [hok,d2]
     simp (config:={maxSteps:=1000000}) (disch:=((try simp only [awL]);omega)) only [QR,QS,QT,QU,QV,QW,QX,QY,QZ,Q0,Q1,Q2,↓awU,awV,awF,Qa,Qb,Qc,Qd,forall_const,↓reduceIte,↓reduceDIte,↓Qe,Qf,Qg,Qh,Qi,Qj,Qk,Ql,Qm,Qn,Qo,Qp,Qq,Qr,Qs,implies_true,Qt,Qu,Qv,Qw,Qx,Qy,Qz,QA,QB,QC,QD,QE,QF,QG,QH,QI,QJ,QK,QL,QM,QN,QO,QP,QQ]
     first | done | rfl
    ·rw [d2] at hok
     obtain ⟨hall,hlen,hlb⟩:=decOk_facts hok
     have hsm:∀ i,i≤(decF s++decB s).length→(toW (decNum ((decF s++decB s).take i))).length≤30:=fun i hi=>by
      have h:=decNum_lt (l:=(decF s++decB s).take i) fun b hb=>hall b (List.mem_of_mem_take hb)
      exact sz_small (Nat.lt_of_lt_of_le h (Nat.pow_le_pow_right (by decide) (by rw [List.length_take];omega)))
     have hlt:∀ i,i≤(decF s++decB s).length→decNum ((decF s++decB s).take i)*10<10 ^ 30:=fun i hi=>by
      have h:=decNum_lt (l:=(decF s++decB s).take i) fun b hb=>hall b (List.mem_of_mem_take hb)
      have h2:10 ^ ((decF s++decB s).take i).length≤10 ^ 29:=Nat.pow_le_pow_right (by decide) (by rw [List.length_take];omega)
      have h3:(10:Nat) ^ 30=10 ^ 29*10:=rfl
      omega
     rw [if_pos hok,hok]
     generalize hL:decF s++decB s=L at *
     simp (config:={maxSteps:=1000000}) (disch:=((try simp only [awL]);omega)) only [hG,QR,QS,QT,QU,QV,QW,QX,QY,QZ,Q0,Q1,Q2,↓awU,awV,awF,Qa,Qb,Qc,Qd,forall_const,↓reduceIte,↓reduceDIte,↓Qe,Qf,Qg,Qh,Qi,Qj,Qk,Ql,Qm,Qn,Qo,Qp,Qq,Qr,Qs,implies_true,Qt,Qu,Qv,Qw,Qx,Qy,Qz,QA,QB,QC,QD,QE,QF,QG,QH,QI,QJ,QK,QL,QM,QN,QO,QP,QQ]
     refine CallC.of (clone_spec [1] (by decide)) (by rfl) ?_
     simp (config:={maxSteps:=1000000}) (disch:=((try simp only [awL]);omega)) only [hG,QR,QS,QT,QU,QV,QW,QX,QY,QZ,Q0,Q1,Q2,hL,cells_nums,↓awU,awV,awF,Qa,Qb,Qc,Qd,forall_const,↓reduceIte,↓reduceDIte,↓Qe,Qf,Qg,Qh,Qi,Qj,Qk,Ql,Qm,Qn,Qo,Qp,Qq,Qr,Qs,implies_true,Qt,Qu,Qv,Qw,Qx,Qy,Qz,QA,QB,QC,QD,QE,QF,QG,QH,QI,QJ,QK,QL,QM,QN,QO,QP,QQ]
     refine LoopC.fr 422212465069220 (α:=Nat) (fun i=>L.length - i) (fun i=>[(9,.d (W (toW (decNum (L.take i))))),(49,.d (.int .i64 i))])
      (fun _=>[.box [.d (.bool false),.d (.sl 0 true []),.d (.bool false),.d (.sl 0 true [])],.row true (nats .u32 [10]),.row false (ints .u8 (nums L))]) (fun i=>i≤L.length) 0 (Nat.zero_le _) ?_ ?_
     ·exact ⟨[some 0,some 1,some 2],rfl,by simp,by simp [setsA,keepA,SWeak,AWeak,decNum,toW_zero,nats],by simp [HWeak,BWeak,SWeak,AWeak,nats]⟩
     ·intro i hi
      have lt:=hsm i hi
      have nl:=@nums_length L
      simp only [awK,Nat.reduceMod,Nat.reduceDiv,reduceIte]
      rcases Nat.lt_or_ge i L.length with h1 | h1
      ·have hb:=dig_range (hall _ (mem_getDU (d:=0) h1))
       have hp:=decNum_push h1
       have ls:=sz_small (n:=(L.getD i 0).toNat - 48) (k:=2) (by omega)
       have e48:((L.getD i 0).toNat:Int) - 48=(((L.getD i 0).toNat - 48:Nat):Int):=by omega
       have lm:(toW (decNum (L.take i)*10)).length≤40:=sz_small (Nat.lt_of_lt_of_le (hlt i hi) (by decide))
       simp (config:={maxSteps:=1000000}) (disch:=((try simp only [awL]);omega)) only [hG,QR,QS,QT,QU,QV,QW,QX,QY,QZ,Q0,Q1,Q2,nl,↓awU,awV,awF,Qa,Qb,Qc,Qd,forall_const,↓reduceIte,↓reduceDIte,↓Qe,Qf,Qg,Qh,Qi,Qj,Qk,Ql,Qm,Qn,Qo,Qp,Qq,Qr,Qs,implies_true,Qt,Qu,Qv,Qw,Qx,Qy,Qz,QA,QB,QC,QD,QE,QF,QG,QH,QI,QJ,QK,QL,QM,QN,QO,QP,QQ]
       refine CallC.frozenE (times_spec (decNum (L.take i)) 10 (by omega) (by rw [toW_10];decide)) (by rw [toW_10];rfl) ?_
       simp (config:={maxSteps:=1000000}) (disch:=((try simp only [awL]);omega)) only [hG,QR,QS,QT,QU,QV,QW,QX,QY,QZ,Q0,Q1,Q2,nl,e48,↓awU,awV,awF,Qa,Qb,Qc,Qd,forall_const,↓reduceIte,↓reduceDIte,↓Qe,Qf,Qg,Qh,Qi,Qj,Qk,Ql,Qm,Qn,Qo,Qp,Qq,Qr,Qs,implies_true,Qt,Qu,Qv,Qw,Qx,Qy,Qz,QA,QB,QC,QD,QE,QF,QG,QH,QI,QJ,QK,QL,QM,QN,QO,QP,QQ]
       refine CallC.pure (natural_spec ((L.getD i 0).toNat - 48) (by omega)) ?_
       simp (config:={maxSteps:=1000000}) (disch:=((try simp only [awL]);omega)) only [hG,QR,QS,QT,QU,QV,QW,QX,QY,QZ,Q0,Q1,Q2,nl,↓awU,awV,awF,Qa,Qb,Qc,Qd,forall_const,↓reduceIte,↓reduceDIte,↓Qe,Qf,Qg,Qh,Qi,Qj,Qk,Ql,Qm,Qn,Qo,Qp,Qq,Qr,Qs,implies_true,Qt,Qu,Qv,Qw,Qx,Qy,Qz,QA,QB,QC,QD,QE,QF,QG,QH,QI,QJ,QK,QL,QM,QN,QO,QP,QQ]
       refine CallC.pure (plus_spec (decNum (L.take i)*10) ((L.getD i 0).toNat - 48) (by omega) (by omega)) ?_
       rw [hp]
       simp (config:={maxSteps:=1000000}) (disch:=((try simp only [awL]);omega)) only [hG,QR,QS,QT,QU,QV,QW,QX,QY,QZ,Q0,Q1,Q2,nl,↓awU,awV,awF,Qa,Qb,Qc,Qd,forall_const,↓reduceIte,↓reduceDIte,↓Qe,Qf,Qg,Qh,Qi,Qj,Qk,Ql,Qm,Qn,Qo,Qp,Qq,Qr,Qs,implies_true,Qt,Qu,Qv,Qw,Qx,Qy,Qz,QA,QB,QC,QD,QE,QF,QG,QH,QI,QJ,QK,QL,QM,QN,QO,QP,QQ]
       exact ⟨i+1,h1,by simp only;omega,⟨[some 0,some 1,some 2],rfl,by simp,by simp [setsA,keepA,SWeak,AWeak],by simp [HWeak,BWeak,SWeak,AWeak]⟩⟩
      ·obtain rfl:i=L.length:=by omega
       rw [List.take_length] at *
       simp (config:={maxSteps:=1000000}) (disch:=((try simp only [awL]);omega)) only [hG,QR,QS,QT,QU,QV,QW,QX,QY,QZ,Q0,Q1,Q2,nl,↓awU,awV,awF,Qa,Qb,Qc,Qd,forall_const,↓reduceIte,↓reduceDIte,↓Qe,Qf,Qg,Qh,Qi,Qj,Qk,Ql,Qm,Qn,Qo,Qp,Qq,Qr,Qs,implies_true,Qt,Qu,Qv,Qw,Qx,Qy,Qz,QA,QB,QC,QD,QE,QF,QG,QH,QI,QJ,QK,QL,QM,QN,QO,QP,QQ]
       refine LoopC.fr 9223372036854777380 (α:=Nat) (fun j=>(decB s).length - j) (fun j=>[(11,.d (W (toW (10 ^ j)))),(64,.d (.int .i64 j))])
        (fun _=>[.box [.d (.bool false),.d (.sl 0 true []),.d (.bool false),.d (.sl 0 true [])],.row true (nats .u32 [10]),.row false (ints .u8 (nums L))]) (fun j=>j≤(decB s).length) 0 (Nat.zero_le _) ?_ ?_
       ·exact ⟨[some 0,some 1,some 2],rfl,by simp,by simp [setsA,keepA,SWeak,AWeak,toW_one],by simp [HWeak,BWeak,SWeak,AWeak,nats]⟩
       ·intro j hj
        have lj:(toW (10 ^ j)).length≤10:=sz_small (Nat.pow_lt_pow_right (by decide) (by omega))
        simp only [awK,Nat.reduceMod,Nat.reduceDiv,reduceIte]
        rcases Nat.lt_or_ge j (decB s).length with h2 | h2
        ·simp (config:={maxSteps:=1000000}) (disch:=((try simp only [awL]);omega)) only [hG,QR,QS,QT,QU,QV,QW,QX,QY,QZ,Q0,Q1,Q2,↓awU,awV,awF,Qa,Qb,Qc,Qd,forall_const,↓reduceIte,↓reduceDIte,↓Qe,Qf,Qg,Qh,Qi,Qj,Qk,Ql,Qm,Qn,Qo,Qp,Qq,Qr,Qs,implies_true,Qt,Qu,Qv,Qw,Qx,Qy,Qz,QA,QB,QC,QD,QE,QF,QG,QH,QI,QJ,QK,QL,QM,QN,QO,QP,QQ]
         refine CallC.frozenE (times_spec (10 ^ j) 10 (by omega) (by rw [toW_10];decide)) (by rw [toW_10];rfl) ?_
         rw [← Nat.pow_succ]
         simp (config:={maxSteps:=1000000}) (disch:=((try simp only [awL]);omega)) only [hG,QR,QS,QT,QU,QV,QW,QX,QY,QZ,Q0,Q1,Q2,↓awU,awV,awF,Qa,Qb,Qc,Qd,forall_const,↓reduceIte,↓reduceDIte,↓Qe,Qf,Qg,Qh,Qi,Qj,Qk,Ql,Qm,Qn,Qo,Qp,Qq,Qr,Qs,implies_true,Qt,Qu,Qv,Qw,Qx,Qy,Qz,QA,QB,QC,QD,QE,QF,QG,QH,QI,QJ,QK,QL,QM,QN,QO,QP,QQ]
         exact ⟨j+1,h2,by simp only;omega,⟨[some 0,some 1,some 2],rfl,by simp,by simp [setsA,keepA,SWeak,AWeak],by simp [HWeak,BWeak,SWeak,AWeak]⟩⟩
        ·obtain rfl:j=(decB s).length:=by omega
         have hd0:((10 ^ (decB s).length:Nat):Int)≠0:=by
          have:0<10 ^ (decB s).length:=Nat.pow_pos (by decide)
          omega
         simp (config:={maxSteps:=1000000}) (disch:=((try simp only [awL]);omega)) only [hG,QR,QS,QT,QU,QV,QW,QX,QY,QZ,Q0,Q1,Q2,↓awU,awV,awF,Qa,Qb,Qc,Qd,forall_const,↓reduceIte,↓reduceDIte,↓Qe,Qf,Qg,Qh,Qi,Qj,Qk,Ql,Qm,Qn,Qo,Qp,Qq,Qr,Qs,implies_true,Qt,Qu,Qv,Qw,Qx,Qy,Qz,QA,QB,QC,QD,QE,QF,QG,QH,QI,QJ,QK,QL,QM,QN,QO,QP,QQ]
         refine CallC.pure (signed_spec true (decNum L) (by omega)) ?_
         simp (config:={maxSteps:=1000000}) (disch:=((try simp only [awL]);omega)) only [hG,QR,QS,QT,QU,QV,QW,QX,QY,QZ,Q0,Q1,Q2,↓awU,awV,awF,Qa,Qb,Qc,Qd,forall_const,↓reduceIte,↓reduceDIte,↓Qe,Qf,Qg,Qh,Qi,Qj,Qk,Ql,Qm,Qn,Qo,Qp,Qq,Qr,Qs,implies_true,Qt,Qu,Qv,Qw,Qx,Qy,Qz,QA,QB,QC,QD,QE,QF,QG,QH,QI,QJ,QK,QL,QM,QN,QO,QP,QQ]
         refine CallC.pure (signed_spec false (10 ^ (decB s).length) (by omega)) ?_
         simp (config:={maxSteps:=1000000}) (disch:=((try simp only [awL]);omega)) only [hG,QR,QS,QT,QU,QV,QW,QX,QY,QZ,Q0,Q1,Q2,↓awU,awV,awF,Qa,Qb,Qc,Qd,forall_const,↓reduceIte,↓reduceDIte,↓Qe,Qf,Qg,Qh,Qi,Qj,Qk,Ql,Qm,Qn,Qo,Qp,Qq,Qr,Qs,implies_true,Qt,Qu,Qv,Qw,Qx,Qy,Qz,QA,QB,QC,QD,QE,QF,QG,QH,QI,QJ,QK,QL,QM,QN,QO,QP,QQ]
         refine CallC.of (reduced_spec (if true=true then -(decNum L:Int) else (decNum L:Int)) ((10 ^ (decB s).length:Nat):Int) hd0 (by simp only [sz];split<;>simp<;>omega) (by simp only [sz,Int.natAbs_natCast];omega)) (by rfl) ?_
         rw [← hdv]
         simp (config:={maxSteps:=1000000}) (disch:=((try simp only [awL]);omega)) only [hG,QR,QS,QT,QU,QV,QW,QX,QY,QZ,Q0,Q1,Q2,↓awU,awV,awF,Qa,Qb,Qc,Qd,forall_const,↓reduceIte,↓reduceDIte,↓Qe,Qf,Qg,Qh,Qi,Qj,Qk,Ql,Qm,Qn,Qo,Qp,Qq,Qr,Qs,implies_true,Qt,Qu,Qv,Qw,Qx,Qy,Qz,QA,QB,QC,QD,QE,QF,QG,QH,QI,QJ,QK,QL,QM,QN,QO,QP,QQ]
         first | done | rfl
end Go.Proofs.YtkgbbdoeodmkgaaGreatDoor.Num
