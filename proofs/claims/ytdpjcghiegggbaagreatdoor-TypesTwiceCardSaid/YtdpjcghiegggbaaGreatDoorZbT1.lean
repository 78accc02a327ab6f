/-
  A world that lays the variables of typesTwice.
-/
import Derived.Test.YtdpjcghiegggbaaGreatDoorMb4
set_option linter.all false
open Go.Abs renaming ofVal→Qa,ofVal0→Qb,isShift→Qc,aggK→Qd,purePost→Qe,combine→Qf,idsA→Qg,cellsA→Qh,numsOf→Qi,srcA→Qj,calleeA→Qk,refsA→Ql,isScalar→Qm,scalarD→Qn,scalar0→Qo,putL→Qr,unfA→Qs,sidsB→QJ,keyKD→QL,isIntK→QM,aggD→QN,aggL→QO,eqKs→QP,boxRow→QQ,nextC_more→QT,nextC_over→QU,bs_size→QV,bs_extract→QW,bs_toList→QX,bs_append→QY,byteAt_bs→QZ,bs_cells→Q0,nums_length→Q1,nums_getD→Q2
open Go.Abs.AV renaming one→Qp
open Go.Abs.D renaming one→Qq
open Go.IntKind renaming signed→Qt
open Nat renaming reduceAdd→Qu,reduceSub→Qv,reduceMul→Qw,reducePow→Qx,reduceDiv→Qy,reduceMod→Qz,reduceEqDiff→QI,reduceBEq→QK
open Int renaming reduceAdd→QA,reduceSub→QB,reduceMul→QC,reducePow→QD,reduceNeg→QE,reduceToNat→QF,reduceLT→QG,reduceLE→QH
open Option renaming toList_some→QR,toList_none→QS
namespace Go.Proofs.YtdpjcghiegggbaaGreatDoor
open Go Go.Proofs Go.Abs Go.RowKit Go.ChangeShapes Go.WideShapes Go.ChangeAt
noncomputable def laidWorld_typesTwice (os:Os):World :=
 {World.holding Tryz.prog os ⟨#[.cells #[.string ⟨#[118,97,108,117,101,32,111,117,116,32,111,102,32,114,97,110,103,101]⟩] 224,.cells #[.string ⟨#[105,110,118,97,108,105,100,32,115,121,110,116,97,120]⟩] 224,.cells #[.int .u32 1] 106],#[],[]⟩ with heap:=(((((((((World.holding Tryz.prog os ⟨#[.cells #[.string ⟨#[118,97,108,117,101,32,111,117,116,32,111,102,32,114,97,110,103,101]⟩] 224,.cells #[.string ⟨#[105,110,118,97,108,105,100,32,115,121,110,116,97,120]⟩] 224,.cells #[.int .u32 1] 106],#[],[]⟩).heap.modify 9 fun
   | .cells _ t frozen=>.cells #[.int .u8 0,.int .u8 1,.int .u8 28,.int .u8 2,.int .u8 29,.int .u8 14,.int .u8 24,.int .u8 3,.int .u8 30,.int .u8 22,.int .u8 20,.int .u8 15,.int .u8 25,.int .u8 17,.int .u8 4,.int .u8 8,.int .u8 31,.int .u8 27,.int .u8 13,.int .u8 23,.int .u8 21,.int .u8 19,.int .u8 16,.int .u8 7,.int .u8 26,.int .u8 12,.int .u8 18,.int .u8 6,.int .u8 11,.int .u8 5,.int .u8 10,.int .u8 9] t frozen
   | o=>o).modify 10 fun
   | .cells _ t frozen=>.cells #[.int .u8 0,.int .u8 1,.int .u8 56,.int .u8 2,.int .u8 57,.int .u8 49,.int .u8 28,.int .u8 3,.int .u8 61,.int .u8 58,.int .u8 42,.int .u8 50,.int .u8 38,.int .u8 29,.int .u8 17,.int .u8 4,.int .u8 62,.int .u8 47,.int .u8 59,.int .u8 36,.int .u8 45,.int .u8 43,.int .u8 51,.int .u8 22,.int .u8 53,.int .u8 39,.int .u8 33,.int .u8 30,.int .u8 24,.int .u8 18,.int .u8 12,.int .u8 5,.int .u8 63,.int .u8 55,.int .u8 48,.int .u8 27,.int .u8 60,.int .u8 41,.int .u8 37,.int .u8 16,.int .u8 46,.int .u8 35,.int .u8 44,.int .u8 21,.int .u8 52,.int .u8 32,.int .u8 23,.int .u8 11,.int .u8 54,.int .u8 26,.int .u8 40,.int .u8 15,.int .u8 34,.int .u8 20,.int .u8 31,.int .u8 10,.int .u8 25,.int .u8 14,.int .u8 19,.int .u8 9,.int .u8 13,.int .u8 8,.int .u8 7,.int .u8 6] t frozen
   | o=>o).modify 2 fun
   | .cells _ t frozen=>.cells #[.int .u64 1,.int .u64 10,.int .u64 100,.int .u64 1000,.int .u64 10000,.int .u64 100000,.int .u64 1000000,.int .u64 10000000,.int .u64 100000000,.int .u64 1000000000,.int .u64 10000000000,.int .u64 100000000000,.int .u64 1000000000000,.int .u64 10000000000000,.int .u64 100000000000000,.int .u64 1000000000000000,.int .u64 10000000000000000,.int .u64 100000000000000000,.int .u64 1000000000000000000,.int .u64 10000000000000000000] t frozen
   | o=>o).modify 7 fun
   | .cells _ t frozen=>.cells #[.int .u8 128,.int .u8 191,.int .u8 160,.int .u8 191,.int .u8 128,.int .u8 159,.int .u8 144,.int .u8 191,.int .u8 128,.int .u8 143,.int .u8 0,.int .u8 0,.int .u8 0,.int .u8 0,.int .u8 0,.int .u8 0,.int .u8 0,.int .u8 0,.int .u8 0,.int .u8 0,.int .u8 0,.int .u8 0,.int .u8 0,.int .u8 0,.int .u8 0,.int .u8 0,.int .u8 0,.int .u8 0,.int .u8 0,.int .u8 0,.int .u8 0,.int .u8 0] t frozen
   | o=>o).modify 5 fun
   | .cells _ t frozen=>.cells #[.iface 222 (.pointer (some ⟨(World.settled Tryz.prog os).heap.size,0,none⟩))] t frozen
   | o=>o).modify 4 fun
   | .cells _ t frozen=>.cells #[.iface 222 (.pointer (some ⟨(World.settled Tryz.prog os).heap.size+1,0,none⟩))] t frozen
   | o=>o).modify 1 fun
   | .cells _ t frozen=>.cells #[.slice (some ⟨(World.settled Tryz.prog os).heap.size+2,0,none⟩) 1 1] t frozen
   | o=>o).modify 6 fun
   | .cells _ t frozen=>.cells (Go.Pinned.utf8FirstZ.map fun (n:Nat)=>Value.int .u8 (n:Int)).toArray t frozen
   | o=>o)}
set_option maxRecDepth 100000 in
theorem laid_met_typesTwice (os:Os) (args:Array Value):laidMet Tryz.prog [("math/bits.deBruijn32tab",Rows.laid_math_bits_deBruijn32tab),("math/bits.deBruijn64tab",Rows.laid_math_bits_deBruijn64tab),("internal/strconv.uint64pow10",Rows.laid_internal_strconv_uint64pow10),("unicode/utf8.acceptRanges",Rows.laid_unicode_utf8_acceptRanges),("strconv.ErrRange",Rows.laid_strconv_ErrRange),("strconv.ErrSyntax",Rows.laid_strconv_ErrSyntax),("tablefinder/fraction.one",Rows.laid_tablefinder_fraction_one),("unicode/utf8.first",Rows.laid_unicode_utf8_first)] ((laidWorld_typesTwice os).forCall (fun _ _=>0) ⟨#[],args,[]⟩).memory :=
 laidMet_of_run' 8 (by kernel_rfl) (by kernel_rfl)
end Go.Proofs.YtdpjcghiegggbaaGreatDoor
namespace Go.Proofs.YtdpjcghiegggbaaGreatDoor.Dst
open Go Go.Proofs Go.Abs
variable {G:Globals}
def strs (l:List (List UInt8)):List D:=l.map fun s=>S s
theorem strs_length {l:List (List UInt8)}:(strs l).length=l.length:=by simp [strs]
theorem strs_unf {l:List (List UInt8)}:(strs l).map unf0=strs l:=by simp [strs,unf0]
theorem strs_getD {l:List (List UInt8)} {i:Nat} (h:i<l.length):(strs l).getD i .nilp=S (l.getD i []):=by
 simp [strs,List.getD_eq_getElem?_getD,h]
abbrev Ss (l:List (List UInt8)) (full:Bool):D:=.sl l.length full (strs l)
end Go.Proofs.YtdpjcghiegggbaaGreatDoor.Dst
namespace Go.Proofs.YtdpjcghiegggbaaGreatDoor.Dst
open Go Go.Proofs Go.Abs
variable {G:Globals}
end Go.Proofs.YtdpjcghiegggbaaGreatDoor.Dst
namespace Go.Proofs.YtdpjcghiegggbaaGreatDoor.Dst
open Go Go.Proofs Go.Abs
variable {G:Globals}
end Go.Proofs.YtdpjcghiegggbaaGreatDoor.Dst
namespace Go.Proofs.YtdpjcghiegggbaaGreatDoor.Dst
open Go Go.Proofs Go.Abs
variable {G:Globals}
end Go.Proofs.YtdpjcghiegggbaaGreatDoor.Dst
namespace Go.Proofs.YtdpjcghiegggbaaGreatDoor.Dst
open Go Go.Proofs Go.Abs
variable {G:Globals}
end Go.Proofs.YtdpjcghiegggbaaGreatDoor.Dst
namespace Go.Proofs.YtdpjcghiegggbaaGreatDoor.Dst
open Go Go.Proofs Go.Abs
variable {G:Globals}
end Go.Proofs.YtdpjcghiegggbaaGreatDoor.Dst
namespace Go.Proofs.YtdpjcghiegggbaaGreatDoor.Dst
open Go Go.Proofs Go.Abs
variable {G:Globals}
abbrev Ru (kind lim num den:Int):D:=.agg [.int .i64 kind,.int .i64 lim,.int .i64 num,.int .i64 den]
end Go.Proofs.YtdpjcghiegggbaaGreatDoor.Dst
namespace Go.Proofs.YtdpjcghiegggbaaGreatDoor.Dst
open Go Go.Proofs Go.Abs
variable {G:Globals}
end Go.Proofs.YtdpjcghiegggbaaGreatDoor.Dst
namespace Go.Proofs.YtdpjcghiegggbaaGreatDoor.Dst
open Go Go.Proofs Go.Abs
variable {G:Globals}
abbrev DiceM (t:List Int) (k:Nat):ABlk:=.box [.d (.sl t.length false (ints .u8 t)),.d (.int .i64 (min k t.length:Nat))]
def OkM (t:List Int):Prop:=t.length≤300∧∀ i,0≤t.getD i 0∧t.getD i 0≤255
theorem new_spec (t:List Int) (ht:t.length≤9223372036854775807):Ctr Tryz.prog G 13 [.d (.sl t.length false (ints .u8 t))] [] (.ptr 0 0) [DiceM (t.take 300) 0]:=by
 refine Ctr.body (M:=M0) hmix Tryz.func13 rfl go13 ?_
 rcases Nat.lt_or_ge 300 t.length with h | h
 ·have e:(t.take 300).length=300:=by rw [List.length_take];omega
  simp (config:={maxSteps:=1000000}) (disch:=((try simp only [awL]);omega)) only [Tryz.f13,e,↓awU,awV,awF,Qa,Qb,Qc,Qd,forall_const,↓reduceIte,↓reduceDIte,↓Qe,Qf,Qg,Qh,Qi,Qj,Qk,Ql,Qm,Qn,Qo,Qp,Qq,Qr,Qs,implies_true,Qt,Qu,Qv,Qw,Qx,Qy,Qz,QA,QB,QC,QD,QE,QF,QG,QH,QI,QJ,QK,QL,QM,QN,QO,QP,QQ]
  exact ⟨[some 0],rfl,by simp,by simp [HWeak,BWeak,SWeak,AWeak];omega,.inl (by simp [AWeak])⟩
 ·have e:t.take 300=t:=List.take_of_length_le h
  simp (config:={maxSteps:=1000000}) (disch:=((try simp only [awL]);omega)) only [Tryz.f13,e,↓awU,awV,awF,Qa,Qb,Qc,Qd,forall_const,↓reduceIte,↓reduceDIte,↓Qe,Qf,Qg,Qh,Qi,Qj,Qk,Ql,Qm,Qn,Qo,Qp,Qq,Qr,Qs,implies_true,Qt,Qu,Qv,Qw,Qx,Qy,Qz,QA,QB,QC,QD,QE,QF,QG,QH,QI,QJ,QK,QL,QM,QN,QO,QP,QQ]
  exact ⟨[some 0],rfl,by simp,by simp [HWeak,BWeak,SWeak,AWeak],.inl (by simp [AWeak,SWeak])⟩
def pk (t:List Int) (k:Nat) (n:Int):Int:=t.getD k 0 % n
theorem pk_range {t:List Int} {k:Nat} {n:Int} (h:0<n):0≤pk t k n∧pk t k n<n:=⟨Int.emod_nonneg _ (by omega),Int.emod_lt_of_pos _ h⟩
theorem pk_nat (t:List Int) (k:Nat) (n:Int) (h:0<n):∃ c:Nat,pk t k n=c∧(c:Int)<n:=⟨(pk t k n).toNat,by have:=@pk_range t k n h;omega,by have:=@pk_range t k n h;omega⟩
set_option maxHeartbeats 4000000 in
set_option maxRecDepth 100000 in
theorem pick_spec (t:List Int) (k:Nat) (n:Int) (ht:OkM t) (h0:0<n) (h1:n≤1000) :
  Ctr Tryz.prog G 41 [.ptr 0 0,.d (.int .i64 n)] [DiceM t k] (.d (.int .i64 (pk t k n))) [DiceM t (k+1)]:=by
 obtain ⟨ht,htt⟩:=ht
 refine Ctr.body (M:=M0) hmix Tryz.func41 rfl go41 ?_
 rcases Nat.lt_or_ge k t.length with h | h
 ·have e1:min k t.length=k:=by omega
  have e2:min (k+1) t.length=k+1:=by omega
  obtain ⟨b1,b2⟩:=htt k
  have e3:(t.getD k 0).tmod n=pk t k n:=Int.tmod_eq_emod_of_nonneg b1
  simp only [e1,e2,DiceM]
  simp (config:={maxSteps:=1000000}) (disch:=((try simp only [awL]);omega)) only [Tryz.f41,e3,↓awU,awV,awF,Qa,Qb,Qc,Qd,forall_const,↓reduceIte,↓reduceDIte,↓Qe,Qf,Qg,Qh,Qi,Qj,Qk,Ql,Qm,Qn,Qo,Qp,Qq,Qr,Qs,implies_true,Qt,Qu,Qv,Qw,Qx,Qy,Qz,QA,QB,QC,QD,QE,QF,QG,QH,QI,QJ,QK,QL,QM,QN,QO,QP,QQ]
  refine ⟨by rfl,by rfl,?_⟩
  exact ⟨[some 0],rfl,by simp,by simp [HWeak,BWeak,SWeak,AWeak],.inl (by simp [AWeak,SWeak])⟩
 ·have e1:min k t.length=t.length:=by omega
  have e2:min (k+1) t.length=t.length:=by omega
  have e3:pk t k n=0:=by rw [pk,List.getD_eq_getElem?_getD,List.getElem?_eq_none h];simp
  simp only [e1,e2,e3,DiceM]
  simp (config:={maxSteps:=1000000}) (disch:=((try simp only [awL]);omega)) only [Tryz.f41,↓awU,awV,awF,Qa,Qb,Qc,Qd,forall_const,↓reduceIte,↓reduceDIte,↓Qe,Qf,Qg,Qh,Qi,Qj,Qk,Ql,Qm,Qn,Qo,Qp,Qq,Qr,Qs,implies_true,Qt,Qu,Qv,Qw,Qx,Qy,Qz,QA,QB,QC,QD,QE,QF,QG,QH,QI,QJ,QK,QL,QM,QN,QO,QP,QQ]
  refine ⟨by rfl,?_⟩
  exact ⟨[some 0],rfl,by simp,by simp [HWeak,BWeak,SWeak,AWeak],.inl (by simp [AWeak,SWeak])⟩
set_option maxRecDepth 100000 in
theorem words_spec:Ctr Tryz.prog G 43 [] [] (.d (Ss wordsL false)) []:=by
 refine Ctr.pure (M:=M0) hmix Tryz.func43 rfl go43 ?_
 simp (config:={maxSteps:=1000000}) (disch:=((try simp only [awL]);omega)) only [QR,QS,QT,QU,QV,QW,QX,QY,QZ,Q0,Q1,Q2,Tryz.f43,↓awU,awV,awF,Qa,Qb,Qc,Qd,forall_const,↓reduceIte,↓reduceDIte,↓Qe,Qf,Qg,Qh,Qi,Qj,Qk,Ql,Qm,Qn,Qo,Qp,Qq,Qr,Qs,implies_true,Qt,Qu,Qv,Qw,Qx,Qy,Qz,QA,QB,QC,QD,QE,QF,QG,QH,QI,QJ,QK,QL,QM,QN,QO,QP,QQ]
 try rfl
end Go.Proofs.YtdpjcghiegggbaaGreatDoor.Dst
namespace Go.Proofs.YtdpjcghiegggbaaGreatDoor.Dst
open Go Go.Proofs Go.Abs
variable {G:Globals}
end Go.Proofs.YtdpjcghiegggbaaGreatDoor.Dst
namespace Go.Proofs.YtdpjcghiegggbaaGreatDoor.Dst
open Go Go.Proofs Go.Abs
variable {G:Globals}
structure RuV where
 kind:Int
 lim:Int
 num:Int
 den:Int
abbrev RuV.D (r:RuV):D:=Ru r.kind r.lim r.num r.den
end Go.Proofs.YtdpjcghiegggbaaGreatDoor.Dst
namespace Go.Proofs.YtdpjcghiegggbaaGreatDoor.Dst
open Go Go.Proofs Go.Abs
variable {G:Globals}
end Go.Proofs.YtdpjcghiegggbaaGreatDoor.Dst
namespace Go.Proofs.YtdpjcghiegggbaaGreatDoor
open Go Go.Proofs Go.Abs
variable {G:Globals}
set_option maxRecDepth 100000 in
theorem ex_dec:Num.decOk (Lib.trimB [43,48,48,55,46,53,48] 32)=true∧canD (Lib.trimB [43,48,48,55,46,53,48] 32)=[55,46,53]∧Num.decOk (Lib.trimB [45,48,46,48] 32)=true∧canD (Lib.trimB [45,48,46,48] 32)=[48]:=by decide +kernel
theorem ex_day:okDt 1969 12 31=true∧dayV 1969 12 31=-1:=by decide +kernel
theorem ex_date:IsDt (0+719162) 1970 0 0:=by unfold IsDt;decide +kernel
set_option maxHeartbeats 4000000 in
set_option maxRecDepth 100000 in
theorem tsane_spec (hG:Num.HG G):Ctr Tryz.prog G 8 [] [] (.d (.bool true)) []:=by
 refine Ctr.pure (M:=M0) hmix Tryz.func8 rfl go8 ?_
 obtain ⟨a1,a2,a3,a4⟩:=ex_dec
 have s1:=canon4_spec hG [43,48,48,55,46,53,48] (by decide)
 have s2:=canon4_spec hG [45,48,46,48] (by decide)
 rw [a1,if_pos rfl,a2] at s1
 rw [a3,if_pos rfl,a4] at s2
 have s3:=day_spec (G:=G) 1969 12 31 (by decide) (by decide) (by decide) (by decide) (by decide) (by decide)
 rw [ex_day.1,ex_day.2] at s3
 have s4:=tdate_spec (G:=G) 0 ex_date
 simp (config:={maxSteps:=1000000}) (disch:=((try simp only [awL]);omega)) only [QR,QS,QT,QU,QV,QW,QX,QY,QZ,Q0,Q1,Q2,Tryz.f8,↓awU,awV,awF,Qa,Qb,Qc,Qd,forall_const,↓reduceIte,↓reduceDIte,↓Qe,Qf,Qg,Qh,Qi,Qj,Qk,Ql,Qm,Qn,Qo,Qp,Qq,Qr,Qs,implies_true,Qt,Qu,Qv,Qw,Qx,Qy,Qz,QA,QB,QC,QD,QE,QF,QG,QH,QI,QJ,QK,QL,QM,QN,QO,QP,QQ]
 refine CallC.of s1 (by rfl) ?_
 simp (config:={maxSteps:=1000000}) (disch:=((try simp only [awL]);omega)) only [QR,QS,QT,QU,QV,QW,QX,QY,QZ,Q0,Q1,Q2,↓awU,awV,awF,Qa,Qb,Qc,Qd,forall_const,↓reduceIte,↓reduceDIte,↓Qe,Qf,Qg,Qh,Qi,Qj,Qk,Ql,Qm,Qn,Qo,Qp,Qq,Qr,Qs,implies_true,Qt,Qu,Qv,Qw,Qx,Qy,Qz,QA,QB,QC,QD,QE,QF,QG,QH,QI,QJ,QK,QL,QM,QN,QO,QP,QQ]
 refine CallC.of s2 (by rfl) ?_
 simp (config:={maxSteps:=1000000}) (disch:=((try simp only [awL]);omega)) only [QR,QS,QT,QU,QV,QW,QX,QY,QZ,Q0,Q1,Q2,↓awU,awV,awF,Qa,Qb,Qc,Qd,forall_const,↓reduceIte,↓reduceDIte,↓Qe,Qf,Qg,Qh,Qi,Qj,Qk,Ql,Qm,Qn,Qo,Qp,Qq,Qr,Qs,implies_true,Qt,Qu,Qv,Qw,Qx,Qy,Qz,QA,QB,QC,QD,QE,QF,QG,QH,QI,QJ,QK,QL,QM,QN,QO,QP,QQ]
 refine CallC.of s3 (by rfl) ?_
 simp (config:={maxSteps:=1000000}) (disch:=((try simp only [awL]);omega)) only [QR,QS,QT,QU,QV,QW,QX,QY,QZ,Q0,Q1,Q2,↓awU,awV,awF,Qa,Qb,Qc,Qd,forall_const,↓reduceIte,↓reduceDIte,↓Qe,Qf,Qg,Qh,Qi,Qj,Qk,Ql,Qm,Qn,Qo,Qp,Qq,Qr,Qs,implies_true,Qt,Qu,Qv,Qw,Qx,Qy,Qz,QA,QB,QC,QD,QE,QF,QG,QH,QI,QJ,QK,QL,QM,QN,QO,QP,QQ]
 refine CallC.of s4 (by rfl) ?_
 simp (config:={maxSteps:=1000000}) (disch:=((try simp only [awL]);omega)) only [QR,QS,QT,QU,QV,QW,QX,QY,QZ,Q0,Q1,Q2,↓awU,awV,awF,Qa,Qb,Qc,Qd,forall_const,↓reduceIte,↓reduceDIte,↓Qe,Qf,Qg,Qh,Qi,Qj,Qk,Ql,Qm,Qn,Qo,Qp,Qq,Qr,Qs,implies_true,Qt,Qu,Qv,Qw,Qx,Qy,Qz,QA,QB,QC,QD,QE,QF,QG,QH,QI,QJ,QK,QL,QM,QN,QO,QP,QQ]
 first | done | rfl | decide
end Go.Proofs.YtdpjcghiegggbaaGreatDoor
namespace Go.Proofs.YtdpjcghiegggbaaGreatDoor
open Go Go.Proofs Go.Abs
variable {G:Globals}
theorem trimB_id {s:List UInt8} (h0:s≠[]) (h1:s.head?≠some 32) (h2:s.getLast?≠some 32):Lib.trimB s 32=s:=by
 have e1:Lib.trimRightB s 32=s:=by
  unfold Lib.trimRightB
  rcases snocX s with rfl | ⟨k,b,rfl⟩
  ·exact absurd rfl h0
  ·have hb:b≠32:=fun q=>h2 (by rw [q];simp)
   rw [List.reverse_append,List.reverse_singleton,List.singleton_append,List.dropWhile_cons,if_neg (by simpa using hb),List.reverse_cons,List.reverse_reverse]
 unfold Lib.trimB
 rw [e1]
 unfold Lib.trimLeftB
 rcases s with _ | ⟨b,l⟩
 ·exact absurd rfl h0
 ·have hb:b≠32:=fun q=>h1 (by rw [q];rfl)
  rw [List.dropWhile_cons,if_neg (by simpa using hb)]
theorem dg_ends {s:List UInt8} (h:∀ b∈s,dgB b=true):s.head?≠some 32∧s.getLast?≠some 32:=by
 constructor
 ·intro e
  have:=h 32 (List.mem_of_head? e)
  revert this;decide
 ·intro e
  have:=h 32 (List.mem_of_getLast? e)
  revert this;decide
theorem ends_app {a b c:List UInt8} (ha:a≠[]) (hc:c≠[]) (h1:a.head?≠some 32) (h2:c.getLast?≠some 32):(a++(b++c))≠[]∧(a++(b++c)).head?≠some 32∧(a++(b++c)).getLast?≠some 32:=by
 refine ⟨by simp [ha],?_,?_⟩
 ·rcases a with _ | ⟨x,a⟩
  ·exact absurd rfl ha
  ·simpa using h1
 ·rcases snocX c with rfl | ⟨k,x,rfl⟩
  ·exact absurd rfl hc
  ·rw [← List.append_assoc,← List.append_assoc]
   simpa using h2
theorem padN_ne {w:Nat} (h:1≤w) (n:Nat):padN w n≠[]:=fun q=>by have:=padN_len w n;rw [q] at this;simp at this;omega
theorem dateS_ends (y m d:Int):dateS y m d≠[]∧(dateS y m d).head?≠some 32∧(dateS y m d).getLast?≠some 32:=by
 have e:dateS y m d=padN 4 y.toNat++((45::(padN 2 m.toNat++[45]))++padN 2 d.toNat):=by unfold dateS;simp
 rw [e]
 exact ends_app (padN_ne (by decide) _) (padN_ne (by decide) _) (dg_ends (padN_dg _ _)).1 (dg_ends (padN_dg _ _)).2
theorem canon5_of {s t:List UInt8} {y m d:Int} (e:Lib.trimB s 32=t) (h:rdt t=(y,m,d,true)):okK 5 s=true∧cnK 5 s=dateS y m d:=by
 have o:okD t=true:=by unfold okD;rw [h]
 constructor
 ·show okD (Lib.trimB s 32)=true
  rw [e];exact o
 ·show canDt (Lib.trimB s 32)=_
  unfold canDt
  rw [e,if_pos o,h]
end Go.Proofs.YtdpjcghiegggbaaGreatDoor
namespace Go.Proofs.YtdpjcghiegggbaaGreatDoor
open Go Go.Proofs Go.Abs
variable {G:Globals}
end Go.Proofs.YtdpjcghiegggbaaGreatDoor
namespace Go.Proofs.YtdpjcghiegggbaaGreatDoor
open Go Go.Proofs Go.Abs
variable {G:Globals}
theorem celsD_pushU (a:List Cel) (x:Cel):celsD a++[.bool x.2,S x.1]=celsD (a++[x]):=by simp [celsD]
end Go.Proofs.YtdpjcghiegggbaaGreatDoor
namespace Go.Proofs.YtdpjcghiegggbaaGreatDoor
open Go Go.Proofs Go.Abs
variable {G:Globals}
end Go.Proofs.YtdpjcghiegggbaaGreatDoor
namespace Go.Proofs.YtdpjcghiegggbaaGreatDoor
open Go Go.Proofs Go.Abs
variable {G:Globals}
theorem cutA (L:List D) (n:Nat) (h:L.length≤n):cut L 0 n=L:=by unfold cut;rw [List.drop_zero,List.take_of_length_le h]
end Go.Proofs.YtdpjcghiegggbaaGreatDoor
namespace Go.Proofs.YtdpjcghiegggbaaGreatDoor
open Go Go.Proofs Go.Abs
variable {G:Globals}
end Go.Proofs.YtdpjcghiegggbaaGreatDoor
namespace Go.Proofs.YtdpjcghiegggbaaGreatDoor.Num
open Go Go.Proofs Go.Abs
variable {G:Globals}
structure RB where
 neg:Bool
 l:List Nat
def RB.ok (x:RB):Bool:=decide (x.l.length≤256∧(x.l=[]∧x.neg=false∨x.l≠[]∧x.l.getD (x.l.length - 1) 0≠0))
def RB.int (x:RB):Int:=if x.neg then -(val x.l:Int) else val x.l
structure RB.Dg (x:RB):Prop where
 dig:Dig x.l
 len:x.l.length≤1000
theorem RB.of (n:Int) (h:sz n≤1000):RB.Dg ⟨decide (n<0),toW n.natAbs⟩:=⟨dig_toW _,h⟩
end Go.Proofs.YtdpjcghiegggbaaGreatDoor.Num
namespace Go.Proofs.YtdpjcghiegggbaaGreatDoor.Num
open Go Go.Proofs Go.Abs
variable {G:Globals}
end Go.Proofs.YtdpjcghiegggbaaGreatDoor.Num
namespace Go.Proofs.YtdpjcghiegggbaaGreatDoor.Num
open Go Go.Proofs Go.Abs
variable {G:Globals}
end Go.Proofs.YtdpjcghiegggbaaGreatDoor.Num
namespace Go.Proofs.YtdpjcghiegggbaaGreatDoor.Num
open Go Go.Proofs Go.Abs
variable {G:Globals}
end Go.Proofs.YtdpjcghiegggbaaGreatDoor.Num
namespace Go.Proofs.YtdpjcghiegggbaaGreatDoor.Num
open Go Go.Proofs Go.Abs
variable {G:Globals}
end Go.Proofs.YtdpjcghiegggbaaGreatDoor.Num
namespace Go.Proofs.YtdpjcghiegggbaaGreatDoor.Num
open Go Go.Proofs Go.Abs
variable {G:Globals}
structure RF where
 n:RB
 d:RB
def okI (p q:Int):Bool:=decide (0<q∧Nat.gcd p.natAbs q.natAbs=1)
end Go.Proofs.YtdpjcghiegggbaaGreatDoor.Num
namespace Go.Proofs.YtdpjcghiegggbaaGreatDoor.Num
open Go Go.Proofs Go.Abs
variable {G:Globals}
end Go.Proofs.YtdpjcghiegggbaaGreatDoor.Num
namespace Go.Proofs.YtdpjcghiegggbaaGreatDoor.Num
open Go Go.Proofs Go.Abs
variable {G:Globals}
structure RF.Dg (x:RF):Prop where
 n:x.n.Dg
 d:x.d.Dg
def RF.ok (x:RF):Bool:=(x.n.ok && x.d.ok) && okI x.n.int x.d.int
def RF.rat (x:RF):Rat:=Rat.divInt x.n.int x.d.int
end Go.Proofs.YtdpjcghiegggbaaGreatDoor.Num
namespace Go.Proofs.YtdpjcghiegggbaaGreatDoor.Num
open Go Go.Proofs Go.Abs
variable {G:Globals}
def cF (x y:RF):Int:=if x.ok && y.ok then cmpQ x.rat y.rat else 0
end Go.Proofs.YtdpjcghiegggbaaGreatDoor.Num
namespace Go.Proofs.YtdpjcghiegggbaaGreatDoor
open Go Go.Proofs Go.Abs
variable {G:Globals}
end Go.Proofs.YtdpjcghiegggbaaGreatDoor
namespace Go.Proofs.YtdpjcghiegggbaaGreatDoor
open Go Go.Proofs Go.Abs
variable {G:Globals}
end Go.Proofs.YtdpjcghiegggbaaGreatDoor
namespace Go.Proofs.YtdpjcghiegggbaaGreatDoor
open Go Go.Proofs Go.Abs
variable {G:Globals}
theorem dot_iff {t:List UInt8} (h:Num.decOk t=true):(46:UInt8)∈t↔Num.decB t≠[]:=by
 obtain ⟨c,F,B,rfl,hd,hc⟩:=Decs.dec_of h
 obtain ⟨h3,h4⟩:=Decs.parts_sg hd.two hc
 obtain ⟨_,_,h5⟩:=Decs.pt_cut hd.two
 rw [h4,← h5]
 unfold Decs.sg
 rcases hc with rfl | rfl | rfl
 ·exact Iff.rfl
 ·simp
 ·simp
theorem okIn_eq {t:List UInt8} (h:Num.decOk t=true):okIn t=decide (Num.decB t=[]):=by
 unfold okIn
 rw [h,Bool.and_true]
 by_cases e:Num.decB t=[]
 ·rw [decide_eq_true e,decide_eq_false (fun q=>(dot_iff h).1 q e)];rfl
 ·rw [decide_eq_false e,decide_eq_true ((dot_iff h).2 e)];rfl
end Go.Proofs.YtdpjcghiegggbaaGreatDoor
namespace Go.Proofs.YtdpjcghiegggbaaGreatDoor
open Go Go.Proofs Go.Abs
variable {G:Globals}
theorem dg_B {b:UInt8} (h:Decs.dg b=true):dgB b=true:=decide_eq_true (Num.dig_range h)
theorem decNum_V (l:List UInt8):Num.decNum l=dgV l:=rfl
theorem dropW_head (c:UInt8):∀ l:List UInt8,(l.dropWhile (· == c)).head?≠some c
 | []=>by simp
 | b::l=>by
   rw [List.dropWhile_cons]
   by_cases e:b=c
   ·rw [if_pos (by simpa using e)];exact dropW_head c l
   ·rw [if_neg (by simpa using e)];simpa using e
theorem cF_head (F:List UInt8):Decs.cF F=[48]∨(Decs.cF F).head?≠some 48:=by
 unfold Decs.cF
 by_cases e:Lib.trimLeftB F 48=[]
 ·rw [if_pos e];exact .inl rfl
 ·rw [if_neg e];exact .inr (dropW_head 48 F)
theorem cB_last (B:List UInt8):(Decs.cB B).getLast?≠some 48:=by
 unfold Decs.cB Lib.trimRightB
 rw [List.getLast?_reverse]
 exact dropW_head 48 _
theorem dec_canon:∀ (n:Nat) (l:List UInt8),l.length=n→(∀ b∈l,dgB b=true)→l≠[]→(l=[48]∨l.head?≠some 48)→l=Lib.decDigits (dgV l)
 | 0,l,h,_,h0,_=>absurd (List.length_eq_zero_iff.1 h) h0
 | n+1,l,h,g,h0,hh=>by
   rcases snocX l with rfl | ⟨k,b,rfl⟩
   ·exact absurd rfl h0
   ·have hb:=dgB_val (g b (by simp))
    rcases k with _ | ⟨c,k⟩
    ·have e:dgV ([]++[b])=b.toNat - 48:=by rw [dgV_snoc];show 0*10+_=_;omega
     rw [e,Lib.decDigits_one (by omega),show 48+(b.toNat - 48)=b.toNat by omega,UInt8.ofNat_toNat];rfl
    ·have hh2:(c::k).head?≠some 48:=by
      rcases hh with q | q
      ·have:=congrArg List.length q;simp at this
      ·simpa using q
     have ih:=dec_canon n (c::k) (by simpa using h) (fun x hx=>g x (by rw [List.mem_append];exact .inl hx)) (by simp) (.inr hh2)
     have pos:0<dgV (c::k):=by
      rcases Nat.eq_zero_or_pos (dgV (c::k)) with q | q
      ·rw [q,Lib.decDigits_one (by decide)] at ih
       exact absurd (by rw [ih];rfl) hh2
      ·exact q
     rw [dgV_snoc,Lib.decDigits,dif_neg (by omega),show (dgV (c::k)*10+(b.toNat - 48)) / 10=dgV (c::k) by omega,show (dgV (c::k)*10+(b.toNat - 48)) % 10=b.toNat - 48 by omega,← ih,show 48+(b.toNat - 48)=b.toNat by omega,UInt8.ofNat_toNat]
theorem dig_inj {l m:List UInt8} (h:l.length=m.length) (g1:∀ b∈l,dgB b=true) (g2:∀ b∈m,dgB b=true) (e:dgV l=dgV m):l=m:=by
 rw [← padN_dgV _ l rfl g1,← padN_dgV _ m rfl g2,h,e]
theorem dgV_app (F B:List UInt8):dgV (F++B)=dgV F*10 ^ B.length+dgV B:=Decs.num_app F B
structure Can (F B:List UInt8):Prop where
 d:Decs.Dec F B
 f:F=[48]∨F.head?≠some 48
 b:B.getLast?≠some 48
theorem Can.of {F B:List UInt8} (h:Decs.Dec F B):Can (Decs.cF F) (Decs.cB B):=⟨Decs.canDec h,cF_head F,cB_last B⟩
theorem last_ne {A B:List UInt8} (hB:B≠[]) (g:∀ b∈B,dgB b=true) (h:B.getLast?≠some 48):dgV (A++B) % 10≠0:=by
 rcases snocX B with rfl | ⟨k,b,rfl⟩
 ·exact absurd rfl hB
 ·have hb:=dgB_val (g b (by simp))
  have hn:b.toNat≠48:=fun q=>h (by rw [show b=48 from UInt8.toNat_inj.1 q];simp)
  rw [← List.append_assoc,dgV_snoc];omega
theorem Can.len {F B F' B':List UInt8} (h:Can F B) (h':Can F' B') (e:dgV (F++B)*10 ^ B'.length=dgV (F'++B')*10 ^ B.length):¬ B.length<B'.length:=by
 intro q
 have hB:B'≠[]:=by rintro rfl;simp at q
 have nz:=last_ne (A:=F') hB (fun b hb=>dg_B (h'.d.bd b hb)) h'.b
 obtain ⟨k,hk⟩:∃ k,B'.length=B.length+(k+1):=⟨B'.length - B.length - 1,by omega⟩
 rw [hk,Nat.pow_add,← Nat.mul_assoc,Nat.mul_right_comm] at e
 have e:=Nat.eq_of_mul_eq_mul_right (Nat.pow_pos (n:=B.length) (by decide:0<10)) e
 apply nz
 rw [← e,Nat.pow_succ,← Nat.mul_assoc]
 exact Nat.mul_mod_left _ _
theorem Can.inj {F B F' B':List UInt8} (h:Can F B) (h':Can F' B') (e:dgV (F++B)*10 ^ B'.length=dgV (F'++B')*10 ^ B.length):F=F'∧B=B':=by
 have l1:=h.len h' e
 have l2:=h'.len h e.symm
 have l:B.length=B'.length:=by omega
 rw [l] at e
 have e:=Nat.eq_of_mul_eq_mul_right (Nat.pow_pos (n:=B'.length) (by decide:0<10)) e
 rw [dgV_app,dgV_app,l] at e
 have b1:=dgV_lt _ B rfl (fun b hb=>dg_B (h.d.bd b hb))
 have b2:=dgV_lt _ B' rfl (fun b hb=>dg_B (h'.d.bd b hb))
 rw [l] at b1
 generalize hp:10 ^ B'.length=p at *
 have e1:dgV F=dgV F':=by
  have c1:(dgV F*p+dgV B) / p=(dgV F'*p+dgV B') / p:=by rw [e]
  rw [Nat.mul_comm (dgV F) p,Nat.mul_comm (dgV F') p,Nat.mul_add_div (by omega),Nat.mul_add_div (by omega),Nat.div_eq_of_lt b1,Nat.div_eq_of_lt b2] at c1
  omega
 have e2:dgV B=dgV B':=by rw [e1] at e;omega
 refine ⟨?_,dig_inj l (fun b hb=>dg_B (h.d.bd b hb)) (fun b hb=>dg_B (h'.d.bd b hb)) e2⟩
 have n1:F≠[]:=by have:=h.d.f1;rintro rfl;simp at this
 have n2:F'≠[]:=by have:=h'.d.f1;rintro rfl;simp at this
 rw [dec_canon _ F rfl (fun b hb=>dg_B (h.d.fd b hb)) n1 h.f,dec_canon _ F' rfl (fun b hb=>dg_B (h'.d.fd b hb)) n2 h'.f,e1]
theorem Can.zero {F B:List UInt8} (h:Can F B) (z:dgV (F++B)=0):Decs.pt F B=[48]:=by
 have c:Can [48] []:=⟨⟨by decide,by decide,by decide,by decide,fun b hb=>by cases hb⟩,.inl rfl,by simp⟩
 have z':dgV ([48]++([]:List UInt8))=0:=rfl
 obtain ⟨rfl,rfl⟩:=h.inj c (by rw [z,z',Nat.zero_mul,Nat.zero_mul])
 rfl
theorem canD_inj {t s:List UInt8} (h:Num.decOk t=true) (h':Num.decOk s=true) (e:Num.decVal t=Num.decVal s):canD t=canD s:=by
 rw [← Decs.canD_val h,← Decs.canD_val h'] at e
 obtain ⟨c,F,B,rfl,hd,hc⟩:=Decs.dec_of h
 obtain ⟨c',F',B',rfl,hd',hc'⟩:=Decs.dec_of h'
 rw [Decs.canD_sg hd hc,Decs.canD_sg hd' hc'] at e ⊢
 have k:=Can.of hd
 have k':=Can.of hd'
 rw [Decs.val_sg k.d.two (Decs.canSg c _),Decs.val_sg k'.d.two (Decs.canSg c' _)] at e
 generalize Decs.cF F=A at *
 generalize Decs.cB B=D at *
 generalize Decs.cF F'=A' at *
 generalize Decs.cB B'=D' at *
 unfold Decs.dv at e
 rw [Rat.divInt_eq_divInt_iff (Decs.pow_ne _) (Decs.pow_ne _),decNum_V,decNum_V] at e
 have p1:(0:Int)<((10 ^ D.length:Nat):Int):=by have:0<10 ^ D.length:=Nat.pow_pos (by decide);omega
 have p2:(0:Int)<((10 ^ D'.length:Nat):Int):=by have:0<10 ^ D'.length:=Nat.pow_pos (by decide);omega
 have z1:=k.zero
 have z2:=k'.zero
 have ji:=k.inj k'
 generalize dgV (A++D)=N at *
 generalize dgV (A'++D')=N' at *
 generalize 10 ^ D.length=P at *
 generalize 10 ^ D'.length=P' at *
 have fin:∀ (n n':Nat),n*P'=n'*P→((n:Int)*(P':Int)=(n':Int)*(P:Int)):=fun n n' q=>by rw [← Int.natCast_mul,← Int.natCast_mul,q]
 have nif:∀ (n n':Nat),((n:Int)*(P':Int)=(n':Int)*(P:Int))→n*P'=n'*P:=fun n n' q=>by
  rw [← Int.natCast_mul,← Int.natCast_mul] at q;exact Int.ofNat.inj q
 have q0:∀ (n:Nat) (x:Int),0<x→0≤(n:Int)*x:=fun n x hx=>Int.mul_nonneg (by omega) (by omega)
 have qz:∀ (n:Nat) (x:Int),0<x→(n:Int)*x=0→n=0:=fun n x hx q=>by
  rcases Int.mul_eq_zero.1 q with r | r<;>omega
 have u1:=q0 N P' p2
 have u2:=q0 N' P p1
 by_cases e1:c=some 45∧Decs.pt A D≠[48]
 ·by_cases e2:c'=some 45∧Decs.pt A' D'≠[48]
  ·rw [if_pos e1,if_pos e2] at *
   rw [if_pos (by decide),if_pos (by decide),Int.neg_mul,Int.neg_mul] at e
   obtain ⟨rfl,rfl⟩:=ji (nif _ _ (by omega))
   rfl
  ·rw [if_pos e1,if_neg e2] at e
   rw [if_pos (by decide),if_neg (by decide),Int.neg_mul] at e
   exact absurd (z1 (qz N P' p2 (by omega))) e1.2
 ·by_cases e2:c'=some 45∧Decs.pt A' D'≠[48]
  ·rw [if_neg e1,if_pos e2] at e
   rw [if_neg (by decide),if_pos (by decide),Int.neg_mul] at e
   exact absurd (z2 (qz N' P p1 (by omega))) e2.2
  ·rw [if_neg e1,if_neg e2] at *
   rw [if_neg (by decide),if_neg (by decide)] at e
   obtain ⟨rfl,rfl⟩:=ji (nif _ _ e)
   rfl
theorem canD_id {t:List UInt8} (h:Num.decOk t=true):canD (canD t)=canD t:=canD_inj (Decs.canD_ok h) h (Decs.canD_val h)
theorem sg_ends {F B:List UInt8} (h:Decs.Dec F B) {c:Option UInt8} (hc:c=none∨c=some 45∨c=some 43):Decs.sg c (Decs.pt F B)≠[]∧(Decs.sg c (Decs.pt F B)).head?≠some 32∧(Decs.sg c (Decs.pt F B)).getLast?≠some 32:=by
 have n1:F≠[]:=by have:=h.f1;rintro rfl;simp at this
 have hF:=dg_ends (fun b hb=>dg_B (h.fd b hb))
 have hB:=dg_ends (fun b hb=>dg_B (h.bd b hb))
 have p:Decs.pt F B≠[]∧(Decs.pt F B).head?≠some 32∧(Decs.pt F B).getLast?≠some 32:=by
  unfold Decs.pt
  by_cases e:B=[]
  ·rw [if_pos e,List.append_nil];exact ⟨n1,hF⟩
  ·rw [if_neg e];exact ends_app (b:=[46]) n1 e hF.1 hB.2
 unfold Decs.sg
 rcases hc with rfl | rfl | rfl
 ·exact p
 ·refine ⟨by simp,by simp,?_⟩
  show (45::Decs.pt F B).getLast?≠some 32
  rw [List.getLast?_cons_of_ne_nil p.1];exact p.2.2
 ·refine ⟨by simp,by simp,?_⟩
  show (43::Decs.pt F B).getLast?≠some 32
  rw [List.getLast?_cons_of_ne_nil p.1];exact p.2.2
theorem trim_canD {t:List UInt8} (h:Num.decOk t=true):Lib.trimB (canD t) 32=canD t:=by
 obtain ⟨c,F,B,e,hd,hc⟩:=Decs.dec_of (Decs.canD_ok h)
 rw [e]
 obtain ⟨e1,e2,e3⟩:=sg_ends hd hc
 exact trimB_id e1 e2 e3
theorem okIn_canD {t:List UInt8} (h:okIn t=true):okIn (canD t)=true:=by
 have ok:Num.decOk t=true:=by unfold okIn at h;rw [Bool.and_eq_true] at h;exact h.2
 rw [okIn_eq ok] at h
 rw [okIn_eq (Decs.canD_ok ok)]
 refine decide_eq_true ?_
 have hB:=of_decide_eq_true h
 obtain ⟨c,F,B,rfl,hd,hc⟩:=Decs.dec_of ok
 rw [(Decs.parts_sg hd.two hc).2] at hB
 subst hB
 rw [Decs.canD_sg hd hc,(Decs.parts_sg (Decs.canDec hd).two (Decs.canSg c _)).2]
 rfl
theorem canBo_cases (t:List UInt8) (h:okBo t=true):canBo t=[116,114,117,101]∨canBo t=[102,97,108,115,101]:=by
 unfold okBo at h
 unfold canBo
 by_cases e:isTr t=true
 ·rw [if_pos e];exact .inl rfl
 ·rw [if_neg e]
  rw [Bool.not_eq_true] at e
  rw [e,Bool.false_or] at h
  rw [if_pos h];exact .inr rfl
theorem tru_facts:Lib.trimB [116,114,117,101] 32=[116,114,117,101]∧okBo [116,114,117,101]=true∧canBo [116,114,117,101]=[116,114,117,101] ∧
  Lib.trimB [102,97,108,115,101] 32=[102,97,108,115,101]∧okBo [102,97,108,115,101]=true∧canBo [102,97,108,115,101]=[102,97,108,115,101]:=by decide +kernel
theorem cnK3 (s:List UInt8):cnK 3 s=canIn (Lib.trimB s 32):=rfl
theorem cnK4 (s:List UInt8):cnK 4 s=canDe (Lib.trimB s 32):=rfl
theorem okK3 (s:List UInt8):okK 3 s=okIn (Lib.trimB s 32):=rfl
theorem okK4 (s:List UInt8):okK 4 s=Num.decOk (Lib.trimB s 32):=rfl
theorem can_twice {k:Int} {s:List UInt8} (h:okK k s=true):okK k (cnK k s)=true∧cnK k (cnK k s)=cnK k s:=by
 rcases k_cases k with rfl | rfl | rfl | rfl | rfl | n
 ·exact ⟨rfl,rfl⟩
 ·have h:okBo (Lib.trimB s 32)=true:=h
  show okBo (Lib.trimB (canBo (Lib.trimB s 32)) 32)=true∧canBo (Lib.trimB (canBo (Lib.trimB s 32)) 32)=canBo (Lib.trimB s 32)
  obtain ⟨f1,f2,f3,f4,f5,f6⟩:=tru_facts
  rcases canBo_cases _ h with e | e
  ·rw [e,f1];exact ⟨f2,f3⟩
  ·rw [e,f4];exact ⟨f5,f6⟩
 ·have h:okIn (Lib.trimB s 32)=true:=h
  have ok:Num.decOk (Lib.trimB s 32)=true:=by unfold okIn at h;rw [Bool.and_eq_true] at h;exact h.2
  have e1:cnK 3 s=canD (Lib.trimB s 32):=by rw [cnK3];unfold canIn;rw [if_pos h]
  rw [e1]
  have e2:=trim_canD ok
  have e3:=okIn_canD h
  refine ⟨by rw [okK3,e2];exact e3,?_⟩
  rw [cnK3,e2];unfold canIn
  rw [if_pos e3];exact canD_id ok
 ·have ok:Num.decOk (Lib.trimB s 32)=true:=h
  have e1:cnK 4 s=canD (Lib.trimB s 32):=by rw [cnK4];unfold canDe;rw [if_pos ok]
  rw [e1]
  have e2:=trim_canD ok
  have e3:=Decs.canD_ok ok
  refine ⟨by rw [okK4,e2];exact e3,?_⟩
  rw [cnK4,e2];unfold canDe
  rw [if_pos e3];exact canD_id ok
 ·have ok:okD (Lib.trimB s 32)=true:=h
  have e1:cnK 5 s=dateS (rdt (Lib.trimB s 32)).1 (rdt (Lib.trimB s 32)).2.1 (rdt (Lib.trimB s 32)).2.2.1:=by show canDt _=_;unfold canDt;rw [if_pos ok]
  have od:=rdt_ok ok
  rw [e1]
  generalize (rdt (Lib.trimB s 32)).1=y at *
  generalize (rdt (Lib.trimB s 32)).2.1=m at *
  generalize (rdt (Lib.trimB s 32)).2.2.1=d at *
  obtain ⟨f1,f2,f3⟩:=dateS_ends y m d
  exact canon5_of (trimB_id f1 f2 f3) (rdt_dateS od)
 ·rw [(okK_no n s).1] at h;cases h
theorem can_val {k:Int} {s t:List UInt8} (h:okV k s=true) (h':okV k t=true):cnK k s=cnK k t↔vlK k s=vlK k t:=by
 unfold okV at h h'
 rw [Bool.and_eq_true] at h h'
 obtain ⟨h,k1⟩:=h
 obtain ⟨h',_⟩:=h'
 have k1:k≠1:=fun q=>by rw [q] at k1;revert k1;decide
 rcases k_cases k with rfl | rfl | rfl | rfl | rfl | n
 ·exact absurd rfl k1
 ·have h:okBo (Lib.trimB s 32)=true:=h
  have h':okBo (Lib.trimB t 32)=true:=h'
  show canBo (Lib.trimB s 32)=canBo (Lib.trimB t 32)↔((boV (canBo (Lib.trimB s 32)):Rat)=(boV (canBo (Lib.trimB t 32)):Rat))
  have b1:boV [116,114,117,101]=1:=rfl
  have b0:boV [102,97,108,115,101]=0:=rfl
  rcases canBo_cases _ h with e | e<;>rcases canBo_cases _ h' with e' | e'<;>rw [e,e']
  ·exact ⟨fun _=>rfl,fun _=>rfl⟩
  ·rw [b1,b0]
   exact ⟨fun q=>absurd q (by decide),fun q=>absurd (Rat.intCast_inj.1 q) (by decide)⟩
  ·rw [b1,b0]
   exact ⟨fun q=>absurd q (by decide),fun q=>absurd (Rat.intCast_inj.1 q) (by decide)⟩
  ·exact ⟨fun _=>rfl,fun _=>rfl⟩
 ·have h:okIn (Lib.trimB s 32)=true:=h
  have h':okIn (Lib.trimB t 32)=true:=h'
  have ok:Num.decOk (Lib.trimB s 32)=true:=by unfold okIn at h;rw [Bool.and_eq_true] at h;exact h.2
  have ok':Num.decOk (Lib.trimB t 32)=true:=by unfold okIn at h';rw [Bool.and_eq_true] at h';exact h'.2
  show canIn (Lib.trimB s 32)=canIn (Lib.trimB t 32)↔Num.decVal (Lib.trimB s 32)=Num.decVal (Lib.trimB t 32)
  unfold canIn
  rw [if_pos h,if_pos h']
  exact ⟨fun e=>by rw [← Decs.canD_val ok,← Decs.canD_val ok',e],canD_inj ok ok'⟩
 ·have ok:Num.decOk (Lib.trimB s 32)=true:=h
  have ok':Num.decOk (Lib.trimB t 32)=true:=h'
  show canDe (Lib.trimB s 32)=canDe (Lib.trimB t 32)↔Num.decVal (Lib.trimB s 32)=Num.decVal (Lib.trimB t 32)
  unfold canDe
  rw [if_pos ok,if_pos ok']
  exact ⟨fun e=>by rw [← Decs.canD_val ok,← Decs.canD_val ok',e],canD_inj ok ok'⟩
 ·have ok:okD (Lib.trimB s 32)=true:=h
  have ok':okD (Lib.trimB t 32)=true:=h'
  show canDt (Lib.trimB s 32)=canDt (Lib.trimB t 32)↔((dtV (Lib.trimB s 32):Rat)=(dtV (Lib.trimB t 32):Rat))
  have od:=rdt_ok ok
  have od':=rdt_ok ok'
  unfold canDt dtV
  rw [if_pos ok,if_pos ok',Rat.intCast_inj]
  unfold dayV
  rw [if_pos od,if_pos od']
  have i:=okDt_is od
  have i':=okDt_is od'
  constructor
  ·intro e
   have r1:=rdt_dateS od
   have r2:=rdt_dateS od'
   rw [e,r2] at r1
   have a1:=congrArg (fun x:D4=>x.1) r1
   have a2:=congrArg (fun x:D4=>x.2.1) r1
   have a3:=congrArg (fun x:D4=>x.2.2.1) r1
   simp only at a1 a2 a3
   rw [a1,a2,a3]
  ·intro e
   rw [e] at i
   obtain ⟨b1,b2,b3⟩:=i.uniq i'
   obtain ⟨p1,p2,p3,p4,p5,p6⟩:=okDt_pos od
   obtain ⟨q1,q2,q3,q4,q5,q6⟩:=okDt_pos od'
   have b2:(rdt (Lib.trimB s 32)).2.1=(rdt (Lib.trimB t 32)).2.1:=by omega
   have b3:(rdt (Lib.trimB s 32)).2.2.1=(rdt (Lib.trimB t 32)).2.2.1:=by omega
   rw [b1,b2,b3]
 ·rw [(okK_no n s).1] at h;cases h
end Go.Proofs.YtdpjcghiegggbaaGreatDoor
namespace Go.Proofs.YtdpjcghiegggbaaGreatDoor
open Go Go.Proofs Go.Abs
variable {G:Globals}
theorem cnK_len {k:Int} {s:List UInt8} (h:okK k s=true) {m:Nat} (hs:s.length≤m) (hm:26≤m):(cnK k s).length≤m:=by
 rcases k_cases k with rfl | rfl | rfl | rfl | rfl | n
 ·exact hs
 ·exact Nat.le_trans (canBo_len _) (by omega)
 ·have h:okIn (Lib.trimB s 32)=true:=h
  have ok:Num.decOk (Lib.trimB s 32)=true:=by unfold okIn at h;rw [Bool.and_eq_true] at h;exact h.2
  show (canIn _).length≤m
  unfold canIn
  rw [if_pos h];exact Nat.le_trans (canD_small ok) hm
 ·have ok:Num.decOk (Lib.trimB s 32)=true:=h
  show (canDe _).length≤m
  unfold canDe
  rw [if_pos ok];exact Nat.le_trans (canD_small ok) hm
 ·have ok:okD (Lib.trimB s 32)=true:=h
  show (canDt _).length≤m
  unfold canDt
  rw [if_pos ok]
  have:(dateS (rdt (Lib.trimB s 32)).1 (rdt (Lib.trimB s 32)).2.1 (rdt (Lib.trimB s 32)).2.2.1).length=10:=dateS_len _ _ _
  omega
 ·rw [(okK_no n s).1] at h;cases h
theorem int_fv {n:Int} (h1:-9223372036854775808≤n) (h2:n≤9223372036854775807):Num.FV (n:Rat):=by
 rw [← dInt_one]
 exact (Num.Fw_divInt (k:=2) (by decide) (Num.sz_int h1 h2) (Num.sz_int (by decide) (by decide))).fv (by decide)
theorem vlK_fv {k:Int} {s:List UInt8} (h:okV k s=true):Num.FV (vlK k s):=by
 unfold okV at h
 rw [Bool.and_eq_true] at h
 obtain ⟨h,k1⟩:=h
 have k1:k≠1:=fun q=>by rw [q] at k1;revert k1;decide
 rcases k_cases k with rfl | rfl | rfl | rfl | rfl | n
 ·exact absurd rfl k1
 ·show Num.FV (boV (canBo (Lib.trimB s 32)):Rat)
  unfold boV
  split
  ·exact int_fv (by decide) (by decide)
  ·exact int_fv (by decide) (by decide)
 ·have h:okIn (Lib.trimB s 32)=true:=h
  have ok:Num.decOk (Lib.trimB s 32)=true:=by unfold okIn at h;rw [Bool.and_eq_true] at h;exact h.2
  exact (decVal_fw ok).fv (by decide)
 ·have ok:Num.decOk (Lib.trimB s 32)=true:=h
  exact (decVal_fw ok).fv (by decide)
 ·have ok:okD (Lib.trimB s 32)=true:=h
  have od:=rdt_ok ok
  have dr:-719162≤dtV (Lib.trimB s 32)∧dtV (Lib.trimB s 32)≤2932896:=by
   have:=(okDt_is od).range
   unfold dtV dayV
   rw [if_pos od];omega
  exact int_fv (by show -9223372036854775808≤dtV _;omega) (by show dtV _≤9223372036854775807;omega)
 ·rw [(okK_no n s).1] at h;cases h
theorem okIn_dec {s:List UInt8} (h:okK 3 s=true):okK 4 s=true∧cnK 4 s=cnK 3 s:=by
 have h:okIn (Lib.trimB s 32)=true:=h
 have ok:Num.decOk (Lib.trimB s 32)=true:=by unfold okIn at h;rw [Bool.and_eq_true] at h;exact h.2
 refine ⟨ok,?_⟩
 show canDe (Lib.trimB s 32)=canIn (Lib.trimB s 32)
 unfold canDe canIn
 rw [if_pos h,if_pos ok]
set_option maxHeartbeats 32000000 in
set_option maxRecDepth 100000 in
theorem twice_law (hG:Num.HG G) (hE:HE G) (hP:HP G) (t:List Int) (ht:OkS t) (hl:t.length≤9223372036854775807) (a:List UInt8) (ha:a.length≤9223372036854775807) (b:List UInt8) (hb:b.length≤9223372036854775807) :
  Ctr Tryz.prog G 4 [.d (.sl t.length false (ints .u8 t)),.d (S a),.d (S b)] [] (.d (.bool true)) []:=by
 refine Ctr.pure (M:=M0) hmix Tryz.func4 rfl go4 ?_
 have hmm:=ht.take
 have ts:=tsane_spec (G:=G) hG
 simp (config:={maxSteps:=1000000}) (disch:=((try simp only [awL]);omega)) only [QR,QS,QT,QU,QV,QW,QX,QY,QZ,Q0,Q1,Q2,Tryz.f4,↓awU,awV,awF,Qa,Qb,Qc,Qd,forall_const,↓reduceIte,↓reduceDIte,↓Qe,Qf,Qg,Qh,Qi,Qj,Qk,Ql,Qm,Qn,Qo,Qp,Qq,Qr,Qs,implies_true,Qt,Qu,Qv,Qw,Qx,Qy,Qz,QA,QB,QC,QD,QE,QF,QG,QH,QI,QJ,QK,QL,QM,QN,QO,QP,QQ]
 refine CallC.pure ts ?_
 by_cases g1:a.length≤40
 ·by_cases g2:b.length≤40
  ·simp (config:={maxSteps:=1000000}) (disch:=((try simp only [awL]);omega)) only [QR,QS,QT,QU,QV,QW,QX,QY,QZ,Q0,Q1,Q2,↓awU,awV,awF,Qa,Qb,Qc,Qd,forall_const,↓reduceIte,↓reduceDIte,↓Qe,Qf,Qg,Qh,Qi,Qj,Qk,Ql,Qm,Qn,Qo,Qp,Qq,Qr,Qs,implies_true,Qt,Qu,Qv,Qw,Qx,Qy,Qz,QA,QB,QC,QD,QE,QF,QG,QH,QI,QJ,QK,QL,QM,QN,QO,QP,QQ]
   refine CallC.by (new_spec t hl) (by rfl) (by rfl) (Nat.zero_le _) ?_
   generalize t.take 300=t0 at *
   simp (config:={maxSteps:=1000000}) (disch:=((try simp only [awL]);omega)) only [QR,QS,QT,QU,QV,QW,QX,QY,QZ,Q0,Q1,Q2,↓awU,awV,awF,Qa,Qb,Qc,Qd,forall_const,↓reduceIte,↓reduceDIte,↓Qe,Qf,Qg,Qh,Qi,Qj,Qk,Ql,Qm,Qn,Qo,Qp,Qq,Qr,Qs,implies_true,Qt,Qu,Qv,Qw,Qx,Qy,Qz,QA,QB,QC,QD,QE,QF,QG,QH,QI,QJ,QK,QL,QM,QN,QO,QP,QQ]
   refine CallC.by (number_spec t0 0 hmm) (by rfl) (by rfl) (Nat.le_refl _) ?_
   have n1:=(numM_len t0 0).2
   generalize numM t0 0=x1 at *
   generalize numK t0 0=k1 at *
   simp (config:={maxSteps:=1000000}) (disch:=((try simp only [awL]);omega)) only [QR,QS,QT,QU,QV,QW,QX,QY,QZ,Q0,Q1,Q2,↓awU,awV,awF,Qa,Qb,Qc,Qd,forall_const,↓reduceIte,↓reduceDIte,↓Qe,Qf,Qg,Qh,Qi,Qj,Qk,Ql,Qm,Qn,Qo,Qp,Qq,Qr,Qs,implies_true,Qt,Qu,Qv,Qw,Qx,Qy,Qz,QA,QB,QC,QD,QE,QF,QG,QH,QI,QJ,QK,QL,QM,QN,QO,QP,QQ]
   refine CallC.by (number_spec t0 k1 hmm) (by rfl) (by rfl) (Nat.le_refl _) ?_
   have n2:=(numM_len t0 k1).2
   generalize numM t0 k1=x2 at *
   generalize numK t0 k1=k2 at *
   simp (config:={maxSteps:=1000000}) (disch:=((try simp only [awL]);omega)) only [QR,QS,QT,QU,QV,QW,QX,QY,QZ,Q0,Q1,Q2,↓awU,awV,awF,Qa,Qb,Qc,Qd,forall_const,↓reduceIte,↓reduceDIte,↓Qe,Qf,Qg,Qh,Qi,Qj,Qk,Ql,Qm,Qn,Qo,Qp,Qq,Qr,Qs,implies_true,Qt,Qu,Qv,Qw,Qx,Qy,Qz,QA,QB,QC,QD,QE,QF,QG,QH,QI,QJ,QK,QL,QM,QN,QO,QP,QQ]
   refine CallC.by (date_spec t0 k2 hmm) (by rfl) (by rfl) (Nat.le_refl _) ?_
   have n3:(dateM t0 k2).length≤30:=(fieldM_ok t0 k2 2).2
   generalize dateM t0 k2=x3 at *
   generalize k2+4=k3 at *
   simp (config:={maxSteps:=1000000}) (disch:=((try simp only [awL]);omega)) only [QR,QS,QT,QU,QV,QW,QX,QY,QZ,Q0,Q1,Q2,↓awU,awV,awF,Qa,Qb,Qc,Qd,forall_const,↓reduceIte,↓reduceDIte,↓Qe,Qf,Qg,Qh,Qi,Qj,Qk,Ql,Qm,Qn,Qo,Qp,Qq,Qr,Qs,implies_true,Qt,Qu,Qv,Qw,Qx,Qy,Qz,QA,QB,QC,QD,QE,QF,QG,QH,QI,QJ,QK,QL,QM,QN,QO,QP,QQ]
   refine CallC.by (date_spec t0 k3 hmm) (by rfl) (by rfl) (Nat.le_refl _) ?_
   have n4:(dateM t0 k3).length≤30:=(fieldM_ok t0 k3 2).2
   generalize dateM t0 k3=x4 at *
   generalize k3+4=k4 at *
   simp (config:={maxSteps:=1000000}) (disch:=((try simp only [awL]);omega)) only [QR,QS,QT,QU,QV,QW,QX,QY,QZ,Q0,Q1,Q2,↓awU,awV,awF,Qa,Qb,Qc,Qd,forall_const,↓reduceIte,↓reduceDIte,↓Qe,Qf,Qg,Qh,Qi,Qj,Qk,Ql,Qm,Qn,Qo,Qp,Qq,Qr,Qs,implies_true,Qt,Qu,Qv,Qw,Qx,Qy,Qz,QA,QB,QC,QD,QE,QF,QG,QH,QI,QJ,QK,QL,QM,QN,QO,QP,QQ]
   refine CallC.by (field_mspec t0 k4 3 hmm (by decide)) (by rfl) (by rfl) (Nat.le_refl _) ?_
   have n5:=(fieldM_ok t0 k4 3).2
   generalize fieldM t0 k4 3=x5 at *
   generalize fieldK t0 k4 3=k5 at *
   simp (config:={maxSteps:=1000000}) (disch:=((try simp only [awL]);omega)) only [QR,QS,QT,QU,QV,QW,QX,QY,QZ,Q0,Q1,Q2,↓awU,awV,awF,Qa,Qb,Qc,Qd,forall_const,↓reduceIte,↓reduceDIte,↓Qe,Qf,Qg,Qh,Qi,Qj,Qk,Ql,Qm,Qn,Qo,Qp,Qq,Qr,Qs,implies_true,Qt,Qu,Qv,Qw,Qx,Qy,Qz,QA,QB,QC,QD,QE,QF,QG,QH,QI,QJ,QK,QL,QM,QN,QO,QP,QQ]
   refine CallC.by (field_mspec t0 k5 3 hmm (by decide)) (by rfl) (by rfl) (Nat.le_refl _) ?_
   have n6:=(fieldM_ok t0 k5 3).2
   generalize fieldM t0 k5 3=x6 at *
   generalize fieldK t0 k5 3=k6 at *
   simp (config:={maxSteps:=1000000}) (disch:=((try simp only [awL]);omega)) only [QR,QS,QT,QU,QV,QW,QX,QY,QZ,Q0,Q1,Q2,↓awU,awV,awF,Qa,Qb,Qc,Qd,forall_const,↓reduceIte,↓reduceDIte,↓Qe,Qf,Qg,Qh,Qi,Qj,Qk,Ql,Qm,Qn,Qo,Qp,Qq,Qr,Qs,implies_true,Qt,Qu,Qv,Qw,Qx,Qy,Qz,QA,QB,QC,QD,QE,QF,QG,QH,QI,QJ,QK,QL,QM,QN,QO,QP,QQ]
   have hLx:∀ i,i<4→∃ x y:List UInt8,([S a,S b,S x1,S x2,S x3,S x4,S x5,S x6].drop (i*2)).take 2=[S x,S y]∧x.length≤40∧y.length≤40:=by
    intro i hi
    rcases (by omega:i=0∨i=1∨i=2∨i=3) with rfl | rfl | rfl | rfl
    ·exact ⟨a,b,rfl,by omega,by omega⟩
    ·exact ⟨x1,x2,rfl,by omega,by omega⟩
    ·exact ⟨x3,x4,rfl,by omega,by omega⟩
    ·exact ⟨x5,x6,rfl,by omega,by omega⟩
   generalize hL:[S a,S b,S x1,S x2,S x3,S x4,S x5,S x6]=L at *
   have hLl:L.length=8:=by rw [← hL];rfl
   clear hL
   refine LoopC.fr 27021597764222976 (α:=Nat) (fun i=>4 - i) (fun i=>[(55,.d (.int .i64 (i:Nat)))]) (fun _=>[.dead,.row false L]) (fun i=>i≤4) 0 (Nat.zero_le _) ?_ ?_
   ·first | exact ⟨[some 0,some 1],rfl,by simp,by simp [setsA,keepA,SWeak,AWeak],by simp [HWeak,BWeak,SWeak,AWeak]⟩
   ·intro i hi
    simp only [awK,Nat.reduceMod,Nat.reduceDiv,reduceIte]
    rcases Nat.lt_or_ge i 4 with h | h
    ·obtain ⟨x,y,gl,lx,ly⟩:=hLx i h
     simp (config:={maxSteps:=1000000}) (disch:=((try simp only [awL]);omega)) only [QR,QS,QT,QU,QV,QW,QX,QY,QZ,Q0,Q1,Q2,hLl,gl,↓awU,awV,awF,Qa,Qb,Qc,Qd,forall_const,↓reduceIte,↓reduceDIte,↓Qe,Qf,Qg,Qh,Qi,Qj,Qk,Ql,Qm,Qn,Qo,Qp,Qq,Qr,Qs,implies_true,Qt,Qu,Qv,Qw,Qx,Qy,Qz,QA,QB,QC,QD,QE,QF,QG,QH,QI,QJ,QK,QL,QM,QN,QO,QP,QQ]
     refine LoopC.fx 63050394783187456 (α:=Nat) (β:=Unit) (fun k=>5 - k) (fun k=>[(10,.d (.int .i64 (k+1:Nat)))]) (fun _=>[.dead,.row false L,.box [.d (S x),.d (S y)]]) (fun k=>k≤5)
      63050394783186944 (fun _=>[]) (fun _=>[.dead,.row false L,.box [.d (S x),.d (S y)]]) (fun _=>True) 0 (Nat.zero_le _) ?_ ?_ ?_
     ·first | exact ⟨[some 0,some 1,some 2],rfl,by simp,by simp [setsA,keepA,SWeak,AWeak],by simp [HWeak,BWeak,SWeak,AWeak]⟩
     ·intro k hk
      simp only [awK,Nat.reduceMod,Nat.reduceDiv,reduceIte]
      rcases Nat.lt_or_ge k 5 with h5 | h5
      ·obtain ⟨K,hK⟩:∃ K:Int,K=((k+1:Nat):Int):=⟨_,rfl⟩
       rw [← hK]
       have nx:K+1=((k+1+1:Nat):Int):=by omega
       have c1:=canon_spec hG hE hP K (by omega) (by omega) x (by omega)
       have w1:=@cnK_len K x
       have tw:=@can_twice K x
       have c3:=canon_spec hG hE hP 4 (by decide) (by decide) x (by omega)
       have c4:=canon_spec hG hE hP K (by omega) (by omega) y (by omega)
       cases o1:okK K x
       ·rw [o1] at c1
        generalize cnK K x=X at *
        simp (config:={maxSteps:=1000000}) (disch:=((try simp only [awL]);omega)) only [QR,QS,QT,QU,QV,QW,QX,QY,QZ,Q0,Q1,Q2,↓awU,awV,awF,Qa,Qb,Qc,Qd,forall_const,↓reduceIte,↓reduceDIte,↓Qe,Qf,Qg,Qh,Qi,Qj,Qk,Ql,Qm,Qn,Qo,Qp,Qq,Qr,Qs,implies_true,Qt,Qu,Qv,Qw,Qx,Qy,Qz,QA,QB,QC,QD,QE,QF,QG,QH,QI,QJ,QK,QL,QM,QN,QO,QP,QQ]
        refine CallC.of c1 (by rfl) ?_
        simp (config:={maxSteps:=1000000}) (disch:=((try simp only [awL]);omega)) only [QR,QS,QT,QU,QV,QW,QX,QY,QZ,Q0,Q1,Q2,nx,↓awU,awV,awF,Qa,Qb,Qc,Qd,forall_const,↓reduceIte,↓reduceDIte,↓Qe,Qf,Qg,Qh,Qi,Qj,Qk,Ql,Qm,Qn,Qo,Qp,Qq,Qr,Qs,implies_true,Qt,Qu,Qv,Qw,Qx,Qy,Qz,QA,QB,QC,QD,QE,QF,QG,QH,QI,QJ,QK,QL,QM,QN,QO,QP,QQ]
        first | exact ⟨k+1,h5,by simp only;omega,⟨[some 0,some 1,some 2],rfl,by simp,by simp [setsA,keepA,SWeak,AWeak],by simp [HWeak,BWeak,SWeak,AWeak]⟩⟩ | exact ⟨by rfl,k+1,h5,by simp only;omega,⟨[some 0,some 1,some 2],rfl,by simp,by simp [setsA,keepA,SWeak,AWeak],by simp [HWeak,BWeak,SWeak,AWeak]⟩⟩
       ·have w1:=w1 o1 lx (by decide)
        obtain ⟨t1,t2⟩:=tw o1
        have c2:=canon_spec hG hE hP K (by omega) (by omega) (cnK K x) (by omega)
        rw [t1,t2] at c2
        rw [o1] at c1
        have i4:K=3→okK 4 x=true∧cnK 4 x=cnK K x:=fun q=>by subst q;exact okIn_dec o1
        have vx:K≠1→okV K x=true:=fun q=>by unfold okV;rw [o1,decide_eq_false q];rfl
        have vy:K≠1→okK K y=true→okV K y=true:=fun q z=>by unfold okV;rw [z,decide_eq_false q];rfl
        have cv:=@can_val K x y
        have v1:=value_spec hG hE hP K (by omega) (by omega) x (by omega)
        have v2:=value_spec hG hE hP K (by omega) (by omega) y (by omega)
        unfold valE at v1 v2
        have fx:=@vlK_fv K x
        have fy:=@vlK_fv K y
        have cm:=fun a b=>Num.rcmpF_spec (G:=G) (vlK K x) (vlK K y) a b
        generalize cnK K x=X at *
        generalize cnK 4 x=X4 at *
        generalize cnK K y=Y at *
        generalize okK 4 x=o4 at *
        generalize vlK K x=vX at *
        generalize vlK K y=vY at *
        simp (config:={maxSteps:=1000000}) (disch:=((try simp only [awL]);omega)) only [QR,QS,QT,QU,QV,QW,QX,QY,QZ,Q0,Q1,Q2,↓awU,awV,awF,Qa,Qb,Qc,Qd,forall_const,↓reduceIte,↓reduceDIte,↓Qe,Qf,Qg,Qh,Qi,Qj,Qk,Ql,Qm,Qn,Qo,Qp,Qq,Qr,Qs,implies_true,Qt,Qu,Qv,Qw,Qx,Qy,Qz,QA,QB,QC,QD,QE,QF,QG,QH,QI,QJ,QK,QL,QM,QN,QO,QP,QQ]
        refine CallC.of c1 (by rfl) ?_
        simp (config:={maxSteps:=1000000}) (disch:=((try simp only [awL]);omega)) only [QR,QS,QT,QU,QV,QW,QX,QY,QZ,Q0,Q1,Q2,↓awU,awV,awF,Qa,Qb,Qc,Qd,forall_const,↓reduceIte,↓reduceDIte,↓Qe,Qf,Qg,Qh,Qi,Qj,Qk,Ql,Qm,Qn,Qo,Qp,Qq,Qr,Qs,implies_true,Qt,Qu,Qv,Qw,Qx,Qy,Qz,QA,QB,QC,QD,QE,QF,QG,QH,QI,QJ,QK,QL,QM,QN,QO,QP,QQ]
        refine CallC.of c2 (by rfl) ?_
        simp (config:={maxSteps:=1000000}) (disch:=((try simp only [awL]);omega)) only [QR,QS,QT,QU,QV,QW,QX,QY,QZ,Q0,Q1,Q2,↓awU,awV,awF,Qa,Qb,Qc,Qd,forall_const,↓reduceIte,↓reduceDIte,↓Qe,Qf,Qg,Qh,Qi,Qj,Qk,Ql,Qm,Qn,Qo,Qp,Qq,Qr,Qs,implies_true,Qt,Qu,Qv,Qw,Qx,Qy,Qz,QA,QB,QC,QD,QE,QF,QG,QH,QI,QJ,QK,QL,QM,QN,QO,QP,QQ]
        refine CallC.of c3 (by rfl) ?_
        by_cases k3:K=3
        ·obtain ⟨rfl,rfl⟩:=i4 k3
         have k3':(K=3)=True:=eq_true k3
         have k1':(K=1)=False:=eq_false (by omega)
         simp (config:={maxSteps:=1000000}) (disch:=((try simp only [awL]);omega)) only [QR,QS,QT,QU,QV,QW,QX,QY,QZ,Q0,Q1,Q2,k3',↓awU,awV,awF,Qa,Qb,Qc,Qd,forall_const,↓reduceIte,↓reduceDIte,↓Qe,Qf,Qg,Qh,Qi,Qj,Qk,Ql,Qm,Qn,Qo,Qp,Qq,Qr,Qs,implies_true,Qt,Qu,Qv,Qw,Qx,Qy,Qz,QA,QB,QC,QD,QE,QF,QG,QH,QI,QJ,QK,QL,QM,QN,QO,QP,QQ]
         refine CallC.of c4 (by rfl) ?_
         cases o2:okK K y
         ·simp (config:={maxSteps:=1000000}) (disch:=((try simp only [awL]);omega)) only [QR,QS,QT,QU,QV,QW,QX,QY,QZ,Q0,Q1,Q2,nx,↓awU,awV,awF,Qa,Qb,Qc,Qd,forall_const,↓reduceIte,↓reduceDIte,↓Qe,Qf,Qg,Qh,Qi,Qj,Qk,Ql,Qm,Qn,Qo,Qp,Qq,Qr,Qs,implies_true,Qt,Qu,Qv,Qw,Qx,Qy,Qz,QA,QB,QC,QD,QE,QF,QG,QH,QI,QJ,QK,QL,QM,QN,QO,QP,QQ]
          first | exact ⟨k+1,h5,by simp only;omega,⟨[some 0,some 1,some 2],rfl,by simp,by simp [setsA,keepA,SWeak,AWeak],by simp [HWeak,BWeak,SWeak,AWeak]⟩⟩ | exact ⟨by rfl,k+1,h5,by simp only;omega,⟨[some 0,some 1,some 2],rfl,by simp,by simp [setsA,keepA,SWeak,AWeak],by simp [HWeak,BWeak,SWeak,AWeak]⟩⟩
         ·have vx:=vx (by omega)
          have vy:=vy (by omega) o2
          rw [vx,if_pos rfl] at v1
          rw [vy,if_pos rfl] at v2
          have cm:=cm (fx vx) (fy vy)
          have cv:=cv vx vy
          simp (config:={maxSteps:=1000000}) (disch:=((try simp only [awL]);omega)) only [QR,QS,QT,QU,QV,QW,QX,QY,QZ,Q0,Q1,Q2,k1',↓awU,awV,awF,Qa,Qb,Qc,Qd,forall_const,↓reduceIte,↓reduceDIte,↓Qe,Qf,Qg,Qh,Qi,Qj,Qk,Ql,Qm,Qn,Qo,Qp,Qq,Qr,Qs,implies_true,Qt,Qu,Qv,Qw,Qx,Qy,Qz,QA,QB,QC,QD,QE,QF,QG,QH,QI,QJ,QK,QL,QM,QN,QO,QP,QQ]
          refine CallC.of v1 (by rfl) ?_
          simp (config:={maxSteps:=1000000}) (disch:=((try simp only [awL]);omega)) only [QR,QS,QT,QU,QV,QW,QX,QY,QZ,Q0,Q1,Q2,↓awU,awV,awF,Qa,Qb,Qc,Qd,forall_const,↓reduceIte,↓reduceDIte,↓Qe,Qf,Qg,Qh,Qi,Qj,Qk,Ql,Qm,Qn,Qo,Qp,Qq,Qr,Qs,implies_true,Qt,Qu,Qv,Qw,Qx,Qy,Qz,QA,QB,QC,QD,QE,QF,QG,QH,QI,QJ,QK,QL,QM,QN,QO,QP,QQ]
          refine CallC.of v2 (by rfl) ?_
          simp (config:={maxSteps:=1000000}) (disch:=((try simp only [awL]);omega)) only [QR,QS,QT,QU,QV,QW,QX,QY,QZ,Q0,Q1,Q2,↓awU,awV,awF,Qa,Qb,Qc,Qd,forall_const,↓reduceIte,↓reduceDIte,↓Qe,Qf,Qg,Qh,Qi,Qj,Qk,Ql,Qm,Qn,Qo,Qp,Qq,Qr,Qs,implies_true,Qt,Qu,Qv,Qw,Qx,Qy,Qz,QA,QB,QC,QD,QE,QF,QG,QH,QI,QJ,QK,QL,QM,QN,QO,QP,QQ]
          refine CallC.of cm (by rfl) ?_
          by_cases e:X4=Y
          ·have e':(X4=Y)=True:=eq_true e
           have z:=Num.cmpQ_zero'.2 (cv.1 e)
           rw [z]
           simp (config:={maxSteps:=1000000}) (disch:=((try simp only [awL]);omega)) only [QR,QS,QT,QU,QV,QW,QX,QY,QZ,Q0,Q1,Q2,e',nx,↓awU,awV,awF,Qa,Qb,Qc,Qd,forall_const,↓reduceIte,↓reduceDIte,↓Qe,Qf,Qg,Qh,Qi,Qj,Qk,Ql,Qm,Qn,Qo,Qp,Qq,Qr,Qs,implies_true,Qt,Qu,Qv,Qw,Qx,Qy,Qz,QA,QB,QC,QD,QE,QF,QG,QH,QI,QJ,QK,QL,QM,QN,QO,QP,QQ]
           first | exact ⟨k+1,h5,by simp only;omega,⟨[some 0,some 1,some 2],rfl,by simp,by simp [setsA,keepA,SWeak,AWeak],by simp [HWeak,BWeak,SWeak,AWeak]⟩⟩ | exact ⟨by rfl,k+1,h5,by simp only;omega,⟨[some 0,some 1,some 2],rfl,by simp,by simp [setsA,keepA,SWeak,AWeak],by simp [HWeak,BWeak,SWeak,AWeak]⟩⟩
          ·have e':(X4=Y)=False:=eq_false e
           have z:(Num.cmpQ vX vY=0)=False:=eq_false (fun q=>e (cv.2 (Num.cmpQ_zero'.1 q)))
           simp (config:={maxSteps:=1000000}) (disch:=((try simp only [awL]);omega)) only [QR,QS,QT,QU,QV,QW,QX,QY,QZ,Q0,Q1,Q2,e',z,nx,↓awU,awV,awF,Qa,Qb,Qc,Qd,forall_const,↓reduceIte,↓reduceDIte,↓Qe,Qf,Qg,Qh,Qi,Qj,Qk,Ql,Qm,Qn,Qo,Qp,Qq,Qr,Qs,implies_true,Qt,Qu,Qv,Qw,Qx,Qy,Qz,QA,QB,QC,QD,QE,QF,QG,QH,QI,QJ,QK,QL,QM,QN,QO,QP,QQ]
           first | exact ⟨k+1,h5,by simp only;omega,⟨[some 0,some 1,some 2],rfl,by simp,by simp [setsA,keepA,SWeak,AWeak],by simp [HWeak,BWeak,SWeak,AWeak]⟩⟩ | exact ⟨by rfl,k+1,h5,by simp only;omega,⟨[some 0,some 1,some 2],rfl,by simp,by simp [setsA,keepA,SWeak,AWeak],by simp [HWeak,BWeak,SWeak,AWeak]⟩⟩
        ·have k3':(K=3)=False:=eq_false k3
         simp (config:={maxSteps:=1000000}) (disch:=((try simp only [awL]);omega)) only [QR,QS,QT,QU,QV,QW,QX,QY,QZ,Q0,Q1,Q2,k3',↓awU,awV,awF,Qa,Qb,Qc,Qd,forall_const,↓reduceIte,↓reduceDIte,↓Qe,Qf,Qg,Qh,Qi,Qj,Qk,Ql,Qm,Qn,Qo,Qp,Qq,Qr,Qs,implies_true,Qt,Qu,Qv,Qw,Qx,Qy,Qz,QA,QB,QC,QD,QE,QF,QG,QH,QI,QJ,QK,QL,QM,QN,QO,QP,QQ]
         refine CallC.of c4 (by rfl) ?_
         cases o2:okK K y
         ·simp (config:={maxSteps:=1000000}) (disch:=((try simp only [awL]);omega)) only [QR,QS,QT,QU,QV,QW,QX,QY,QZ,Q0,Q1,Q2,nx,↓awU,awV,awF,Qa,Qb,Qc,Qd,forall_const,↓reduceIte,↓reduceDIte,↓Qe,Qf,Qg,Qh,Qi,Qj,Qk,Ql,Qm,Qn,Qo,Qp,Qq,Qr,Qs,implies_true,Qt,Qu,Qv,Qw,Qx,Qy,Qz,QA,QB,QC,QD,QE,QF,QG,QH,QI,QJ,QK,QL,QM,QN,QO,QP,QQ]
          first | exact ⟨k+1,h5,by simp only;omega,⟨[some 0,some 1,some 2],rfl,by simp,by simp [setsA,keepA,SWeak,AWeak],by simp [HWeak,BWeak,SWeak,AWeak]⟩⟩ | exact ⟨by rfl,k+1,h5,by simp only;omega,⟨[some 0,some 1,some 2],rfl,by simp,by simp [setsA,keepA,SWeak,AWeak],by simp [HWeak,BWeak,SWeak,AWeak]⟩⟩
         ·by_cases k1:K=1
          ·have k1':(K=1)=True:=eq_true k1
           simp (config:={maxSteps:=1000000}) (disch:=((try simp only [awL]);omega)) only [QR,QS,QT,QU,QV,QW,QX,QY,QZ,Q0,Q1,Q2,k1',nx,↓awU,awV,awF,Qa,Qb,Qc,Qd,forall_const,↓reduceIte,↓reduceDIte,↓Qe,Qf,Qg,Qh,Qi,Qj,Qk,Ql,Qm,Qn,Qo,Qp,Qq,Qr,Qs,implies_true,Qt,Qu,Qv,Qw,Qx,Qy,Qz,QA,QB,QC,QD,QE,QF,QG,QH,QI,QJ,QK,QL,QM,QN,QO,QP,QQ]
           first | exact ⟨k+1,h5,by simp only;omega,⟨[some 0,some 1,some 2],rfl,by simp,by simp [setsA,keepA,SWeak,AWeak],by simp [HWeak,BWeak,SWeak,AWeak]⟩⟩ | exact ⟨by rfl,k+1,h5,by simp only;omega,⟨[some 0,some 1,some 2],rfl,by simp,by simp [setsA,keepA,SWeak,AWeak],by simp [HWeak,BWeak,SWeak,AWeak]⟩⟩
          ·have k1':(K=1)=False:=eq_false k1
           have vx:=vx k1
           have vy:=vy k1 o2
           rw [vx,if_pos rfl] at v1
           rw [vy,if_pos rfl] at v2
           have cm:=cm (fx vx) (fy vy)
           have cv:=cv vx vy
           simp (config:={maxSteps:=1000000}) (disch:=((try simp only [awL]);omega)) only [QR,QS,QT,QU,QV,QW,QX,QY,QZ,Q0,Q1,Q2,k1',↓awU,awV,awF,Qa,Qb,Qc,Qd,forall_const,↓reduceIte,↓reduceDIte,↓Qe,Qf,Qg,Qh,Qi,Qj,Qk,Ql,Qm,Qn,Qo,Qp,Qq,Qr,Qs,implies_true,Qt,Qu,Qv,Qw,Qx,Qy,Qz,QA,QB,QC,QD,QE,QF,QG,QH,QI,QJ,QK,QL,QM,QN,QO,QP,QQ]
           refine CallC.of v1 (by rfl) ?_
           simp (config:={maxSteps:=1000000}) (disch:=((try simp only [awL]);omega)) only [QR,QS,QT,QU,QV,QW,QX,QY,QZ,Q0,Q1,Q2,↓awU,awV,awF,Qa,Qb,Qc,Qd,forall_const,↓reduceIte,↓reduceDIte,↓Qe,Qf,Qg,Qh,Qi,Qj,Qk,Ql,Qm,Qn,Qo,Qp,Qq,Qr,Qs,implies_true,Qt,Qu,Qv,Qw,Qx,Qy,Qz,QA,QB,QC,QD,QE,QF,QG,QH,QI,QJ,QK,QL,QM,QN,QO,QP,QQ]
           refine CallC.of v2 (by rfl) ?_
           simp (config:={maxSteps:=1000000}) (disch:=((try simp only [awL]);omega)) only [QR,QS,QT,QU,QV,QW,QX,QY,QZ,Q0,Q1,Q2,↓awU,awV,awF,Qa,Qb,Qc,Qd,forall_const,↓reduceIte,↓reduceDIte,↓Qe,Qf,Qg,Qh,Qi,Qj,Qk,Ql,Qm,Qn,Qo,Qp,Qq,Qr,Qs,implies_true,Qt,Qu,Qv,Qw,Qx,Qy,Qz,QA,QB,QC,QD,QE,QF,QG,QH,QI,QJ,QK,QL,QM,QN,QO,QP,QQ]
           refine CallC.of cm (by rfl) ?_
           by_cases e:X=Y
           ·have e':(X=Y)=True:=eq_true e
            have z:=Num.cmpQ_zero'.2 (cv.1 e)
            rw [z]
            simp (config:={maxSteps:=1000000}) (disch:=((try simp only [awL]);omega)) only [QR,QS,QT,QU,QV,QW,QX,QY,QZ,Q0,Q1,Q2,e',nx,↓awU,awV,awF,Qa,Qb,Qc,Qd,forall_const,↓reduceIte,↓reduceDIte,↓Qe,Qf,Qg,Qh,Qi,Qj,Qk,Ql,Qm,Qn,Qo,Qp,Qq,Qr,Qs,implies_true,Qt,Qu,Qv,Qw,Qx,Qy,Qz,QA,QB,QC,QD,QE,QF,QG,QH,QI,QJ,QK,QL,QM,QN,QO,QP,QQ]
            first | exact ⟨k+1,h5,by simp only;omega,⟨[some 0,some 1,some 2],rfl,by simp,by simp [setsA,keepA,SWeak,AWeak],by simp [HWeak,BWeak,SWeak,AWeak]⟩⟩ | exact ⟨by rfl,k+1,h5,by simp only;omega,⟨[some 0,some 1,some 2],rfl,by simp,by simp [setsA,keepA,SWeak,AWeak],by simp [HWeak,BWeak,SWeak,AWeak]⟩⟩
           ·have e':(X=Y)=False:=eq_false e
            have z:(Num.cmpQ vX vY=0)=False:=eq_false (fun q=>e (cv.2 (Num.cmpQ_zero'.1 q)))
            simp (config:={maxSteps:=1000000}) (disch:=((try simp only [awL]);omega)) only [QR,QS,QT,QU,QV,QW,QX,QY,QZ,Q0,Q1,Q2,e',z,nx,↓awU,awV,awF,Qa,Qb,Qc,Qd,forall_const,↓reduceIte,↓reduceDIte,↓Qe,Qf,Qg,Qh,Qi,Qj,Qk,Ql,Qm,Qn,Qo,Qp,Qq,Qr,Qs,implies_true,Qt,Qu,Qv,Qw,Qx,Qy,Qz,QA,QB,QC,QD,QE,QF,QG,QH,QI,QJ,QK,QL,QM,QN,QO,QP,QQ]
            first | exact ⟨k+1,h5,by simp only;omega,⟨[some 0,some 1,some 2],rfl,by simp,by simp [setsA,keepA,SWeak,AWeak],by simp [HWeak,BWeak,SWeak,AWeak]⟩⟩ | exact ⟨by rfl,k+1,h5,by simp only;omega,⟨[some 0,some 1,some 2],rfl,by simp,by simp [setsA,keepA,SWeak,AWeak],by simp [HWeak,BWeak,SWeak,AWeak]⟩⟩
      ·obtain rfl:k=5:=by omega
       simp (config:={maxSteps:=1000000}) (disch:=((try simp only [awL]);omega)) only [QR,QS,QT,QU,QV,QW,QX,QY,QZ,Q0,Q1,Q2,↓awU,awV,awF,Qa,Qb,Qc,Qd,forall_const,↓reduceIte,↓reduceDIte,↓Qe,Qf,Qg,Qh,Qi,Qj,Qk,Ql,Qm,Qn,Qo,Qp,Qq,Qr,Qs,implies_true,Qt,Qu,Qv,Qw,Qx,Qy,Qz,QA,QB,QC,QD,QE,QF,QG,QH,QI,QJ,QK,QL,QM,QN,QO,QP,QQ]
       first | exact ⟨(),trivial,⟨[some 0,some 1,some 2],rfl,by simp,by simp [setsA,keepA,SWeak,AWeak],by simp [HWeak,BWeak,SWeak,AWeak]⟩⟩
     ·rintro ⟨⟩ -
      simp only [awK,Nat.reduceMod,Nat.reduceDiv,reduceIte]
      simp (config:={maxSteps:=1000000}) (disch:=((try simp only [awL]);omega)) only [QR,QS,QT,QU,QV,QW,QX,QY,QZ,Q0,Q1,Q2,↓awU,awV,awF,Qa,Qb,Qc,Qd,forall_const,↓reduceIte,↓reduceDIte,↓Qe,Qf,Qg,Qh,Qi,Qj,Qk,Ql,Qm,Qn,Qo,Qp,Qq,Qr,Qs,implies_true,Qt,Qu,Qv,Qw,Qx,Qy,Qz,QA,QB,QC,QD,QE,QF,QG,QH,QI,QJ,QK,QL,QM,QN,QO,QP,QQ]
      first | exact ⟨i+1,h,by simp only;omega,⟨[some 0,some 1],rfl,by simp,by simp [setsA,keepA,SWeak,AWeak],by simp [HWeak,BWeak,SWeak,AWeak]⟩⟩ | exact ⟨by rfl,i+1,h,by simp only;omega,⟨[some 0,some 1],rfl,by simp,by simp [setsA,keepA,SWeak,AWeak],by simp [HWeak,BWeak,SWeak,AWeak]⟩⟩
    ·obtain rfl:i=4:=by omega
     simp (config:={maxSteps:=1000000}) (disch:=((try simp only [awL]);omega)) only [QR,QS,QT,QU,QV,QW,QX,QY,QZ,Q0,Q1,Q2,hLl,↓awU,awV,awF,Qa,Qb,Qc,Qd,forall_const,↓reduceIte,↓reduceDIte,↓Qe,Qf,Qg,Qh,Qi,Qj,Qk,Ql,Qm,Qn,Qo,Qp,Qq,Qr,Qs,implies_true,Qt,Qu,Qv,Qw,Qx,Qy,Qz,QA,QB,QC,QD,QE,QF,QG,QH,QI,QJ,QK,QL,QM,QN,QO,QP,QQ]
     first | done | rfl
  ·simp (config:={maxSteps:=1000000}) (disch:=((try simp only [awL]);omega)) only [QR,QS,QT,QU,QV,QW,QX,QY,QZ,Q0,Q1,Q2,↓awU,awV,awF,Qa,Qb,Qc,Qd,forall_const,↓reduceIte,↓reduceDIte,↓Qe,Qf,Qg,Qh,Qi,Qj,Qk,Ql,Qm,Qn,Qo,Qp,Qq,Qr,Qs,implies_true,Qt,Qu,Qv,Qw,Qx,Qy,Qz,QA,QB,QC,QD,QE,QF,QG,QH,QI,QJ,QK,QL,QM,QN,QO,QP,QQ]
   first | done | rfl
 ·simp (config:={maxSteps:=1000000}) (disch:=((try simp only [awL]);omega)) only [QR,QS,QT,QU,QV,QW,QX,QY,QZ,Q0,Q1,Q2,↓awU,awV,awF,Qa,Qb,Qc,Qd,forall_const,↓reduceIte,↓reduceDIte,↓Qe,Qf,Qg,Qh,Qi,Qj,Qk,Ql,Qm,Qn,Qo,Qp,Qq,Qr,Qs,implies_true,Qt,Qu,Qv,Qw,Qx,Qy,Qz,QA,QB,QC,QD,QE,QF,QG,QH,QI,QJ,QK,QL,QM,QN,QO,QP,QQ]
  first | done | rfl
end Go.Proofs.YtdpjcghiegggbaaGreatDoor
namespace Go.Proofs.YtdpjcghiegggbaaGreatDoor
open Go Go.Proofs Go.Abs Go.RowKit Go.ChangeShapes Go.WideShapes Go.ChangeAt
noncomputable def laidWorld_typesGuess (os:Os):World :=
 {World.holding Tryz.prog os ⟨#[.cells #[.string ⟨#[118,97,108,117,101,32,111,117,116,32,111,102,32,114,97,110,103,101]⟩] 224,.cells #[.string ⟨#[105,110,118,97,108,105,100,32,115,121,110,116,97,120]⟩] 224,.cells #[.int .u32 1] 106],#[],[]⟩ with heap:=((((((((((World.holding Tryz.prog os ⟨#[.cells #[.string ⟨#[118,97,108,117,101,32,111,117,116,32,111,102,32,114,97,110,103,101]⟩] 224,.cells #[.string ⟨#[105,110,118,97,108,105,100,32,115,121,110,116,97,120]⟩] 224,.cells #[.int .u32 1] 106],#[],[]⟩).heap.modify 9 fun
   | .cells _ t frozen=>.cells #[.int .u8 0,.int .u8 1,.int .u8 28,.int .u8 2,.int .u8 29,.int .u8 14,.int .u8 24,.int .u8 3,.int .u8 30,.int .u8 22,.int .u8 20,.int .u8 15,.int .u8 25,.int .u8 17,.int .u8 4,.int .u8 8,.int .u8 31,.int .u8 27,.int .u8 13,.int .u8 23,.int .u8 21,.int .u8 19,.int .u8 16,.int .u8 7,.int .u8 26,.int .u8 12,.int .u8 18,.int .u8 6,.int .u8 11,.int .u8 5,.int .u8 10,.int .u8 9] t frozen
   | o=>o).modify 10 fun
   | .cells _ t frozen=>.cells #[.int .u8 0,.int .u8 1,.int .u8 56,.int .u8 2,.int .u8 57,.int .u8 49,.int .u8 28,.int .u8 3,.int .u8 61,.int .u8 58,.int .u8 42,.int .u8 50,.int .u8 38,.int .u8 29,.int .u8 17,.int .u8 4,.int .u8 62,.int .u8 47,.int .u8 59,.int .u8 36,.int .u8 45,.int .u8 43,.int .u8 51,.int .u8 22,.int .u8 53,.int .u8 39,.int .u8 33,.int .u8 30,.int .u8 24,.int .u8 18,.int .u8 12,.int .u8 5,.int .u8 63,.int .u8 55,.int .u8 48,.int .u8 27,.int .u8 60,.int .u8 41,.int .u8 37,.int .u8 16,.int .u8 46,.int .u8 35,.int .u8 44,.int .u8 21,.int .u8 52,.int .u8 32,.int .u8 23,.int .u8 11,.int .u8 54,.int .u8 26,.int .u8 40,.int .u8 15,.int .u8 34,.int .u8 20,.int .u8 31,.int .u8 10,.int .u8 25,.int .u8 14,.int .u8 19,.int .u8 9,.int .u8 13,.int .u8 8,.int .u8 7,.int .u8 6] t frozen
   | o=>o).modify 2 fun
   | .cells _ t frozen=>.cells #[.int .u64 1,.int .u64 10,.int .u64 100,.int .u64 1000,.int .u64 10000,.int .u64 100000,.int .u64 1000000,.int .u64 10000000,.int .u64 100000000,.int .u64 1000000000,.int .u64 10000000000,.int .u64 100000000000,.int .u64 1000000000000,.int .u64 10000000000000,.int .u64 100000000000000,.int .u64 1000000000000000,.int .u64 10000000000000000,.int .u64 100000000000000000,.int .u64 1000000000000000000,.int .u64 10000000000000000000] t frozen
   | o=>o).modify 7 fun
   | .cells _ t frozen=>.cells #[.int .u8 128,.int .u8 191,.int .u8 160,.int .u8 191,.int .u8 128,.int .u8 159,.int .u8 144,.int .u8 191,.int .u8 128,.int .u8 143,.int .u8 0,.int .u8 0,.int .u8 0,.int .u8 0,.int .u8 0,.int .u8 0,.int .u8 0,.int .u8 0,.int .u8 0,.int .u8 0,.int .u8 0,.int .u8 0,.int .u8 0,.int .u8 0,.int .u8 0,.int .u8 0,.int .u8 0,.int .u8 0,.int .u8 0,.int .u8 0,.int .u8 0,.int .u8 0] t frozen
   | o=>o).modify 5 fun
   | .cells _ t frozen=>.cells #[.iface 222 (.pointer (some ⟨(World.settled Tryz.prog os).heap.size,0,none⟩))] t frozen
   | o=>o).modify 4 fun
   | .cells _ t frozen=>.cells #[.iface 222 (.pointer (some ⟨(World.settled Tryz.prog os).heap.size+1,0,none⟩))] t frozen
   | o=>o).modify 1 fun
   | .cells _ t frozen=>.cells #[.slice (some ⟨(World.settled Tryz.prog os).heap.size+2,0,none⟩) 1 1] t frozen
   | o=>o).modify 0 fun
   | .cells _ t frozen=>.cells #[.int .i64 2,.int .i64 3,.int .i64 4,.int .i64 5,.int .i64 1] t frozen
   | o=>o).modify 6 fun
   | .cells _ t frozen=>.cells (Go.Pinned.utf8FirstZ.map fun (n:Nat)=>Value.int .u8 (n:Int)).toArray t frozen
   | o=>o)}
set_option maxRecDepth 100000 in
theorem laid_met_typesGuess (os:Os) (args:Array Value):laidMet Tryz.prog [("math/bits.deBruijn32tab",Rows.laid_math_bits_deBruijn32tab),("math/bits.deBruijn64tab",Rows.laid_math_bits_deBruijn64tab),("internal/strconv.uint64pow10",Rows.laid_internal_strconv_uint64pow10),("unicode/utf8.acceptRanges",Rows.laid_unicode_utf8_acceptRanges),("strconv.ErrRange",Rows.laid_strconv_ErrRange),("strconv.ErrSyntax",Rows.laid_strconv_ErrSyntax),("tablefinder/fraction.one",Rows.laid_tablefinder_fraction_one),("tablefinder/types.order",Rows.laid_tablefinder_types_order),("unicode/utf8.first",Rows.laid_unicode_utf8_first)] ((laidWorld_typesGuess os).forCall (fun _ _=>0) ⟨#[],args,[]⟩).memory :=
 laidMet_of_run' 8 (by kernel_rfl) (by kernel_rfl)
end Go.Proofs.YtdpjcghiegggbaaGreatDoor
namespace Go.Proofs.YtdpjcghiegggbaaGreatDoor
open Go Go.Proofs Go.Abs
variable {G:Globals}
theorem posB_le (bf:Opt→Opt→Bool) (o:Opt) (s:List Opt):∀ n,posB bf o s n≤n
 | 0=>Nat.le_refl _
 | n+1=>by
   rw [posB]
   split
   ·exact Nat.le_succ_of_le (posB_le bf o s n)
   ·exact Nat.le_refl _
theorem posB_ahead (bf:Opt→Opt→Bool) (o:Opt) (s:List Opt):∀ n,0<posB bf o s n→bf o (s.getD (posB bf o s n - 1) noO)=false
 | 0,h=>absurd h (Nat.lt_irrefl 0)
 | n+1,h=>by
   rw [posB] at h ⊢
   by_cases q:bf o (s.getD n noO)=true
   ·rw [if_pos q] at h ⊢;exact posB_ahead bf o s n h
   ·rw [if_neg q,Nat.add_sub_cancel];simpa using q
theorem posB_behind (bf:Opt→Opt→Bool) (o:Opt) (s:List Opt):∀ n i,posB bf o s n≤i→i<n→bf o (s.getD i noO)=true
 | 0,i,_,h=>absurd h (Nat.not_lt_zero _)
 | n+1,i,h1,h2=>by
   rw [posB] at h1
   by_cases q:bf o (s.getD n noO)=true
   ·rw [if_pos q] at h1
    rcases Nat.lt_or_ge i n with g | g
    ·exact posB_behind bf o s n i h1 g
    ·obtain rfl:i=n:=by omega
     exact q
   ·rw [if_neg q] at h1;omega
def AscO (s:List Opt):Prop:=s.Pairwise fun a b=>a.ag≤b.ag
theorem AscO.le {s:List Opt} (h:AscO s) {i j:Nat} (hi:i≤j) (hj:j<s.length):(s.getD i noO).ag≤(s.getD j noO).ag:=by
 rcases Nat.lt_or_eq_of_le hi with q | rfl
 ·have:=(List.pairwise_iff_getElem.1 h) i j (by omega) hj q
  rw [List.getD_eq_getElem?_getD,List.getElem?_eq_getElem (by omega),List.getD_eq_getElem?_getD,List.getElem?_eq_getElem hj]
  exact this
 ·exact Nat.le_refl _
theorem memG {s:List Opt} {x:Opt} (h:x∈s):∃ i,i<s.length∧s.getD i noO=x:=by
 obtain ⟨i,hi,e⟩:=List.getElem_of_mem h
 exact ⟨i,hi,by rw [List.getD_eq_getElem?_getD,List.getElem?_eq_getElem hi];exact e⟩
theorem asc_ins {s:List Opt} (h:AscO s) (o:Opt):AscO (insB befT o s):=by
 unfold insB
 have pl:=posB_le befT o s s.length
 have pa:=posB_ahead befT o s s.length
 have pb:=posB_behind befT o s s.length
 generalize posB befT o s s.length=p at *
 refine List.pairwise_append.2 ⟨h.sublist (List.take_sublist _ _),List.pairwise_cons.2 ⟨fun x hx=>?_,h.sublist (List.drop_sublist _ _)⟩,fun x hx y hy=>?_⟩
 ·obtain ⟨i,hi,rfl⟩:=memG hx
  rw [List.length_drop] at hi
  have e:(s.drop p).getD i noO=s.getD (p+i) noO:=by rw [List.getD_eq_getElem?_getD,List.getElem?_drop,← List.getD_eq_getElem?_getD]
  rw [e]
  have:=of_decide_eq_true (pb (p+i) (by omega) (by omega))
  omega
 ·obtain ⟨i,hi,rfl⟩:=memG hx
  rw [List.length_take] at hi
  have e:(s.take p).getD i noO=s.getD i noO:=by rw [List.getD_eq_getElem?_getD,List.getElem?_take,if_pos (by omega),← List.getD_eq_getElem?_getD]
  rw [e]
  have a1:(s.getD i noO).ag≤(s.getD (p - 1) noO).ag:=h.le (by omega) (by omega)
  rcases List.mem_cons.1 hy with rfl | hy
  ·have:=of_decide_eq_false (pa (by omega));omega
  ·obtain ⟨j,hj,rfl⟩:=memG hy
   rw [List.length_drop] at hj
   have e:(s.drop p).getD j noO=s.getD (p+j) noO:=by rw [List.getD_eq_getElem?_getD,List.getElem?_drop,← List.getD_eq_getElem?_getD]
   rw [e]
   exact h.le (by omega) (by omega)
theorem asc_sort (l:List Opt):AscO (sortB befT l):=by
 have:∀ (l s:List Opt),AscO s→AscO (l.foldl (fun s o=>insB befT o s) s):=by
  intro l
  induction l with
  | nil=>intro s h;exact h
  | cons o l ih=>intro s h;rw [List.foldl_cons];exact ih _ (asc_ins h o)
 exact this l [] List.Pairwise.nil
theorem ins_mem2 {bf:Opt→Opt→Bool} {o:Opt} {s:List Opt}:o∈insB bf o s∧∀ x∈s,x∈insB bf o s:=by
 unfold insB
 refine ⟨by simp,fun x hx=>?_⟩
 rw [← List.take_append_drop (posB bf o s s.length) s] at hx
 rcases List.mem_append.1 hx with q | q
 ·exact List.mem_append.2 (.inl q)
 ·exact List.mem_append.2 (.inr (List.mem_cons_of_mem _ q))
theorem sort_mem2 {bf:Opt→Opt→Bool} {l:List Opt}:∀ x∈l,x∈sortB bf l:=by
 have:∀ (l s:List Opt) (x:Opt),x∈s∨x∈l→x∈l.foldl (fun s o=>insB bf o s) s:=by
  intro l
  induction l with
  | nil=>intro s x h;rcases h with h | h;exact h;cases h
  | cons o l ih =>
   intro s x h
   rw [List.foldl_cons]
   refine ih _ _ ?_
   rcases h with h | h
   ·exact .inl (ins_mem2.2 x h)
   ·rcases List.mem_cons.1 h with rfl | h
    ·exact .inl ins_mem2.1
    ·exact .inr h
 intro x hx
 exact this l [] x (.inr hx)
theorem opts_mem {l:List Cel} {o:Opt}:o∈optsT l↔∃ k,kOf k∧o=optT l k:=by
 constructor
 ·intro h
  obtain ⟨k,hk,rfl⟩:=List.mem_map.1 (sortB_mem h)
  refine ⟨k,?_,rfl⟩
  have:k∈ordL:=List.mem_of_mem_take hk
  unfold ordL at this
  simp only [List.mem_cons,List.not_mem_nil,or_false] at this
  unfold kOf;omega
 ·rintro ⟨k,hk,rfl⟩
  refine sort_mem2 _ (List.mem_map.2 ⟨k,?_,rfl⟩)
  rw [List.take_of_length_le (by rw [ord_len];exact Nat.le_refl _)]
  unfold ordL
  unfold kOf at hk
  simp only [List.mem_cons,List.not_mem_nil,or_false];omega
theorem cnt_T (k:Int):∀ l:List Cel,l.countP (isT k)+l.countP (noT k)=l.countP vsT
 | []=>rfl
 | x::l=>by
   have ih:=cnt_T k l
   rw [List.countP_cons,List.countP_cons,List.countP_cons]
   obtain ⟨t,n⟩:=x
   have e1:isT k (t,n)=(!n && okK k t):=rfl
   have e2:noT k (t,n)=(!n && !okK k t):=rfl
   have e3:vsT (t,n)=!n:=rfl
   rw [e1,e2,e3]
   cases n<;>cases okK k t<;>simp<;>omega
theorem noT_1 (l:List Cel):l.countP (noT 1)=0:=by
 rw [List.countP_eq_zero]
 intro x _
 unfold noT
 rw [show okK 1 x.1=true from rfl]
 simp
theorem opts_head (l:List Cel):∃ k,kOf k∧(optsT l).getD 0 noO=optT l k∧l.countP (noT k)=0∧l.countP (isT k)=l.countP vsT:=by
 have ln:=optsT_len l
 have m0:(optsT l).getD 0 noO∈optsT l:=memD (d:=noO) (by omega)
 obtain ⟨k,hk,e⟩:=opts_mem.1 m0
 obtain ⟨i,hi,e1⟩:=memG (opts_mem.2 ⟨1,by unfold kOf;omega,rfl⟩:optT l 1∈optsT l)
 have le:((optsT l).getD 0 noO).ag≤((optsT l).getD i noO).ag:=(asc_sort _).le (Nat.zero_le _) hi
 rw [e1,e] at le
 have z:l.countP (noT k)≤l.countP (noT 1):=le
 rw [noT_1] at z
 have:=cnt_T k l
 exact ⟨k,hk,e,by omega,by omega⟩
theorem gsT_of (l:List Cel):∃ k,kOf k∧(optsT l).getD 0 noO=optT l k∧l.countP (noT k)=0∧gsT l=if l.countP vsT=0 then 1 else k:=by
 obtain ⟨k,hk,e,z,_⟩:=opts_head l
 refine ⟨k,hk,e,z,?_⟩
 unfold gsT
 rw [e]
 have en:nmdK (optT l k).txt=k:=nmd_of hk
 rw [en]
 by_cases c:l.countP vsT=0
 ·rw [if_pos c,if_neg]
  intro q
  obtain ⟨x,hx,hv⟩:=List.any_eq_true.1 q
  exact absurd hv (List.countP_eq_zero.1 c x hx)
 ·rw [if_neg c,if_pos]
  obtain ⟨x,hx,hv⟩:=List.countP_pos_iff.1 (Nat.pos_of_ne_zero c)
  exact List.any_eq_true.2 ⟨x,hx,hv⟩
end Go.Proofs.YtdpjcghiegggbaaGreatDoor
namespace Go.Proofs.YtdpjcghiegggbaaGreatDoor
open Go Go.Proofs Go.Abs
variable {G:Globals}
end Go.Proofs.YtdpjcghiegggbaaGreatDoor
namespace Go.Proofs.YtdpjcghiegggbaaGreatDoor
open Go Go.Proofs Go.Abs
variable {G:Globals}
end Go.Proofs.YtdpjcghiegggbaaGreatDoor
namespace Go.Proofs.YtdpjcghiegggbaaGreatDoor
open Go Go.Proofs Go.Abs
variable {G:Globals}
end Go.Proofs.YtdpjcghiegggbaaGreatDoor
namespace Go.Proofs.YtdpjcghiegggbaaGreatDoor
open Go Go.Proofs Go.Abs
variable {G:Globals}
end Go.Proofs.YtdpjcghiegggbaaGreatDoor
namespace Go.Proofs.YtdpjcghiegggbaaGreatDoor
open Go Go.Proofs Go.Abs
variable {G:Globals}
def fitT (k:Int) (x:Cel):Bool:=x.2 || okK k x.1
def apT (k:Int) (x:Cel):Cel:=if x.2=true then x else (cnK k x.1,false)
def tapE (k:Int) (l:List Cel):Int:=if kOf k then (if l.all (fitT k)=true then 0 else 4) else 2
def tapR (nm:List UInt8) (k:Int) (l:List Cel):D:=.tup [if tapE k l=0 then .agg [S nm,CelS (l.map (apT k)) false] else .agg [S [],.sl 0 false []],.int .i64 (tapE k l)]
theorem map_stepT {k:Int} {l:List Cel} {i:Nat} (h:i<l.length):(l.take (i+1)).map (apT k)=(l.take i).map (apT k)++[apT k (l.getD i noC)]:=by
 rw [List.take_add_one,getD_some (d:=noC) h];simp
theorem look_yesT {k:Int} (h:kOf k):∃ f g,lookV (.agg [.str ByteArray.empty,.nilf,.nilf]) kindsM (.int .i64 k) true=.tup [.agg [S (nmK k),f,g],.bool true]∧(f.one && g.one)=true:=by
 unfold kOf at h
 rcases h with rfl | rfl | rfl | rfl | rfl<;>exact ⟨_,_,rfl,rfl⟩
set_option maxHeartbeats 16000000 in
set_option maxRecDepth 100000 in
theorem tapply_spec (hG:Num.HG G) (hE:HE G) (hP:HP G) (nm:List UInt8) (l:List Cel) (full:Bool) (hl:okY l) (k:Int) (k1:-9223372036854775808≤k) (k2:k≤9223372036854775807) :
  Ctr Tryz.prog G 21 [.d (.agg [S nm,CelS l full]),.d (.int .i64 k)] [] (.d (tapR nm k l)) []:=by
 obtain ⟨r,hr⟩:∃ r,r=tapR nm k l:=⟨_,rfl⟩
 rw [← hr]
 unfold tapR tapE at hr
 have lc:=celsD_length l
 have l1:=hl.1
 have kk:=kk_int
 have hb0:ByteArray.empty=bs []:=rfl
 refine Ctr.pure (M:=M0) hmix Tryz.func21 rfl go21 ?_
 by_cases e1:kOf k
 ·rw [if_pos e1] at hr
  obtain ⟨f1,f2,lk,ff⟩:=look_yesT e1
  simp (config:={maxSteps:=1000000}) (disch:=((try simp only [awL]);omega)) only [QR,QS,QT,QU,QV,QW,QX,QY,QZ,Q0,Q1,Q2,lc,Tryz.f21,↓awU,awV,awF,Qa,Qb,Qc,Qd,forall_const,↓reduceIte,↓reduceDIte,↓Qe,Qf,Qg,Qh,Qi,Qj,Qk,Ql,Qm,Qn,Qo,Qp,Qq,Qr,Qs,implies_true,Qt,Qu,Qv,Qw,Qx,Qy,Qz,QA,QB,QC,QD,QE,QF,QG,QH,QI,QJ,QK,QL,QM,QN,QO,QP,QQ]
  refine CallC.by (L:=[]) kinds_spec (by rfl) (by rfl) (by simp) ?_
  simp (config:={maxSteps:=1000000}) (disch:=((try simp only [awL]);omega)) only [QR,QS,QT,QU,QV,QW,QX,QY,QZ,Q0,Q1,Q2,lc,kk,lk,↓awU,awV,awF,Qa,Qb,Qc,Qd,forall_const,↓reduceIte,↓reduceDIte,↓Qe,Qf,Qg,Qh,Qi,Qj,Qk,Ql,Qm,Qn,Qo,Qp,Qq,Qr,Qs,implies_true,Qt,Qu,Qv,Qw,Qx,Qy,Qz,QA,QB,QC,QD,QE,QF,QG,QH,QI,QJ,QK,QL,QM,QN,QO,QP,QQ]
  refine ⟨ff,?_⟩
  refine LoopC.fr 201326866 (α:=Nat) (fun i=>l.length - i) (fun i=>[(28,.d (.int .i64 (i:Nat)))])
   (fun i=>[.dead,.box [.d (.str ByteArray.empty),.d (.sl 0 true [])],.dead,.dead,.box [.d (S nm),.lsl 5 2 0 i],.row false (celsD ((l.take i).map (apT k)))]) (fun i=>i≤l.length∧(l.take i).all (fitT k)=true) 0 ⟨Nat.zero_le _,rfl⟩ ?_ ?_
  ·first
   | exact ⟨[some 0,some 1,some 2,some 3,some 4,none],rfl,by simp,by simp [setsA,keepA,SWeak,AWeak],by simp [HWeak,BWeak,SWeak,AWeak,celsD]⟩
  ·rintro i ⟨hi,ha⟩
   have al:=celsD_length ((l.take i).map (apT k))
   rw [List.length_map,List.length_take,Nat.min_eq_left hi] at al
   simp only [awK,Nat.reduceMod,Nat.reduceDiv,reduceIte]
   rcases Nat.lt_or_ge i l.length with h | h
   ·have gc:=celsD_get h
    have gx:=hl.at h
    have at1:=@all_takeU l (fitT k) i h ha
    have st:=map_stepT (k:=k) h
    have sp:=celsD_pushU ((l.take i).map (apT k)) (apT k (l.getD i noC))
    rw [← st] at sp
    rcases hx:l.getD i noC with ⟨t,nul⟩
    rw [hx] at gc gx at1 sp
    simp only at gx
    cases nul
    ·have mf:fitT k (t,false)=okK k t:=rfl
     rw [mf] at at1
     have gc:((celsD l).drop (i*2)).take 2=[.bool false,S t]:=gc
     have nf:okK k t=false→l.all (fitT k)=false:=fun q=>by
      cases q2:l.all (fitT k)
      ·rfl
      ·have:=List.all_eq_true.1 q2 _ (memD (d:=noC) h)
       rw [hx,mf,q] at this
       cases this
     have sp:celsD ((l.take i).map (apT k))++[.bool false,S (cnK k t)]=celsD ((l.take (i+1)).map (apT k)):=sp
     have cs:=canon_spec hG hE hP k k1 k2 t gx
     generalize okK k t=o at *
     generalize cnK k t=y at *
     simp (config:={maxSteps:=1000000}) (disch:=((try simp only [awL]);omega)) only [QR,QS,QT,QU,QV,QW,QX,QY,QZ,Q0,Q1,Q2,lc,al,gc,↓awU,awV,awF,Qa,Qb,Qc,Qd,forall_const,↓reduceIte,↓reduceDIte,↓Qe,Qf,Qg,Qh,Qi,Qj,Qk,Ql,Qm,Qn,Qo,Qp,Qq,Qr,Qs,implies_true,Qt,Qu,Qv,Qw,Qx,Qy,Qz,QA,QB,QC,QD,QE,QF,QG,QH,QI,QJ,QK,QL,QM,QN,QO,QP,QQ]
     refine CallC.of cs (by rfl) ?_
     cases o
     ·rw [nf rfl,if_neg Bool.false_ne_true,if_neg (by decide)] at hr
      subst hr
      simp (config:={maxSteps:=1000000}) (disch:=((try simp only [awL]);omega)) only [QR,QS,QT,QU,QV,QW,QX,QY,QZ,Q0,Q1,Q2,lc,al,↓awU,awV,awF,Qa,Qb,Qc,Qd,forall_const,↓reduceIte,↓reduceDIte,↓Qe,Qf,Qg,Qh,Qi,Qj,Qk,Ql,Qm,Qn,Qo,Qp,Qq,Qr,Qs,implies_true,Qt,Qu,Qv,Qw,Qx,Qy,Qz,QA,QB,QC,QD,QE,QF,QG,QH,QI,QJ,QK,QL,QM,QN,QO,QP,QQ]
      first | done | rfl
     ·simp (config:={maxSteps:=1000000}) (disch:=((try simp only [awL]);omega)) only [QR,QS,QT,QU,QV,QW,QX,QY,QZ,Q0,Q1,Q2,lc,al,↓awU,awV,awF,Qa,Qb,Qc,Qd,forall_const,↓reduceIte,↓reduceDIte,↓Qe,Qf,Qg,Qh,Qi,Qj,Qk,Ql,Qm,Qn,Qo,Qp,Qq,Qr,Qs,implies_true,Qt,Qu,Qv,Qw,Qx,Qy,Qz,QA,QB,QC,QD,QE,QF,QG,QH,QI,QJ,QK,QL,QM,QN,QO,QP,QQ]
      rw [List.map_take,List.map_take] at sp
      first
      | exact ⟨i+1,⟨h,at1 rfl⟩,by simp only;omega,⟨[some 0,some 1,some 2,some 3,some 4,some 8],rfl,by simp,by simp [setsA,keepA,SWeak,AWeak],by simp [HWeak,BWeak,SWeak,AWeak,cut,sp]⟩⟩
      | exact ⟨by rfl,i+1,⟨h,at1 rfl⟩,by simp only;omega,⟨[some 0,some 1,some 2,some 3,some 4,some 8],rfl,by simp,by simp [setsA,keepA,SWeak,AWeak],by simp [HWeak,BWeak,SWeak,AWeak,cut,sp]⟩⟩
    ·have gc:((celsD l).drop (i*2)).take 2=[.bool true,S t]:=gc
     have sp:celsD ((l.take i).map (apT k))++[.bool true,S t]=celsD ((l.take (i+1)).map (apT k)):=sp
     simp (config:={maxSteps:=1000000}) (disch:=((try simp only [awL]);omega)) only [QR,QS,QT,QU,QV,QW,QX,QY,QZ,Q0,Q1,Q2,lc,al,gc,↓awU,awV,awF,Qa,Qb,Qc,Qd,forall_const,↓reduceIte,↓reduceDIte,↓Qe,Qf,Qg,Qh,Qi,Qj,Qk,Ql,Qm,Qn,Qo,Qp,Qq,Qr,Qs,implies_true,Qt,Qu,Qv,Qw,Qx,Qy,Qz,QA,QB,QC,QD,QE,QF,QG,QH,QI,QJ,QK,QL,QM,QN,QO,QP,QQ]
     rw [List.map_take,List.map_take] at sp
     first
     | exact ⟨i+1,⟨h,at1 rfl⟩,by simp only;omega,⟨[some 0,some 1,some 2,some 3,some 4,some 8],rfl,by simp,by simp [setsA,keepA,SWeak,AWeak],by simp [HWeak,BWeak,SWeak,AWeak,cut,sp]⟩⟩
     | exact ⟨by rfl,i+1,⟨h,at1 rfl⟩,by simp only;omega,⟨[some 0,some 1,some 2,some 3,some 4,some 8],rfl,by simp,by simp [setsA,keepA,SWeak,AWeak],by simp [HWeak,BWeak,SWeak,AWeak,cut,sp]⟩⟩
   ·have e:i=l.length:=by omega
    subst e
    rw [List.take_length] at ha al ⊢
    rw [ha,if_pos rfl,if_pos rfl] at hr
    have ll:(l.map (apT k)).length=l.length:=by simp
    have cu:cut (celsD (l.map (apT k))) 0 (l.length*2)=celsD (l.map (apT k)):=cutA _ _ (by omega)
    subst hr
    unfold CelS
    rw [ll]
    simp (config:={maxSteps:=1000000}) (disch:=((try simp only [awL]);omega)) only [QR,QS,QT,QU,QV,QW,QX,QY,QZ,Q0,Q1,Q2,lc,al,cu,↓awU,awV,awF,Qa,Qb,Qc,Qd,forall_const,↓reduceIte,↓reduceDIte,↓Qe,Qf,Qg,Qh,Qi,Qj,Qk,Ql,Qm,Qn,Qo,Qp,Qq,Qr,Qs,implies_true,Qt,Qu,Qv,Qw,Qx,Qy,Qz,QA,QB,QC,QD,QE,QF,QG,QH,QI,QJ,QK,QL,QM,QN,QO,QP,QQ]
    first | done | rfl
 ·rw [if_neg e1,if_neg (by decide)] at hr
  have lk:=look_no e1
  unfold noK at lk
  subst hr
  simp (config:={maxSteps:=1000000}) (disch:=((try simp only [awL]);omega)) only [QR,QS,QT,QU,QV,QW,QX,QY,QZ,Q0,Q1,Q2,lc,Tryz.f21,↓awU,awV,awF,Qa,Qb,Qc,Qd,forall_const,↓reduceIte,↓reduceDIte,↓Qe,Qf,Qg,Qh,Qi,Qj,Qk,Ql,Qm,Qn,Qo,Qp,Qq,Qr,Qs,implies_true,Qt,Qu,Qv,Qw,Qx,Qy,Qz,QA,QB,QC,QD,QE,QF,QG,QH,QI,QJ,QK,QL,QM,QN,QO,QP,QQ]
  refine CallC.by (L:=[]) kinds_spec (by rfl) (by rfl) (by simp) ?_
  simp (config:={maxSteps:=1000000}) (disch:=((try simp only [awL]);omega)) only [QR,QS,QT,QU,QV,QW,QX,QY,QZ,Q0,Q1,Q2,lc,kk,lk,↓awU,awV,awF,Qa,Qb,Qc,Qd,forall_const,↓reduceIte,↓reduceDIte,↓Qe,Qf,Qg,Qh,Qi,Qj,Qk,Ql,Qm,Qn,Qo,Qp,Qq,Qr,Qs,implies_true,Qt,Qu,Qv,Qw,Qx,Qy,Qz,QA,QB,QC,QD,QE,QF,QG,QH,QI,QJ,QK,QL,QM,QN,QO,QP,QQ]
  first | done | rfl
end Go.Proofs.YtdpjcghiegggbaaGreatDoor
namespace Go.Proofs.YtdpjcghiegggbaaGreatDoor
open Go Go.Proofs Go.Abs
variable {G:Globals}
def tkK (t:List Int) (kind k:Nat):Nat:=if pk t k 7=0 then (pk t (k+1) 7).toNat else kind
def tkP (t:List Int) (k:Nat):Nat:=if pk t k 7=0 then k+2 else k+1
def tmX (t:List Int) (kind k:Nat):List UInt8:=fieldM t (tkP t k) (tkK t kind k)
def tmQ (t:List Int) (kind k:Nat):Nat:=fieldK t (tkP t k) (tkK t kind k)
def tmCel (t:List Int) (kind k:Nat):Cel:=if pk t (tmQ t kind k) 6=0 then ([],true) else (tmX t kind k,false)
def tmL (t:List Int) (kind:Nat):Nat→Nat→List Cel × Nat
 | 0,k=>([],k)
 | n+1,k=>(tmCel t kind k::(tmL t kind n (tmQ t kind k+1)).1,(tmL t kind n (tmQ t kind k+1)).2)
def madeT (t:List Int) (k:Nat):List Cel:=(tmL t (pk t k 5).toNat (pk t (k+1) 8).toNat (k+2)).1
def madeTK (t:List Int) (k:Nat):Nat:=(tmL t (pk t k 5).toNat (pk t (k+1) 8).toNat (k+2)).2
theorem tmL_ok (t:List Int) (kind:Nat):∀ n k,(tmL t kind n k).1.length=n∧∀ x∈(tmL t kind n k).1,x.1.length≤30
 | 0,k=>⟨rfl,fun x h=>by cases h⟩
 | n+1,k=>by
   rw [tmL]
   have ih:=tmL_ok t kind n (tmQ t kind k+1)
   refine ⟨by rw [List.length_cons,ih.1],fun x hx=>?_⟩
   rcases List.mem_cons.1 hx with e | hx
   ·rw [e]
    have:=(fieldM_ok t (tkP t k) (tkK t kind k)).2
    unfold tmCel
    split
    ·simp
    ·exact this
   ·exact ih.2 x hx
theorem madeT_ok (t:List Int) (k:Nat):(madeT t k).length≤7∧∀ x∈madeT t k,x.1.length≤30:=by
 have h1:=tmL_ok t (pk t k 5).toNat (pk t (k+1) 8).toNat (k+2)
 have h2:=@pk_range t (k+1) 8 (by decide)
 unfold madeT
 exact ⟨by omega,h1.2⟩
theorem celsD_setY {l:List Cel} {x y:Cel}:(celsD (l++[x])).take (l.length*2)++CelC y++(celsD (l++[x])).drop (l.length*2+2)=celsD (l++[y]):=by
 have e:celsD (l++[x])=celsD l++CelC x:=by simp [celsD]
 have e2:celsD (l++[y])=celsD l++CelC y:=by simp [celsD]
 have ll:=celsD_length l
 rw [e,e2,List.take_append_of_le_length (by omega),List.take_of_length_le (by omega),List.drop_append,List.drop_of_length_le (by omega),show l.length*2+2 - (celsD l).length=2 by omega]
 simp
theorem celsD_pushY (a:List Cel) (x:Cel):celsD a++[.bool x.2,S x.1]=celsD (a++[x]):=by simp [celsD]
set_option maxHeartbeats 16000000 in
set_option maxRecDepth 100000 in
theorem tmade_spec (t:List Int) (k:Nat) (ht:OkM t) :
  Ctr Tryz.prog G 19 [.ptr 0 0] [DiceM t k] (.d (.agg [S [99],CelS (madeT t k) false])) [DiceM t (madeTK t k)]:=by
 obtain ⟨r,hr⟩:∃ r,r=madeT t k:=⟨_,rfl⟩
 obtain ⟨k2,hk⟩:∃ k2,k2=madeTK t k:=⟨_,rfl⟩
 rw [← hr,← hk]
 unfold madeT at hr
 unfold madeTK at hk
 refine Ctr.body (M:=M0) hmix Tryz.func19 rfl go19 ?_
 obtain ⟨kind,hc,hc2⟩:=pk_nat t k 5 (by decide)
 obtain ⟨m,hm,hm2⟩:=pk_nat t (k+1) 8 (by decide)
 rw [hc,hm,Int.toNat_natCast,Int.toNat_natCast] at hr hk
 have hb0:ByteArray.empty=bs []:=rfl
 simp (config:={maxSteps:=1000000}) (disch:=((try simp only [awL]);omega)) only [QR,QS,QT,QU,QV,QW,QX,QY,QZ,Q0,Q1,Q2,Tryz.f19,↓awU,awV,awF,Qa,Qb,Qc,Qd,forall_const,↓reduceIte,↓reduceDIte,↓Qe,Qf,Qg,Qh,Qi,Qj,Qk,Ql,Qm,Qn,Qo,Qp,Qq,Qr,Qs,implies_true,Qt,Qu,Qv,Qw,Qx,Qy,Qz,QA,QB,QC,QD,QE,QF,QG,QH,QI,QJ,QK,QL,QM,QN,QO,QP,QQ]
 refine CallC.by (pick_spec t k 5 ht (by decide) (by decide)) (by rfl) (by rfl) (Nat.le_refl _) ?_
 rw [hc]
 simp (config:={maxSteps:=1000000}) (disch:=((try simp only [awL]);omega)) only [QR,QS,QT,QU,QV,QW,QX,QY,QZ,Q0,Q1,Q2,↓awU,awV,awF,Qa,Qb,Qc,Qd,forall_const,↓reduceIte,↓reduceDIte,↓Qe,Qf,Qg,Qh,Qi,Qj,Qk,Ql,Qm,Qn,Qo,Qp,Qq,Qr,Qs,implies_true,Qt,Qu,Qv,Qw,Qx,Qy,Qz,QA,QB,QC,QD,QE,QF,QG,QH,QI,QJ,QK,QL,QM,QN,QO,QP,QQ]
 refine CallC.by (pick_spec t (k+1) 8 ht (by decide) (by decide)) (by rfl) (by rfl) (Nat.le_refl _) ?_
 rw [hm]
 simp (config:={maxSteps:=1000000}) (disch:=((try simp only [awL]);omega)) only [QR,QS,QT,QU,QV,QW,QX,QY,QZ,Q0,Q1,Q2,↓awU,awV,awF,Qa,Qb,Qc,Qd,forall_const,↓reduceIte,↓reduceDIte,↓Qe,Qf,Qg,Qh,Qi,Qj,Qk,Ql,Qm,Qn,Qo,Qp,Qq,Qr,Qs,implies_true,Qt,Qu,Qv,Qw,Qx,Qy,Qz,QA,QB,QC,QD,QE,QF,QG,QH,QI,QJ,QK,QL,QM,QN,QO,QP,QQ]
 refine LoopC.fr 29 (α:=List Cel × Nat × Nat) (fun x=>x.2.1) (fun x=>[(5,.d (.int .i64 (x.2.1:Nat)))]) (fun x=>[DiceM t x.2.2,.box [.d (.str ByteArray.empty),.d (.sl 0 true [])],.box [.d (S [99]),.lsl 3 2 0 x.1.length],.row false (celsD x.1)])
  (fun x=>x.1.length+x.2.1≤7∧r=x.1++(tmL t kind x.2.1 x.2.2).1∧k2=(tmL t kind x.2.1 x.2.2).2) ([],m,k+2) ⟨by simp only [List.length_nil];omega,hr,hk⟩ ?_ ?_
 ·first
  | exact ⟨[some 0,some 1,some 2,none],rfl,by simp,by simp [setsA,keepA,SWeak,AWeak],by simp [HWeak,BWeak,SWeak,AWeak,celsD]⟩
 ·rintro ⟨acc,n,p⟩ ⟨h1,h2,h3⟩
  simp only at h1 h2 h3
  have al:=celsD_length acc
  simp only [awK,Nat.reduceMod,Nat.reduceDiv,reduceIte]
  match n with
  | 0 =>
   simp only [tmL,List.append_nil] at h2 h3
   subst h2 h3
   have cu:cut (celsD r) 0 (r.length*2)=celsD r:=by unfold cut;rw [List.drop_zero,List.take_of_length_le (by omega)]
   simp (config:={maxSteps:=1000000}) (disch:=((try simp only [awL]);omega)) only [QR,QS,QT,QU,QV,QW,QX,QY,QZ,Q0,Q1,Q2,al,cu,↓awU,awV,awF,Qa,Qb,Qc,Qd,forall_const,↓reduceIte,↓reduceDIte,↓Qe,Qf,Qg,Qh,Qi,Qj,Qk,Ql,Qm,Qn,Qo,Qp,Qq,Qr,Qs,implies_true,Qt,Qu,Qv,Qw,Qx,Qy,Qz,QA,QB,QC,QD,QE,QF,QG,QH,QI,QJ,QK,QL,QM,QN,QO,QP,QQ]
   refine ⟨[some 0],rfl,by simp,by simp [HWeak,BWeak,SWeak,AWeak],.inr ⟨_,rfl,?_,rfl⟩⟩
   simp (config:={maxSteps:=1000000}) (disch:=((try simp only [awL]);omega)) only [QR,QS,QT,QU,QV,QW,QX,QY,QZ,Q0,Q1,Q2,cu,↓awU,awV,awF,Qa,Qb,Qc,Qd,forall_const,↓reduceIte,↓reduceDIte,↓Qe,Qf,Qg,Qh,Qi,Qj,Qk,Ql,Qm,Qn,Qo,Qp,Qq,Qr,Qs,implies_true,Qt,Qu,Qv,Qw,Qx,Qy,Qz,QA,QB,QC,QD,QE,QF,QG,QH,QI,QJ,QK,QL,QM,QN,QO,QP,QQ]
   try rfl
  | n+1 =>
   simp only [tmL] at h2 h3
   unfold tmCel tmX tmQ tkK tkP at h2
   unfold tmQ tkK tkP at h3
   simp (config:={maxSteps:=1000000}) (disch:=((try simp only [awL]);omega)) only [QR,QS,QT,QU,QV,QW,QX,QY,QZ,Q0,Q1,Q2,↓awU,awV,awF,Qa,Qb,Qc,Qd,forall_const,↓reduceIte,↓reduceDIte,↓Qe,Qf,Qg,Qh,Qi,Qj,Qk,Ql,Qm,Qn,Qo,Qp,Qq,Qr,Qs,implies_true,Qt,Qu,Qv,Qw,Qx,Qy,Qz,QA,QB,QC,QD,QE,QF,QG,QH,QI,QJ,QK,QL,QM,QN,QO,QP,QQ]
   refine CallC.by (pick_spec t p 7 ht (by decide) (by decide)) (by rfl) (by rfl) (Nat.le_refl _) ?_
   by_cases e7:pk t p 7=0
   ·simp only [if_pos e7] at h2 h3
    rw [e7]
    simp (config:={maxSteps:=1000000}) (disch:=((try simp only [awL]);omega)) only [QR,QS,QT,QU,QV,QW,QX,QY,QZ,Q0,Q1,Q2,↓awU,awV,awF,Qa,Qb,Qc,Qd,forall_const,↓reduceIte,↓reduceDIte,↓Qe,Qf,Qg,Qh,Qi,Qj,Qk,Ql,Qm,Qn,Qo,Qp,Qq,Qr,Qs,implies_true,Qt,Qu,Qv,Qw,Qx,Qy,Qz,QA,QB,QC,QD,QE,QF,QG,QH,QI,QJ,QK,QL,QM,QN,QO,QP,QQ]
    refine CallC.by (pick_spec t (p+1) 7 ht (by decide) (by decide)) (by rfl) (by rfl) (Nat.le_refl _) ?_
    obtain ⟨c,hq,hq2⟩:=pk_nat t (p+1) 7 (by decide)
    rw [hq] at h2 h3 ⊢
    simp only [Int.toNat_natCast] at h2 h3
    simp (config:={maxSteps:=1000000}) (disch:=((try simp only [awL]);omega)) only [QR,QS,QT,QU,QV,QW,QX,QY,QZ,Q0,Q1,Q2,al,↓awU,awV,awF,Qa,Qb,Qc,Qd,forall_const,↓reduceIte,↓reduceDIte,↓Qe,Qf,Qg,Qh,Qi,Qj,Qk,Ql,Qm,Qn,Qo,Qp,Qq,Qr,Qs,implies_true,Qt,Qu,Qv,Qw,Qx,Qy,Qz,QA,QB,QC,QD,QE,QF,QG,QH,QI,QJ,QK,QL,QM,QN,QO,QP,QQ]
    rw [show p+1+1=p+2 from rfl]
    refine CallC.by (field_mspec t (p+2) c ht (by omega)) (by rfl) (by rfl) (Nat.le_refl _) ?_
    have xl:=(fieldM_ok t (p+2) c).2
    generalize fieldM t (p+2) c=x at *
    generalize fieldK t (p+2) c=p3 at *
    have sp:=celsD_pushY acc (x,false)
    have tl:(acc++[(x,false)]).length=acc.length+1:=by simp
    have st:=@celsD_setY acc (x,false) ([],true)
    simp only at sp
    have cu2:cut [D.bool false,D.str (bs x)] 0 2=[D.bool false,D.str (bs x)]:=rfl
    simp (config:={maxSteps:=1000000}) (disch:=((try simp only [awL]);omega)) only [QR,QS,QT,QU,QV,QW,QX,QY,QZ,Q0,Q1,Q2,al,cu2,sp,List.length_cons,List.length_nil,↓awU,awV,awF,Qa,Qb,Qc,Qd,forall_const,↓reduceIte,↓reduceDIte,↓Qe,Qf,Qg,Qh,Qi,Qj,Qk,Ql,Qm,Qn,Qo,Qp,Qq,Qr,Qs,implies_true,Qt,Qu,Qv,Qw,Qx,Qy,Qz,QA,QB,QC,QD,QE,QF,QG,QH,QI,QJ,QK,QL,QM,QN,QO,QP,QQ]
    try refine ⟨by rfl,?_⟩
    try simp (config:={maxSteps:=1000000}) (disch:=((try simp only [awL]);omega)) only [QR,QS,QT,QU,QV,QW,QX,QY,QZ,Q0,Q1,Q2,al,cu2,sp,List.length_cons,List.length_nil,↓awU,awV,awF,Qa,Qb,Qc,Qd,forall_const,↓reduceIte,↓reduceDIte,↓Qe,Qf,Qg,Qh,Qi,Qj,Qk,Ql,Qm,Qn,Qo,Qp,Qq,Qr,Qs,implies_true,Qt,Qu,Qv,Qw,Qx,Qy,Qz,QA,QB,QC,QD,QE,QF,QG,QH,QI,QJ,QK,QL,QM,QN,QO,QP,QQ]
    refine CallC.by (pick_spec t p3 6 ht (by decide) (by decide)) (by rfl) (by rfl) (Nat.le_refl _) ?_
    by_cases q:pk t p3 6=0
    ·rw [if_pos q] at h2
     rw [q]
     have h4:r=(acc++[([],true)])++(tmL t kind n (p3+1)).1:=by rw [h2];simp
     have tl2:(acc++[(([],true):Cel)]).length=acc.length+1:=by simp
     generalize acc++[(x,false)]=acc1 at *
     generalize acc++[(([],true):Cel)]=acc2 at *
     simp (config:={maxSteps:=1000000}) (disch:=((try simp only [awL]);omega)) only [QR,QS,QT,QU,QV,QW,QX,QY,QZ,Q0,Q1,Q2,al,tl,↓awU,awV,awF,Qa,Qb,Qc,Qd,forall_const,↓reduceIte,↓reduceDIte,↓Qe,Qf,Qg,Qh,Qi,Qj,Qk,Ql,Qm,Qn,Qo,Qp,Qq,Qr,Qs,implies_true,Qt,Qu,Qv,Qw,Qx,Qy,Qz,QA,QB,QC,QD,QE,QF,QG,QH,QI,QJ,QK,QL,QM,QN,QO,QP,QQ]
     have st2:List.take (acc.length*2) (celsD acc1)++[D.bool true,D.str ByteArray.empty]++List.drop (acc.length*2+2) (celsD acc1)=celsD acc2:=st
     rw [st2]
     first
     | exact ⟨by rw [celsD_length];omega,(acc2,n,p3+1),⟨by simp only;omega,h4,h3⟩,by simp only;omega,⟨[some 0,some 1,some 2,some 5],rfl,by simp,by simp [setsA,keepA,SWeak,AWeak],by simp [HWeak,BWeak,SWeak,AWeak,tl2]⟩⟩
    ·rw [if_neg q] at h2
     have q0:(pk t p3 6=0)=False:=eq_false q
     have h4:r=(acc++[(x,false)])++(tmL t kind n (p3+1)).1:=by rw [h2];simp
     generalize acc++[(x,false)]=acc2 at *
     simp (config:={maxSteps:=1000000}) (disch:=((try simp only [awL]);omega)) only [QR,QS,QT,QU,QV,QW,QX,QY,QZ,Q0,Q1,Q2,al,q0,↓awU,awV,awF,Qa,Qb,Qc,Qd,forall_const,↓reduceIte,↓reduceDIte,↓Qe,Qf,Qg,Qh,Qi,Qj,Qk,Ql,Qm,Qn,Qo,Qp,Qq,Qr,Qs,implies_true,Qt,Qu,Qv,Qw,Qx,Qy,Qz,QA,QB,QC,QD,QE,QF,QG,QH,QI,QJ,QK,QL,QM,QN,QO,QP,QQ]
     first
     | exact ⟨(acc2,n,p3+1),⟨by simp only;omega,h4,h3⟩,by simp only;omega,⟨[some 0,some 1,some 2,some 5],rfl,by simp,by simp [setsA,keepA,SWeak,AWeak],by simp [HWeak,BWeak,SWeak,AWeak,tl]⟩⟩
   ·have e70:(pk t p 7=0)=False:=eq_false e7
    simp only [if_neg e7] at h2 h3
    simp (config:={maxSteps:=1000000}) (disch:=((try simp only [awL]);omega)) only [QR,QS,QT,QU,QV,QW,QX,QY,QZ,Q0,Q1,Q2,e70,al,↓awU,awV,awF,Qa,Qb,Qc,Qd,forall_const,↓reduceIte,↓reduceDIte,↓Qe,Qf,Qg,Qh,Qi,Qj,Qk,Ql,Qm,Qn,Qo,Qp,Qq,Qr,Qs,implies_true,Qt,Qu,Qv,Qw,Qx,Qy,Qz,QA,QB,QC,QD,QE,QF,QG,QH,QI,QJ,QK,QL,QM,QN,QO,QP,QQ]
    refine CallC.by (field_mspec t (p+1) kind ht (by omega)) (by rfl) (by rfl) (Nat.le_refl _) ?_
    have xl:=(fieldM_ok t (p+1) kind).2
    generalize fieldM t (p+1) kind=x at *
    generalize fieldK t (p+1) kind=p3 at *
    have sp:=celsD_pushY acc (x,false)
    have tl:(acc++[(x,false)]).length=acc.length+1:=by simp
    have st:=@celsD_setY acc (x,false) ([],true)
    simp only at sp
    have cu2:cut [D.bool false,D.str (bs x)] 0 2=[D.bool false,D.str (bs x)]:=rfl
    simp (config:={maxSteps:=1000000}) (disch:=((try simp only [awL]);omega)) only [QR,QS,QT,QU,QV,QW,QX,QY,QZ,Q0,Q1,Q2,al,cu2,sp,List.length_cons,List.length_nil,↓awU,awV,awF,Qa,Qb,Qc,Qd,forall_const,↓reduceIte,↓reduceDIte,↓Qe,Qf,Qg,Qh,Qi,Qj,Qk,Ql,Qm,Qn,Qo,Qp,Qq,Qr,Qs,implies_true,Qt,Qu,Qv,Qw,Qx,Qy,Qz,QA,QB,QC,QD,QE,QF,QG,QH,QI,QJ,QK,QL,QM,QN,QO,QP,QQ]
    try refine ⟨by rfl,?_⟩
    try simp (config:={maxSteps:=1000000}) (disch:=((try simp only [awL]);omega)) only [QR,QS,QT,QU,QV,QW,QX,QY,QZ,Q0,Q1,Q2,al,cu2,sp,List.length_cons,List.length_nil,↓awU,awV,awF,Qa,Qb,Qc,Qd,forall_const,↓reduceIte,↓reduceDIte,↓Qe,Qf,Qg,Qh,Qi,Qj,Qk,Ql,Qm,Qn,Qo,Qp,Qq,Qr,Qs,implies_true,Qt,Qu,Qv,Qw,Qx,Qy,Qz,QA,QB,QC,QD,QE,QF,QG,QH,QI,QJ,QK,QL,QM,QN,QO,QP,QQ]
    refine CallC.by (pick_spec t p3 6 ht (by decide) (by decide)) (by rfl) (by rfl) (Nat.le_refl _) ?_
    by_cases q:pk t p3 6=0
    ·rw [if_pos q] at h2
     rw [q]
     have h4:r=(acc++[([],true)])++(tmL t kind n (p3+1)).1:=by rw [h2];simp
     have tl2:(acc++[(([],true):Cel)]).length=acc.length+1:=by simp
     generalize acc++[(x,false)]=acc1 at *
     generalize acc++[(([],true):Cel)]=acc2 at *
     simp (config:={maxSteps:=1000000}) (disch:=((try simp only [awL]);omega)) only [QR,QS,QT,QU,QV,QW,QX,QY,QZ,Q0,Q1,Q2,al,tl,↓awU,awV,awF,Qa,Qb,Qc,Qd,forall_const,↓reduceIte,↓reduceDIte,↓Qe,Qf,Qg,Qh,Qi,Qj,Qk,Ql,Qm,Qn,Qo,Qp,Qq,Qr,Qs,implies_true,Qt,Qu,Qv,Qw,Qx,Qy,Qz,QA,QB,QC,QD,QE,QF,QG,QH,QI,QJ,QK,QL,QM,QN,QO,QP,QQ]
     have st2:List.take (acc.length*2) (celsD acc1)++[D.bool true,D.str ByteArray.empty]++List.drop (acc.length*2+2) (celsD acc1)=celsD acc2:=st
     rw [st2]
     first
     | exact ⟨by rw [celsD_length];omega,(acc2,n,p3+1),⟨by simp only;omega,h4,h3⟩,by simp only;omega,⟨[some 0,some 1,some 2,some 5],rfl,by simp,by simp [setsA,keepA,SWeak,AWeak],by simp [HWeak,BWeak,SWeak,AWeak,tl2]⟩⟩
    ·rw [if_neg q] at h2
     have q0:(pk t p3 6=0)=False:=eq_false q
     have h4:r=(acc++[(x,false)])++(tmL t kind n (p3+1)).1:=by rw [h2];simp
     generalize acc++[(x,false)]=acc2 at *
     simp (config:={maxSteps:=1000000}) (disch:=((try simp only [awL]);omega)) only [QR,QS,QT,QU,QV,QW,QX,QY,QZ,Q0,Q1,Q2,al,q0,↓awU,awV,awF,Qa,Qb,Qc,Qd,forall_const,↓reduceIte,↓reduceDIte,↓Qe,Qf,Qg,Qh,Qi,Qj,Qk,Ql,Qm,Qn,Qo,Qp,Qq,Qr,Qs,implies_true,Qt,Qu,Qv,Qw,Qx,Qy,Qz,QA,QB,QC,QD,QE,QF,QG,QH,QI,QJ,QK,QL,QM,QN,QO,QP,QQ]
     first
     | exact ⟨(acc2,n,p3+1),⟨by simp only;omega,h4,h3⟩,by simp only;omega,⟨[some 0,some 1,some 2,some 5],rfl,by simp,by simp [setsA,keepA,SWeak,AWeak],by simp [HWeak,BWeak,SWeak,AWeak,tl]⟩⟩
end Go.Proofs.YtdpjcghiegggbaaGreatDoor
namespace Go.Proofs.YtdpjcghiegggbaaGreatDoor
open Go Go.Proofs Go.Abs
variable {G:Globals}
theorem gsT_kOf (l:List Cel):kOf (gsT l):=by
 obtain ⟨k,hk,_,_,e⟩:=gsT_of l
 rw [e]
 split
 ·exact .inl rfl
 ·exact hk
theorem gsT_fits (l:List Cel):l.all (fitT (gsT l))=true:=by
 obtain ⟨k,hk,_,z,e⟩:=gsT_of l
 rw [e,List.all_eq_true]
 intro x hx
 unfold fitT
 split
 ·next c =>
  have:=List.countP_eq_zero.1 c x hx
  unfold vsT at this
  cases q:x.2<;>simp_all
 ·have:=List.countP_eq_zero.1 z x hx
  unfold noT at this
  cases q:x.2<;>simp_all
end Go.Proofs.YtdpjcghiegggbaaGreatDoor
namespace Go.Proofs.YtdpjcghiegggbaaGreatDoor
open Go Go.Proofs Go.Abs
variable {G:Globals}
def FrN:List Rat→List D
 | []=>[]
 | x::l=>.bool (decide (x.num<0))::Num.W (Num.toW x.num.natAbs)::.bool false::Num.W (Num.toW x.den)::FrN l
theorem FrN_length {l:List Rat}:(FrN l).length=4*l.length:=by
 induction l with
 | nil=>rfl
 | cons x l ih=>simp only [FrN,List.length_cons,ih];omega
theorem FrN_app {l m:List Rat}:FrN (l++m)=FrN l++FrN m:=by
 induction l with
 | nil=>rfl
 | cons x l ih=>simp [FrN,ih]
theorem FrN_push {l:List Rat} {x:Rat}:FrN l++[.bool (decide (x.num<0)),Num.W (Num.toW x.num.natAbs),.bool false,Num.W (Num.toW x.den)]=FrN (l++[x]):=by rw [FrN_app];rfl
theorem cut_4N {a b c d:D}:cut [a,b,c,d] 0 4=[a,b,c,d]:=rfl
def okN (x:Cel):Bool:=x.2 || okV 4 x.1
def numsT (l:List Cel):List Rat:=(l.filter vsT).map fun x=>vlK 4 x.1
def numR (l:List Cel):D:=.tup [if l.all okN=true then .sl (numsT l).length false (FrN (numsT l)) else .sl 0 false [],.bool (l.all okN && decide (0<(numsT l).length))]
theorem numsT_len (l:List Cel):(numsT l).length=l.countP vsT:=by unfold numsT;rw [List.length_map,List.countP_eq_length_filter]
theorem numsT_step {l:List Cel} {i:Nat} (h:i<l.length):numsT (l.take (i+1))=numsT (l.take i)++(if vsT (l.getD i noC)=true then [vlK 4 (l.getD i noC).1] else []):=by
 unfold numsT
 rw [List.take_add_one,getD_some (d:=noC) h]
 generalize l.getD i noC=x
 cases e:vsT x<;>simp [List.filter_append,e]
set_option maxHeartbeats 16000000 in
set_option maxRecDepth 100000 in
theorem tnumbers_spec (hG:Num.HG G) (hE:HE G) (hP:HP G) (nm:List UInt8) (l:List Cel) (full:Bool) (hl:okY l) :
  Ctr Tryz.prog G 35 [.d (.agg [S nm,CelS l full])] [] (.d (numR l)) []:=by
 obtain ⟨r,hr⟩:∃ r,r=numR l:=⟨_,rfl⟩
 rw [← hr]
 unfold numR at hr
 have lc:=celsD_length l
 have l1:=hl.1
 refine Ctr.pure (M:=M0) hmix Tryz.func35 rfl go35 ?_
 simp (config:={maxSteps:=1000000}) (disch:=((try simp only [awL]);omega)) only [QR,QS,QT,QU,QV,QW,QX,QY,QZ,Q0,Q1,Q2,lc,Tryz.f35,↓awU,awV,awF,Qa,Qb,Qc,Qd,forall_const,↓reduceIte,↓reduceDIte,↓Qe,Qf,Qg,Qh,Qi,Qj,Qk,Ql,Qm,Qn,Qo,Qp,Qq,Qr,Qs,implies_true,Qt,Qu,Qv,Qw,Qx,Qy,Qz,QA,QB,QC,QD,QE,QF,QG,QH,QI,QJ,QK,QL,QM,QN,QO,QP,QQ]
 refine LoopC.fr 3072 (α:=Nat) (fun i=>l.length - i) (fun i=>[(4,.lsl 1 4 0 (numsT (l.take i)).length),(12,.d (.int .i64 (i:Nat)))])
  (fun i=>[.box [.d (S nm),.d (CelS l full)],.row false (FrN (numsT (l.take i)))]) (fun i=>i≤l.length∧(l.take i).all okN=true) 0 ⟨Nat.zero_le _,rfl⟩ ?_ ?_
 ·first
  | exact ⟨[some 0,none],rfl,by simp,by simp [setsA,keepA,SWeak,AWeak,numsT],by simp [HWeak,BWeak,SWeak,AWeak,numsT,FrN]⟩
 ·rintro i ⟨hi,ha⟩
  have nl:(numsT (l.take i)).length≤1000000:=by
   rw [numsT_len];exact Nat.le_trans List.countP_le_length (by rw [List.length_take];omega)
  have fl:=@FrN_length (numsT (l.take i))
  simp only [awK,Nat.reduceMod,Nat.reduceDiv,reduceIte]
  rcases Nat.lt_or_ge i l.length with h | h
  ·have gc:=celsD_get h
   have gx:=hl.at h
   have at1:=@all_takeU l okN i h ha
   have st:=numsT_step h
   rcases hx:l.getD i noC with ⟨t,nul⟩
   rw [hx] at gc gx at1 st
   simp only at gx
   cases nul
   ·have mf:okN (t,false)=okV 4 t:=rfl
    rw [mf] at at1
    rw [show vsT (t,false)=true from rfl,if_pos rfl] at st
    have st:numsT (l.take (i+1))=numsT (l.take i)++[vlK 4 t]:=st
    have gc:((celsD l).drop (i*2)).take 2=[.bool false,S t]:=gc
    have nf:okV 4 t=false→l.all okN=false:=fun q=>by
     cases q2:l.all okN
     ·rfl
     ·have:=List.all_eq_true.1 q2 _ (memD (d:=noC) h)
      rw [hx,mf,q] at this
      cases this
    have vs:=value_spec hG hE hP 4 (by decide) (by decide) t gx
    unfold valE at vs
    have sp:=@FrN_push (numsT (l.take i)) (vlK 4 t)
    rw [← st] at sp
    have tl:(numsT (l.take (i+1))).length=(numsT (l.take i)).length+1:=by rw [st];simp
    generalize okV 4 t=o at *
    generalize vlK 4 t=y at *
    simp (config:={maxSteps:=1000000}) (disch:=((try simp only [awL]);omega)) only [QR,QS,QT,QU,QV,QW,QX,QY,QZ,Q0,Q1,Q2,lc,gc,↓awU,awV,awF,Qa,Qb,Qc,Qd,forall_const,↓reduceIte,↓reduceDIte,↓Qe,Qf,Qg,Qh,Qi,Qj,Qk,Ql,Qm,Qn,Qo,Qp,Qq,Qr,Qs,implies_true,Qt,Qu,Qv,Qw,Qx,Qy,Qz,QA,QB,QC,QD,QE,QF,QG,QH,QI,QJ,QK,QL,QM,QN,QO,QP,QQ]
    refine CallC.of vs (by rfl) ?_
    generalize numsT (l.take i)=A at *
    generalize hB:numsT (l.take (i+1))=B at *
    cases o
    ·rw [nf rfl,if_neg Bool.false_ne_true] at hr
     subst hr
     simp (config:={maxSteps:=1000000}) (disch:=((try simp only [awL]);omega)) only [QR,QS,QT,QU,QV,QW,QX,QY,QZ,Q0,Q1,Q2,lc,↓awU,awV,awF,Qa,Qb,Qc,Qd,forall_const,↓reduceIte,↓reduceDIte,↓Qe,Qf,Qg,Qh,Qi,Qj,Qk,Ql,Qm,Qn,Qo,Qp,Qq,Qr,Qs,implies_true,Qt,Qu,Qv,Qw,Qx,Qy,Qz,QA,QB,QC,QD,QE,QF,QG,QH,QI,QJ,QK,QL,QM,QN,QO,QP,QQ]
     first | done | rfl
    ·simp (config:={maxSteps:=1000000}) (disch:=((try simp only [awL]);omega)) only [QR,QS,QT,QU,QV,QW,QX,QY,QZ,Q0,Q1,Q2,lc,fl,cut_4N,↓awU,awV,awF,Qa,Qb,Qc,Qd,forall_const,↓reduceIte,↓reduceDIte,↓Qe,Qf,Qg,Qh,Qi,Qj,Qk,Ql,Qm,Qn,Qo,Qp,Qq,Qr,Qs,implies_true,Qt,Qu,Qv,Qw,Qx,Qy,Qz,QA,QB,QC,QD,QE,QF,QG,QH,QI,QJ,QK,QL,QM,QN,QO,QP,QQ]
     first
     | exact ⟨i+1,⟨h,at1 rfl⟩,by simp only;omega,⟨[some 0,some 5],rfl,by simp,by simp [setsA,keepA,SWeak,AWeak,tl,hB],by simp [HWeak,BWeak,SWeak,AWeak,tl,sp,hB]⟩⟩
     | exact ⟨by rfl,i+1,⟨h,at1 rfl⟩,by simp only;omega,⟨[some 0,some 5],rfl,by simp,by simp [setsA,keepA,SWeak,AWeak,tl,hB],by simp [HWeak,BWeak,SWeak,AWeak,tl,sp,hB]⟩⟩
   ·rw [show vsT (t,true)=false from rfl,if_neg Bool.false_ne_true,List.append_nil] at st
    have gc:((celsD l).drop (i*2)).take 2=[.bool true,S t]:=gc
    simp (config:={maxSteps:=1000000}) (disch:=((try simp only [awL]);omega)) only [QR,QS,QT,QU,QV,QW,QX,QY,QZ,Q0,Q1,Q2,lc,gc,↓awU,awV,awF,Qa,Qb,Qc,Qd,forall_const,↓reduceIte,↓reduceDIte,↓Qe,Qf,Qg,Qh,Qi,Qj,Qk,Ql,Qm,Qn,Qo,Qp,Qq,Qr,Qs,implies_true,Qt,Qu,Qv,Qw,Qx,Qy,Qz,QA,QB,QC,QD,QE,QF,QG,QH,QI,QJ,QK,QL,QM,QN,QO,QP,QQ]
    first
    | exact ⟨i+1,⟨h,at1 rfl⟩,by simp only;omega,⟨[some 0,some 1],rfl,by simp,by simp [setsA,keepA,SWeak,AWeak,st],by simp [HWeak,BWeak,SWeak,AWeak,st]⟩⟩
    | exact ⟨by rfl,i+1,⟨h,at1 rfl⟩,by simp only;omega,⟨[some 0,some 1],rfl,by simp,by simp [setsA,keepA,SWeak,AWeak,st],by simp [HWeak,BWeak,SWeak,AWeak,st]⟩⟩
  ·have e:i=l.length:=by omega
   subst e
   rw [List.take_length] at ha nl fl ⊢
   rw [ha,if_pos rfl,Bool.true_and] at hr
   have cu:cut (FrN (numsT l)) 0 ((numsT l).length*4)=FrN (numsT l):=cutA _ _ (by omega)
   generalize numsT l=A at *
   subst hr
   by_cases z:0<A.length
   ·rw [decide_eq_true z]
    simp (config:={maxSteps:=1000000}) (disch:=((try simp only [awL]);omega)) only [QR,QS,QT,QU,QV,QW,QX,QY,QZ,Q0,Q1,Q2,lc,fl,cu,↓awU,awV,awF,Qa,Qb,Qc,Qd,forall_const,↓reduceIte,↓reduceDIte,↓Qe,Qf,Qg,Qh,Qi,Qj,Qk,Ql,Qm,Qn,Qo,Qp,Qq,Qr,Qs,implies_true,Qt,Qu,Qv,Qw,Qx,Qy,Qz,QA,QB,QC,QD,QE,QF,QG,QH,QI,QJ,QK,QL,QM,QN,QO,QP,QQ]
    first | done | rfl
   ·rw [decide_eq_false z]
    simp (config:={maxSteps:=1000000}) (disch:=((try simp only [awL]);omega)) only [QR,QS,QT,QU,QV,QW,QX,QY,QZ,Q0,Q1,Q2,lc,fl,cu,↓awU,awV,awF,Qa,Qb,Qc,Qd,forall_const,↓reduceIte,↓reduceDIte,↓Qe,Qf,Qg,Qh,Qi,Qj,Qk,Ql,Qm,Qn,Qo,Qp,Qq,Qr,Qs,implies_true,Qt,Qu,Qv,Qw,Qx,Qy,Qz,QA,QB,QC,QD,QE,QF,QG,QH,QI,QJ,QK,QL,QM,QN,QO,QP,QQ]
    first | done | rfl
end Go.Proofs.YtdpjcghiegggbaaGreatDoor
namespace Go.Proofs.YtdpjcghiegggbaaGreatDoor
open Go Go.Proofs Go.Abs
variable {G:Globals}
theorem celsD_getG:∀ {l:List Cel} {k:Nat},k<l.length→(celsD l).getD (k*2) .nilp=.bool (l.getD k noC).2∧(celsD l).getD (k*2+1) .nilp=S (l.getD k noC).1
 | [],k,h=>absurd h (Nat.not_lt_zero _)
 | o::l,0,_=>by simp [celsD,CelC]
 | o::l,k+1,h=>by
   have ih:=celsD_getG (l:=l) (k:=k) (by simpa using h)
   have e:celsD (o::l)=.bool o.2::S o.1::celsD l:=rfl
   rw [e,show (k+1)*2=k*2+2 by omega,show k*2+2+1=k*2+1+2 by omega]
   simpa using ih
theorem apT_twice {k:Int} {x:Cel} (h:fitT k x=true):fitT k (apT k x)=true∧apT k (apT k x)=apT k x:=by
 obtain ⟨t,n⟩:=x
 cases n
 ·have h:okK k t=true:=h
  obtain ⟨h1,h2⟩:=can_twice h
  refine ⟨h1,?_⟩
  show ((cnK k (cnK k t),false):Cel)=(cnK k t,false)
  rw [h2]
 ·exact ⟨rfl,rfl⟩
theorem map_twice {k:Int} {l:List Cel} (h:l.all (fitT k)=true):(l.map (apT k)).all (fitT k)=true∧(l.map (apT k)).map (apT k)=l.map (apT k):=by
 have h:=List.all_eq_true.1 h
 constructor
 ·rw [List.all_eq_true]
  intro x hx
  obtain ⟨y,hy,rfl⟩:=List.mem_map.1 hx
  exact (apT_twice (h y hy)).1
 ·rw [List.map_map]
  exact List.map_congr_left fun x hx=>(apT_twice (h x hx)).2
theorem okV_can {k:Int} {t:List UInt8} (h:okK k t=true):okV k (cnK k t)=okV k t∧(k≠1→vlK k (cnK k t)=vlK k t):=by
 obtain ⟨h1,h2⟩:=can_twice h
 have e:okV k (cnK k t)=okV k t:=by unfold okV;rw [h1,h]
 refine ⟨e,fun q=>?_⟩
 have ok:okV k t=true:=by unfold okV;rw [h,decide_eq_false q];rfl
 exact (can_val (by rw [e];exact ok) ok).1 h2
theorem can_num {k:Int} {t:List UInt8} (h:okK k t=true) (hk:k=3∨k=4):okV 4 (cnK k t)=true:=by
 obtain ⟨h1,h2⟩:=can_twice h
 rcases hk with rfl | rfl
 ·have:=(okIn_dec h1).1
  unfold okV;rw [this];rfl
 ·unfold okV;rw [h1];rfl
theorem vs_map (k:Int) (l:List Cel):(l.map (apT k)).countP vsT=l.countP vsT:=by
 rw [List.countP_map]
 apply List.countP_congr
 rintro ⟨t,n⟩ _
 cases n<;>exact Iff.rfl
theorem guess_num (l:List Cel):∃ (a:Nat) (A:List D) (b:Bool),numR (l.map (apT (gsT l)))=.tup [.sl a false A,.bool b]∧(gsT l=3∨gsT l=4→b=true∧a=l.countP vsT)∧(l.countP vsT=0→gsT l=1∧b=false):=by
 have fit:=List.all_eq_true.1 (gsT_fits l)
 obtain ⟨k,hk,_,_,e⟩:=gsT_of l
 have nl:=numsT_len (l.map (apT (gsT l)))
 rw [vs_map] at nl
 unfold numR
 by_cases c:(l.map (apT (gsT l))).all okN=true
 ·rw [if_pos c,c,Bool.true_and]
  refine ⟨_,_,_,rfl,fun q=>⟨decide_eq_true ?_,nl⟩,fun q=>⟨by rw [e,if_pos q],decide_eq_false (by omega)⟩⟩
  rw [nl]
  refine Nat.pos_of_ne_zero fun z=>?_
  rw [if_pos z] at e
  omega
 ·rw [if_neg c,Bool.eq_false_iff.2 c,Bool.false_and]
  refine ⟨_,_,_,rfl,fun q=>absurd ?_ c,fun q=>⟨by rw [e,if_pos q],rfl⟩⟩
  rw [List.all_eq_true]
  intro x hx
  obtain ⟨⟨t,n⟩,hy,rfl⟩:=List.mem_map.1 hx
  cases n
  ·have:=fit _ hy
   have ok:okK (gsT l) t=true:=this
   show okV 4 (cnK (gsT l) t)=true
   exact can_num ok q
  ·rfl
theorem tapR_fit {nm:List UInt8} {k:Int} {l:List Cel} (hk:kOf k) (h:l.all (fitT k)=true):tapR nm k l=.tup [.agg [S nm,CelS (l.map (apT k)) false],.int .i64 0]:=by
 have e:tapE k l=0:=by unfold tapE;rw [if_pos hk,if_pos h]
 unfold tapR
 rw [e];rfl
set_option maxHeartbeats 32000000 in
set_option maxRecDepth 100000 in
theorem tguess_law (hG:Num.HG G) (hE:HE G) (hP:HP G) (hO:HO G) (t:List Int) (ht:OkS t) (hl:t.length≤9223372036854775807) :
  Ctr Tryz.prog G 7 [.d (.sl t.length false (ints .u8 t))] [] (.d (.bool true)) []:=by
 refine Ctr.pure (M:=M0) hmix Tryz.func7 rfl go7 ?_
 have hmm:=ht.take
 simp (config:={maxSteps:=1000000}) (disch:=((try simp only [awL]);omega)) only [QR,QS,QT,QU,QV,QW,QX,QY,QZ,Q0,Q1,Q2,Tryz.f7,↓awU,awV,awF,Qa,Qb,Qc,Qd,forall_const,↓reduceIte,↓reduceDIte,↓Qe,Qf,Qg,Qh,Qi,Qj,Qk,Ql,Qm,Qn,Qo,Qp,Qq,Qr,Qs,implies_true,Qt,Qu,Qv,Qw,Qx,Qy,Qz,QA,QB,QC,QD,QE,QF,QG,QH,QI,QJ,QK,QL,QM,QN,QO,QP,QQ]
 refine CallC.pure (tsane_spec (G:=G) hG) ?_
 simp (config:={maxSteps:=1000000}) (disch:=((try simp only [awL]);omega)) only [QR,QS,QT,QU,QV,QW,QX,QY,QZ,Q0,Q1,Q2,↓awU,awV,awF,Qa,Qb,Qc,Qd,forall_const,↓reduceIte,↓reduceDIte,↓Qe,Qf,Qg,Qh,Qi,Qj,Qk,Ql,Qm,Qn,Qo,Qp,Qq,Qr,Qs,implies_true,Qt,Qu,Qv,Qw,Qx,Qy,Qz,QA,QB,QC,QD,QE,QF,QG,QH,QI,QJ,QK,QL,QM,QN,QO,QP,QQ]
 refine CallC.by (new_spec t hl) (by rfl) (by rfl) (Nat.zero_le _) ?_
 generalize t.take 300=t0 at *
 simp (config:={maxSteps:=1000000}) (disch:=((try simp only [awL]);omega)) only [QR,QS,QT,QU,QV,QW,QX,QY,QZ,Q0,Q1,Q2,↓awU,awV,awF,Qa,Qb,Qc,Qd,forall_const,↓reduceIte,↓reduceDIte,↓Qe,Qf,Qg,Qh,Qi,Qj,Qk,Ql,Qm,Qn,Qo,Qp,Qq,Qr,Qs,implies_true,Qt,Qu,Qv,Qw,Qx,Qy,Qz,QA,QB,QC,QD,QE,QF,QG,QH,QI,QJ,QK,QL,QM,QN,QO,QP,QQ]
 refine CallC.by (tmade_spec t0 0 hmm) (by rfl) (by rfl) (Nat.le_refl _) ?_
 have l7:=(madeT_ok t0 0).1
 have x30:=(madeT_ok t0 0).2
 generalize madeTK t0 0=k2 at *
 generalize madeT t0 0=l at *
 have lc:=celsD_length l
 have ok:okY l:=⟨by omega,fun x hx=>by have:=x30 x hx;omega⟩
 have fit:=gsT_fits l
 have gn:=guess_num l
 have kf:=gsT_kOf l
 have gs:=guess_spec hG hE hP hO [99] l false ok
 have lx:(l.map (apT (gsT l))).length=l.length:=by simp
 have okx:okY (l.map (apT (gsT l))):=by
  refine ⟨by omega,fun x hx=>?_⟩
  obtain ⟨⟨t,n⟩,hy,rfl⟩:=List.mem_map.1 hx
  cases n
  ·have ok:okK (gsT l) t=true:=List.all_eq_true.1 fit _ hy
   have:=cnK_len ok (x30 _ hy) (by decide)
   show (cnK (gsT l) t).length≤2000000
   omega
  ·have:=x30 _ hy
   show t.length≤2000000
   have h2:t.length≤30:=this
   omega
 obtain ⟨m1,m2⟩:=map_twice fit
 have a1:=tapply_spec hG hE hP [99] l false ok (gsT l) (by unfold kOf at kf;omega) (by unfold kOf at kf;omega)
 have a2:=tapply_spec hG hE hP [99] (l.map (apT (gsT l))) false okx (gsT l) (by unfold kOf at kf;omega) (by unfold kOf at kf;omega)
 rw [tapR_fit kf fit] at a1
 rw [tapR_fit kf m1,m2] at a2
 have nu:=tnumbers_spec hG hE hP [99] (l.map (apT (gsT l))) false okx
 have sc:=sameCells_spec (G:=G) ⟨[99],l.map (apT (gsT l))⟩ false false (by show (l.map (apT (gsT l))).length≤1000000;omega)
 obtain ⟨nA,A,b,hn,gn1,gn2⟩:=gn
 rw [hn] at nu
 have hX:∀ i,i<l.length→(l.map (apT (gsT l))).getD i noC=apT (gsT l) (l.getD i noC):=fun i h=>by
  rw [List.getD_eq_getElem?_getD,List.getElem?_map,List.getD_eq_getElem?_getD,List.getElem?_eq_getElem h];rfl
 have lcx:=celsD_length (l.map (apT (gsT l)))
 clear m1 m2 hn
 generalize l.map (apT (gsT l))=X at *
 generalize gsT l=K at *
 rw [lx] at lcx
 unfold CelS at a1 a2 nu sc
 simp only at sc
 rw [lx] at a1 a2 nu sc
 simp (config:={maxSteps:=1000000}) (disch:=((try simp only [awL]);omega)) only [QR,QS,QT,QU,QV,QW,QX,QY,QZ,Q0,Q1,Q2,lc,↓awU,awV,awF,Qa,Qb,Qc,Qd,forall_const,↓reduceIte,↓reduceDIte,↓Qe,Qf,Qg,Qh,Qi,Qj,Qk,Ql,Qm,Qn,Qo,Qp,Qq,Qr,Qs,implies_true,Qt,Qu,Qv,Qw,Qx,Qy,Qz,QA,QB,QC,QD,QE,QF,QG,QH,QI,QJ,QK,QL,QM,QN,QO,QP,QQ]
 refine CallC.of gs (by rfl) ?_
 simp (config:={maxSteps:=1000000}) (disch:=((try simp only [awL]);omega)) only [QR,QS,QT,QU,QV,QW,QX,QY,QZ,Q0,Q1,Q2,lc,↓awU,awV,awF,Qa,Qb,Qc,Qd,forall_const,↓reduceIte,↓reduceDIte,↓Qe,Qf,Qg,Qh,Qi,Qj,Qk,Ql,Qm,Qn,Qo,Qp,Qq,Qr,Qs,implies_true,Qt,Qu,Qv,Qw,Qx,Qy,Qz,QA,QB,QC,QD,QE,QF,QG,QH,QI,QJ,QK,QL,QM,QN,QO,QP,QQ]
 refine CallC.of a1 (by rfl) ?_
 simp (config:={maxSteps:=1000000}) (disch:=((try simp only [awL]);omega)) only [QR,QS,QT,QU,QV,QW,QX,QY,QZ,Q0,Q1,Q2,lc,lcx,↓awU,awV,awF,Qa,Qb,Qc,Qd,forall_const,↓reduceIte,↓reduceDIte,↓Qe,Qf,Qg,Qh,Qi,Qj,Qk,Ql,Qm,Qn,Qo,Qp,Qq,Qr,Qs,implies_true,Qt,Qu,Qv,Qw,Qx,Qy,Qz,QA,QB,QC,QD,QE,QF,QG,QH,QI,QJ,QK,QL,QM,QN,QO,QP,QQ]
 refine CallC.of a2 (by rfl) ?_
 simp (config:={maxSteps:=1000000}) (disch:=((try simp only [awL]);omega)) only [QR,QS,QT,QU,QV,QW,QX,QY,QZ,Q0,Q1,Q2,lc,lcx,↓awU,awV,awF,Qa,Qb,Qc,Qd,forall_const,↓reduceIte,↓reduceDIte,↓Qe,Qf,Qg,Qh,Qi,Qj,Qk,Ql,Qm,Qn,Qo,Qp,Qq,Qr,Qs,implies_true,Qt,Qu,Qv,Qw,Qx,Qy,Qz,QA,QB,QC,QD,QE,QF,QG,QH,QI,QJ,QK,QL,QM,QN,QO,QP,QQ]
 refine CallC.of sc (by rfl) ?_
 simp (config:={maxSteps:=1000000}) (disch:=((try simp only [awL]);omega)) only [QR,QS,QT,QU,QV,QW,QX,QY,QZ,Q0,Q1,Q2,lc,lcx,↓awU,awV,awF,Qa,Qb,Qc,Qd,forall_const,↓reduceIte,↓reduceDIte,↓Qe,Qf,Qg,Qh,Qi,Qj,Qk,Ql,Qm,Qn,Qo,Qp,Qq,Qr,Qs,implies_true,Qt,Qu,Qv,Qw,Qx,Qy,Qz,QA,QB,QC,QD,QE,QF,QG,QH,QI,QJ,QK,QL,QM,QN,QO,QP,QQ]
 refine LoopC.fx 221360928884514619488 (α:=Nat) (β:=Unit) (fun x=>l.length - x) (fun x=>[(10,.d (.int .i64 ((l.take x).countP vsT:Nat))),(68,.d (.int .i64 (x:Nat)))])
  (fun _=>[.dead,.box [.d (S [99]),.d (.sl l.length false (celsD l))],.box [.d (S [99]),.d (.sl l.length false (celsD X))],.dead]) (fun x=>x≤l.length)
  96 (fun _=>[(10,.d (.int .i64 (l.countP vsT:Nat)))]) (fun _=>[.dead,.box [.d (S [99]),.d (.sl l.length false (celsD l))],.box [.d (S [99]),.d (.sl l.length false (celsD X))],.dead]) (fun _=>True) 0 (Nat.zero_le _) ?_ ?_ ?_
 ·first | exact ⟨[some 0,some 1,some 2,some 3],rfl,by simp,by simp [setsA,keepA,SWeak,AWeak],by simp [HWeak,BWeak,SWeak,AWeak]⟩
 ·intro i h1
  have ct:=countP_le_n9 vsT (m:=7) l7 i
  simp only [awK,Nat.reduceMod,Nat.reduceDiv,reduceIte]
  rcases Nat.lt_or_ge i l.length with h | h
  ·have gc:=celsD_get h
   have co:=countP_step9 vsT h
   have gX:=celsD_getG (l:=X) (k:=i) (by omega)
   rw [hX i h] at gX
   have fi:=List.all_eq_true.1 fit _ (memD (d:=noC) h)
   have x3:=x30 _ (memD (d:=noC) h)
   generalize l.getD i noC=x at *
   obtain ⟨tx,nul⟩:=x
   have gc:((celsD l).drop (i*2)).take 2=[.bool nul,S tx]:=gc
   cases nul
   ·have fi:okK K tx=true:=fi
    have gX1:(celsD X).getD (i*2) .nilp=.bool false:=gX.1
    have gX2:(celsD X).getD (i*2+1) .nilp=S (cnK K tx):=gX.2
    have x3:tx.length≤30:=x3
    have cl:=cnK_len fi x3 (by decide)
    obtain ⟨v1,v2⟩:=okV_can fi
    have s1:=value_spec hG hE hP K (by unfold kOf at kf;omega) (by unfold kOf at kf;omega) tx (by omega)
    have s2:=value_spec hG hE hP K (by unfold kOf at kf;omega) (by unfold kOf at kf;omega) (cnK K tx) (by omega)
    unfold valE at s1 s2
    have oe:okV K tx=!decide (K=1):=by unfold okV;rw [fi];rfl
    rw [v1] at s2
    rw [show vsT (tx,false)=true from rfl,if_pos rfl] at co
    by_cases k1:K=1
    ·rw [k1] at oe s1 s2 gX2
     rw [show cnK 1 tx=tx from rfl] at gX2 s2
     rw [oe,if_neg (by decide)] at s1 s2
     rw [k1]
     simp (config:={maxSteps:=1000000}) (disch:=((try simp only [awL]);omega)) only [QR,QS,QT,QU,QV,QW,QX,QY,QZ,Q0,Q1,Q2,lc,gc,lcx,gX1,gX2,↓awU,awV,awF,Qa,Qb,Qc,Qd,forall_const,↓reduceIte,↓reduceDIte,↓Qe,Qf,Qg,Qh,Qi,Qj,Qk,Ql,Qm,Qn,Qo,Qp,Qq,Qr,Qs,implies_true,Qt,Qu,Qv,Qw,Qx,Qy,Qz,QA,QB,QC,QD,QE,QF,QG,QH,QI,QJ,QK,QL,QM,QN,QO,QP,QQ]
     first | refine CallC.of s1 (by rfl) ?_ | refine ⟨by rfl,CallC.of s1 (by rfl) ?_⟩
     simp (config:={maxSteps:=1000000}) (disch:=((try simp only [awL]);omega)) only [QR,QS,QT,QU,QV,QW,QX,QY,QZ,Q0,Q1,Q2,lc,gc,lcx,gX1,gX2,↓awU,awV,awF,Qa,Qb,Qc,Qd,forall_const,↓reduceIte,↓reduceDIte,↓Qe,Qf,Qg,Qh,Qi,Qj,Qk,Ql,Qm,Qn,Qo,Qp,Qq,Qr,Qs,implies_true,Qt,Qu,Qv,Qw,Qx,Qy,Qz,QA,QB,QC,QD,QE,QF,QG,QH,QI,QJ,QK,QL,QM,QN,QO,QP,QQ]
     first | refine CallC.of s2 (by rfl) ?_ | refine ⟨by rfl,CallC.of s2 (by rfl) ?_⟩
     simp (config:={maxSteps:=1000000}) (disch:=((try simp only [awL]);omega)) only [QR,QS,QT,QU,QV,QW,QX,QY,QZ,Q0,Q1,Q2,lc,gc,lcx,gX1,gX2,↓awU,awV,awF,Qa,Qb,Qc,Qd,forall_const,↓reduceIte,↓reduceDIte,↓Qe,Qf,Qg,Qh,Qi,Qj,Qk,Ql,Qm,Qn,Qo,Qp,Qq,Qr,Qs,implies_true,Qt,Qu,Qv,Qw,Qx,Qy,Qz,QA,QB,QC,QD,QE,QF,QG,QH,QI,QJ,QK,QL,QM,QN,QO,QP,QQ]
     first
     | exact ⟨i+1,h,by simp only;omega,⟨[some 0,some 1,some 2,some 3],rfl,by simp,by simp [setsA,keepA,SWeak,AWeak,co],by simp [HWeak,BWeak,SWeak,AWeak]⟩⟩
     | exact ⟨by rfl,i+1,h,by simp only;omega,⟨[some 0,some 1,some 2,some 3],rfl,by simp,by simp [setsA,keepA,SWeak,AWeak,co],by simp [HWeak,BWeak,SWeak,AWeak]⟩⟩
    ·have k1':(K=1)=False:=eq_false k1
     have ov:okV K tx=true:=by rw [oe,decide_eq_false k1];rfl
     have fv:=vlK_fv ov
     rw [v2 k1] at s2
     rw [ov,if_pos rfl] at s1 s2
     have cm:=Num.rcmpF_spec (G:=G) (vlK K tx) (vlK K tx) fv fv
     rw [Num.cmpQ_zero'.2 rfl] at cm
     generalize vlK K tx=V at *
     generalize cnK K tx=Y at *
     simp (config:={maxSteps:=1000000}) (disch:=((try simp only [awL]);omega)) only [QR,QS,QT,QU,QV,QW,QX,QY,QZ,Q0,Q1,Q2,lc,gc,lcx,gX1,gX2,k1',↓awU,awV,awF,Qa,Qb,Qc,Qd,forall_const,↓reduceIte,↓reduceDIte,↓Qe,Qf,Qg,Qh,Qi,Qj,Qk,Ql,Qm,Qn,Qo,Qp,Qq,Qr,Qs,implies_true,Qt,Qu,Qv,Qw,Qx,Qy,Qz,QA,QB,QC,QD,QE,QF,QG,QH,QI,QJ,QK,QL,QM,QN,QO,QP,QQ]
     first | refine CallC.of s1 (by rfl) ?_ | refine ⟨by rfl,CallC.of s1 (by rfl) ?_⟩
     simp (config:={maxSteps:=1000000}) (disch:=((try simp only [awL]);omega)) only [QR,QS,QT,QU,QV,QW,QX,QY,QZ,Q0,Q1,Q2,lc,gc,lcx,gX1,gX2,k1',↓awU,awV,awF,Qa,Qb,Qc,Qd,forall_const,↓reduceIte,↓reduceDIte,↓Qe,Qf,Qg,Qh,Qi,Qj,Qk,Ql,Qm,Qn,Qo,Qp,Qq,Qr,Qs,implies_true,Qt,Qu,Qv,Qw,Qx,Qy,Qz,QA,QB,QC,QD,QE,QF,QG,QH,QI,QJ,QK,QL,QM,QN,QO,QP,QQ]
     first | refine CallC.of s2 (by rfl) ?_ | refine ⟨by rfl,CallC.of s2 (by rfl) ?_⟩
     simp (config:={maxSteps:=1000000}) (disch:=((try simp only [awL]);omega)) only [QR,QS,QT,QU,QV,QW,QX,QY,QZ,Q0,Q1,Q2,lc,gc,lcx,gX1,gX2,k1',↓awU,awV,awF,Qa,Qb,Qc,Qd,forall_const,↓reduceIte,↓reduceDIte,↓Qe,Qf,Qg,Qh,Qi,Qj,Qk,Ql,Qm,Qn,Qo,Qp,Qq,Qr,Qs,implies_true,Qt,Qu,Qv,Qw,Qx,Qy,Qz,QA,QB,QC,QD,QE,QF,QG,QH,QI,QJ,QK,QL,QM,QN,QO,QP,QQ]
     first | refine CallC.of cm (by rfl) ?_ | refine ⟨by rfl,CallC.of cm (by rfl) ?_⟩
     simp (config:={maxSteps:=1000000}) (disch:=((try simp only [awL]);omega)) only [QR,QS,QT,QU,QV,QW,QX,QY,QZ,Q0,Q1,Q2,lc,gc,lcx,gX1,gX2,k1',↓awU,awV,awF,Qa,Qb,Qc,Qd,forall_const,↓reduceIte,↓reduceDIte,↓Qe,Qf,Qg,Qh,Qi,Qj,Qk,Ql,Qm,Qn,Qo,Qp,Qq,Qr,Qs,implies_true,Qt,Qu,Qv,Qw,Qx,Qy,Qz,QA,QB,QC,QD,QE,QF,QG,QH,QI,QJ,QK,QL,QM,QN,QO,QP,QQ]
     first
     | exact ⟨i+1,h,by simp only;omega,⟨[some 0,some 1,some 2,some 3],rfl,by simp,by simp [setsA,keepA,SWeak,AWeak,co],by simp [HWeak,BWeak,SWeak,AWeak]⟩⟩
     | exact ⟨by rfl,i+1,h,by simp only;omega,⟨[some 0,some 1,some 2,some 3],rfl,by simp,by simp [setsA,keepA,SWeak,AWeak,co],by simp [HWeak,BWeak,SWeak,AWeak]⟩⟩
   ·have gX1:(celsD X).getD (i*2) .nilp=.bool true:=gX.1
    rw [show vsT (tx,true)=false from rfl,if_neg Bool.false_ne_true,Nat.add_zero] at co
    simp (config:={maxSteps:=1000000}) (disch:=((try simp only [awL]);omega)) only [QR,QS,QT,QU,QV,QW,QX,QY,QZ,Q0,Q1,Q2,lc,gc,lcx,gX1,↓awU,awV,awF,Qa,Qb,Qc,Qd,forall_const,↓reduceIte,↓reduceDIte,↓Qe,Qf,Qg,Qh,Qi,Qj,Qk,Ql,Qm,Qn,Qo,Qp,Qq,Qr,Qs,implies_true,Qt,Qu,Qv,Qw,Qx,Qy,Qz,QA,QB,QC,QD,QE,QF,QG,QH,QI,QJ,QK,QL,QM,QN,QO,QP,QQ]
    first
    | exact ⟨i+1,h,by simp only;omega,⟨[some 0,some 1,some 2,some 3],rfl,by simp,by simp [setsA,keepA,SWeak,AWeak,co],by simp [HWeak,BWeak,SWeak,AWeak]⟩⟩
    | exact ⟨by rfl,i+1,h,by simp only;omega,⟨[some 0,some 1,some 2,some 3],rfl,by simp,by simp [setsA,keepA,SWeak,AWeak,co],by simp [HWeak,BWeak,SWeak,AWeak]⟩⟩
  ·have e:i=l.length:=by omega
   subst e
   simp (config:={maxSteps:=1000000}) (disch:=((try simp only [awL]);omega)) only [QR,QS,QT,QU,QV,QW,QX,QY,QZ,Q0,Q1,Q2,lc,List.take_length,↓awU,awV,awF,Qa,Qb,Qc,Qd,forall_const,↓reduceIte,↓reduceDIte,↓Qe,Qf,Qg,Qh,Qi,Qj,Qk,Ql,Qm,Qn,Qo,Qp,Qq,Qr,Qs,implies_true,Qt,Qu,Qv,Qw,Qx,Qy,Qz,QA,QB,QC,QD,QE,QF,QG,QH,QI,QJ,QK,QL,QM,QN,QO,QP,QQ]
   first | exact ⟨(),trivial,⟨[some 0,some 1,some 2,some 3],rfl,by simp,by simp [setsA,keepA,SWeak,AWeak],by simp [HWeak,BWeak,SWeak,AWeak]⟩⟩
 ·rintro ⟨⟩ -
  simp only [awK,Nat.reduceMod,Nat.reduceDiv,reduceIte]
  have ct:l.countP vsT≤7:=Nat.le_trans List.countP_le_length l7
  generalize l.countP vsT=n at *
  simp (config:={maxSteps:=1000000}) (disch:=((try simp only [awL]);omega)) only [QR,QS,QT,QU,QV,QW,QX,QY,QZ,Q0,Q1,Q2,lc,lcx,↓awU,awV,awF,Qa,Qb,Qc,Qd,forall_const,↓reduceIte,↓reduceDIte,↓Qe,Qf,Qg,Qh,Qi,Qj,Qk,Ql,Qm,Qn,Qo,Qp,Qq,Qr,Qs,implies_true,Qt,Qu,Qv,Qw,Qx,Qy,Qz,QA,QB,QC,QD,QE,QF,QG,QH,QI,QJ,QK,QL,QM,QN,QO,QP,QQ]
  refine CallC.of nu (by rfl) ?_
  by_cases k34:K=3∨K=4
  ·obtain ⟨rfl,rfl⟩:=gn1 k34
   have n0:0<nA:=Nat.pos_of_ne_zero fun z=>by have:=(gn2 z).2;cases this
   rcases k34 with rfl | rfl
   ·simp (config:={maxSteps:=1000000}) (disch:=((try simp only [awL]);omega)) only [QR,QS,QT,QU,QV,QW,QX,QY,QZ,Q0,Q1,Q2,↓awU,awV,awF,Qa,Qb,Qc,Qd,forall_const,↓reduceIte,↓reduceDIte,↓Qe,Qf,Qg,Qh,Qi,Qj,Qk,Ql,Qm,Qn,Qo,Qp,Qq,Qr,Qs,implies_true,Qt,Qu,Qv,Qw,Qx,Qy,Qz,QA,QB,QC,QD,QE,QF,QG,QH,QI,QJ,QK,QL,QM,QN,QO,QP,QQ]
    first | done | rfl | exact ⟨by rfl,by rfl⟩
   ·simp (config:={maxSteps:=1000000}) (disch:=((try simp only [awL]);omega)) only [QR,QS,QT,QU,QV,QW,QX,QY,QZ,Q0,Q1,Q2,↓awU,awV,awF,Qa,Qb,Qc,Qd,forall_const,↓reduceIte,↓reduceDIte,↓Qe,Qf,Qg,Qh,Qi,Qj,Qk,Ql,Qm,Qn,Qo,Qp,Qq,Qr,Qs,implies_true,Qt,Qu,Qv,Qw,Qx,Qy,Qz,QA,QB,QC,QD,QE,QF,QG,QH,QI,QJ,QK,QL,QM,QN,QO,QP,QQ]
    first | done | rfl | exact ⟨by rfl,by rfl⟩
  ·have k3:(K=3)=False:=eq_false fun q=>k34 (.inl q)
   have k4:(K=4)=False:=eq_false fun q=>k34 (.inr q)
   by_cases z:n=0
   ·obtain ⟨rfl,rfl⟩:=gn2 z
    subst z
    simp (config:={maxSteps:=1000000}) (disch:=((try simp only [awL]);omega)) only [QR,QS,QT,QU,QV,QW,QX,QY,QZ,Q0,Q1,Q2,↓awU,awV,awF,Qa,Qb,Qc,Qd,forall_const,↓reduceIte,↓reduceDIte,↓Qe,Qf,Qg,Qh,Qi,Qj,Qk,Ql,Qm,Qn,Qo,Qp,Qq,Qr,Qs,implies_true,Qt,Qu,Qv,Qw,Qx,Qy,Qz,QA,QB,QC,QD,QE,QF,QG,QH,QI,QJ,QK,QL,QM,QN,QO,QP,QQ]
    first | done | rfl | exact ⟨by rfl,by rfl⟩
   ·have z2:0<n:=by omega
    simp (config:={maxSteps:=1000000}) (disch:=((try simp only [awL]);omega)) only [QR,QS,QT,QU,QV,QW,QX,QY,QZ,Q0,Q1,Q2,k3,k4,↓awU,awV,awF,Qa,Qb,Qc,Qd,forall_const,↓reduceIte,↓reduceDIte,↓Qe,Qf,Qg,Qh,Qi,Qj,Qk,Ql,Qm,Qn,Qo,Qp,Qq,Qr,Qs,implies_true,Qt,Qu,Qv,Qw,Qx,Qy,Qz,QA,QB,QC,QD,QE,QF,QG,QH,QI,QJ,QK,QL,QM,QN,QO,QP,QQ]
    first | done | rfl | exact ⟨by rfl,by rfl⟩
end Go.Proofs.YtdpjcghiegggbaaGreatDoor
