/-
  A world that lays the variables of unitValues.
-/
import Derived.Test.YtkcghbpghjdgpaaGreatDoorMb3
set_option linter.all false
open Go.Abs renaming ofVal→Qa,ofVal0→Qb,isShift→Qc,aggK→Qd,purePost→Qe,combine→Qf,idsA→Qg,cellsA→Qh,numsOf→Qi,srcA→Qj,calleeA→Qk,refsA→Ql,isScalar→Qm,scalarD→Qn,scalar0→Qo,putL→Qr,unfA→Qs,sidsB→QJ,keyKD→QL,isIntK→QM,aggD→QN,aggL→QO,eqKs→QP,boxRow→QQ,nextC_more→QT,nextC_over→QU,bs_size→QV,bs_extract→QW,bs_toList→QX,bs_append→QY,byteAt_bs→QZ,bs_cells→Q0,nums_length→Q1,nums_getD→Q2
open Go.Abs.AV renaming one→Qp
open Go.Abs.D renaming one→Qq
open Go.IntKind renaming signed→Qt
open Nat renaming reduceAdd→Qu,reduceSub→Qv,reduceMul→Qw,reducePow→Qx,reduceDiv→Qy,reduceMod→Qz,reduceEqDiff→QI,reduceBEq→QK
open Int renaming reduceAdd→QA,reduceSub→QB,reduceMul→QC,reducePow→QD,reduceNeg→QE,reduceToNat→QF,reduceLT→QG,reduceLE→QH
open Option renaming toList_some→QR,toList_none→QS
namespace Go.Proofs.YtkcghbpghjdgpaaGreatDoor
open Go Go.Proofs Go.Abs Go.RowKit Go.ChangeShapes Go.WideShapes Go.ChangeAt
noncomputable def laidWorld_unitValues (os:Os):World :=
 {World.holding Tryz.prog os ⟨#[.cells #[.string ⟨#[118,97,108,117,101,32,111,117,116,32,111,102,32,114,97,110,103,101]⟩] 230,.cells #[.string ⟨#[105,110,118,97,108,105,100,32,115,121,110,116,97,120]⟩] 230,.cells #[.int .u32 1] 98,.cells #[.string ⟨#[107,103]⟩,.string ⟨#[107,103]⟩,.int .i64 1,.int .i64 1,.string ⟨#[103]⟩,.string ⟨#[107,103]⟩,.int .i64 1,.int .i64 1000,.string ⟨#[116]⟩,.string ⟨#[107,103]⟩,.int .i64 1000,.int .i64 1,.string ⟨#[109]⟩,.string ⟨#[109]⟩,.int .i64 1,.int .i64 1,.string ⟨#[107,109]⟩,.string ⟨#[109]⟩,.int .i64 1000,.int .i64 1,.string ⟨#[99,109]⟩,.string ⟨#[109]⟩,.int .i64 1,.int .i64 100,.string ⟨#[109,109]⟩,.string ⟨#[109]⟩,.int .i64 1,.int .i64 1000,.string ⟨#[115]⟩,.string ⟨#[115]⟩,.int .i64 1,.int .i64 1,.string ⟨#[109,105,110]⟩,.string ⟨#[115]⟩,.int .i64 60,.int .i64 1,.string ⟨#[104]⟩,.string ⟨#[115]⟩,.int .i64 3600,.int .i64 1,.string ⟨#[109,115]⟩,.string ⟨#[115]⟩,.int .i64 1,.int .i64 1000,.string ⟨#[37]⟩,.string ⟨#[37]⟩,.int .i64 1,.int .i64 1] 51,.cells #[.string ⟨#[107,103]⟩,.string ⟨#[109]⟩,.string ⟨#[115]⟩,.string ⟨#[37]⟩] 9],#[],[]⟩ with heap:=(((((((((((World.holding Tryz.prog os ⟨#[.cells #[.string ⟨#[118,97,108,117,101,32,111,117,116,32,111,102,32,114,97,110,103,101]⟩] 230,.cells #[.string ⟨#[105,110,118,97,108,105,100,32,115,121,110,116,97,120]⟩] 230,.cells #[.int .u32 1] 98,.cells #[.string ⟨#[107,103]⟩,.string ⟨#[107,103]⟩,.int .i64 1,.int .i64 1,.string ⟨#[103]⟩,.string ⟨#[107,103]⟩,.int .i64 1,.int .i64 1000,.string ⟨#[116]⟩,.string ⟨#[107,103]⟩,.int .i64 1000,.int .i64 1,.string ⟨#[109]⟩,.string ⟨#[109]⟩,.int .i64 1,.int .i64 1,.string ⟨#[107,109]⟩,.string ⟨#[109]⟩,.int .i64 1000,.int .i64 1,.string ⟨#[99,109]⟩,.string ⟨#[109]⟩,.int .i64 1,.int .i64 100,.string ⟨#[109,109]⟩,.string ⟨#[109]⟩,.int .i64 1,.int .i64 1000,.string ⟨#[115]⟩,.string ⟨#[115]⟩,.int .i64 1,.int .i64 1,.string ⟨#[109,105,110]⟩,.string ⟨#[115]⟩,.int .i64 60,.int .i64 1,.string ⟨#[104]⟩,.string ⟨#[115]⟩,.int .i64 3600,.int .i64 1,.string ⟨#[109,115]⟩,.string ⟨#[115]⟩,.int .i64 1,.int .i64 1000,.string ⟨#[37]⟩,.string ⟨#[37]⟩,.int .i64 1,.int .i64 1] 51,.cells #[.string ⟨#[107,103]⟩,.string ⟨#[109]⟩,.string ⟨#[115]⟩,.string ⟨#[37]⟩] 9],#[],[]⟩).heap.modify 8 fun
   | .cells _ t frozen=>.cells #[.int .u8 0,.int .u8 1,.int .u8 28,.int .u8 2,.int .u8 29,.int .u8 14,.int .u8 24,.int .u8 3,.int .u8 30,.int .u8 22,.int .u8 20,.int .u8 15,.int .u8 25,.int .u8 17,.int .u8 4,.int .u8 8,.int .u8 31,.int .u8 27,.int .u8 13,.int .u8 23,.int .u8 21,.int .u8 19,.int .u8 16,.int .u8 7,.int .u8 26,.int .u8 12,.int .u8 18,.int .u8 6,.int .u8 11,.int .u8 5,.int .u8 10,.int .u8 9] t frozen
   | o=>o).modify 9 fun
   | .cells _ t frozen=>.cells #[.int .u8 0,.int .u8 1,.int .u8 56,.int .u8 2,.int .u8 57,.int .u8 49,.int .u8 28,.int .u8 3,.int .u8 61,.int .u8 58,.int .u8 42,.int .u8 50,.int .u8 38,.int .u8 29,.int .u8 17,.int .u8 4,.int .u8 62,.int .u8 47,.int .u8 59,.int .u8 36,.int .u8 45,.int .u8 43,.int .u8 51,.int .u8 22,.int .u8 53,.int .u8 39,.int .u8 33,.int .u8 30,.int .u8 24,.int .u8 18,.int .u8 12,.int .u8 5,.int .u8 63,.int .u8 55,.int .u8 48,.int .u8 27,.int .u8 60,.int .u8 41,.int .u8 37,.int .u8 16,.int .u8 46,.int .u8 35,.int .u8 44,.int .u8 21,.int .u8 52,.int .u8 32,.int .u8 23,.int .u8 11,.int .u8 54,.int .u8 26,.int .u8 40,.int .u8 15,.int .u8 34,.int .u8 20,.int .u8 31,.int .u8 10,.int .u8 25,.int .u8 14,.int .u8 19,.int .u8 9,.int .u8 13,.int .u8 8,.int .u8 7,.int .u8 6] t frozen
   | o=>o).modify 3 fun
   | .cells _ t frozen=>.cells #[.int .u64 1,.int .u64 10,.int .u64 100,.int .u64 1000,.int .u64 10000,.int .u64 100000,.int .u64 1000000,.int .u64 10000000,.int .u64 100000000,.int .u64 1000000000,.int .u64 10000000000,.int .u64 100000000000,.int .u64 1000000000000,.int .u64 10000000000000,.int .u64 100000000000000,.int .u64 1000000000000000,.int .u64 10000000000000000,.int .u64 100000000000000000,.int .u64 1000000000000000000,.int .u64 10000000000000000000] t frozen
   | o=>o).modify 7 fun
   | .cells _ t frozen=>.cells #[.int .u8 128,.int .u8 191,.int .u8 160,.int .u8 191,.int .u8 128,.int .u8 159,.int .u8 144,.int .u8 191,.int .u8 128,.int .u8 143,.int .u8 0,.int .u8 0,.int .u8 0,.int .u8 0,.int .u8 0,.int .u8 0,.int .u8 0,.int .u8 0,.int .u8 0,.int .u8 0,.int .u8 0,.int .u8 0,.int .u8 0,.int .u8 0,.int .u8 0,.int .u8 0,.int .u8 0,.int .u8 0,.int .u8 0,.int .u8 0,.int .u8 0,.int .u8 0] t frozen
   | o=>o).modify 11 fun
   | .cells _ t frozen=>.cells #[.iface 228 (.pointer (some ⟨(World.settled Tryz.prog os).heap.size,0,none⟩))] t frozen
   | o=>o).modify 10 fun
   | .cells _ t frozen=>.cells #[.iface 228 (.pointer (some ⟨(World.settled Tryz.prog os).heap.size+1,0,none⟩))] t frozen
   | o=>o).modify 2 fun
   | .cells _ t frozen=>.cells #[.slice (some ⟨(World.settled Tryz.prog os).heap.size+2,0,none⟩) 1 1] t frozen
   | o=>o).modify 1 fun
   | .cells _ t frozen=>.cells #[.slice (some ⟨(World.settled Tryz.prog os).heap.size+3,0,none⟩) 12 12] t frozen
   | o=>o).modify 0 fun
   | .cells _ t frozen=>.cells #[.slice (some ⟨(World.settled Tryz.prog os).heap.size+4,0,none⟩) 4 4] t frozen
   | o=>o).modify 6 fun
   | .cells _ t frozen=>.cells (Go.Pinned.utf8FirstZ.map fun (n:Nat)=>Value.int .u8 (n:Int)).toArray t frozen
   | o=>o)}
set_option maxRecDepth 100000 in
theorem laid_met_unitValues (os:Os) (args:Array Value):laidMet Tryz.prog [("math/bits.deBruijn32tab",Rows.laid_math_bits_deBruijn32tab),("math/bits.deBruijn64tab",Rows.laid_math_bits_deBruijn64tab),("internal/strconv.uint64pow10",Rows.laid_internal_strconv_uint64pow10),("unicode/utf8.acceptRanges",Rows.laid_unicode_utf8_acceptRanges),("strconv.ErrRange",Rows.laid_strconv_ErrRange),("strconv.ErrSyntax",Rows.laid_strconv_ErrSyntax),("tablefinder/fraction.one",Rows.laid_tablefinder_fraction_one),("tablefinder/unit.units",Rows.laid_tablefinder_unit_units),("tablefinder/unit.bases",Rows.laid_tablefinder_unit_bases),("unicode/utf8.first",Rows.laid_unicode_utf8_first)] ((laidWorld_unitValues os).forCall (fun _ _=>0) ⟨#[],args,[]⟩).memory :=
 laidMet_of_run' 8 (by kernel_rfl) (by kernel_rfl)
end Go.Proofs.YtkcghbpghjdgpaaGreatDoor
namespace Go.Proofs.YtkcghbpghjdgpaaGreatDoor
open Go Go.Proofs Go.Abs
variable {G:Globals}
abbrev OU:=List UInt8 × Int × Int
abbrev OUC (o:OU):List D:=[S o.1,.int .i64 o.2.1,.int .i64 o.2.2]
def ouC (l:List OU):List D:=l.flatMap OUC
def toU (l:List Opt):List OU:=l.map fun o=>(o.txt,(o.fr:Int),(o.ag:Int))
def noOU:OU:=([],0,0)
theorem toU_len (l:List Opt):(toU l).length=l.length:=by simp [toU]
theorem ouC_to:∀ l:List Opt,ouC (toU l)=optC l
 | []=>rfl
 | o::l=>by
   have ih:=ouC_to l
   simp only [ouC,toU,List.map_cons,List.flatMap_cons,optC] at ih ⊢
   rw [ih]
theorem ouC_length:∀ l:List OU,(ouC l).length=3*l.length
 | []=>rfl
 | o::l=>by
   have ih:=ouC_length l
   simp only [ouC,List.flatMap_cons,List.length_append,List.length_cons,List.length_nil] at ih ⊢
   omega
theorem ouC_get:∀ {l:List OU} {k:Nat},k<l.length→((ouC l).drop (k*3)).take 3=OUC (l.getD k noOU)
 | [],k,h=>absurd h (Nat.not_lt_zero _)
 | o::l,0,_=>by simp [ouC]
 | o::l,k+1,h=>by
   have ih:=ouC_get (l:=l) (k:=k) (by simpa using h)
   have e2:ouC (o::l)=S o.1::.int .i64 o.2.1::.int .i64 o.2.2::ouC l:=rfl
   rw [show (k+1)*3=k*3+3 by omega,e2]
   simpa using ih
theorem ouC_txt:∀ {l:List OU} {k:Nat},k<l.length→(ouC l).getD (k*3) .nilp=S (l.getD k noOU).1
 | [],k,h=>absurd h (Nat.not_lt_zero _)
 | o::l,0,_=>by simp [ouC]
 | o::l,k+1,h=>by
   have ih:=ouC_txt (l:=l) (k:=k) (by simpa using h)
   have e2:ouC (o::l)=S o.1::.int .i64 o.2.1::.int .i64 o.2.2::ouC l:=rfl
   rw [show (k+1)*3=k*3+3 by omega,e2]
   simpa using ih
def goodU (o:OU):Bool:=decide (0<o.2.1) && decide (o.2.2=0)
def takeU (l:List OU):List UInt8:=match l.find? goodU with | some o=>o.1 | none=>[]
theorem ixF_find {α:Type} {p:α→Bool} {d:α}:∀ (l:List α) (k:Int),0≤k→(ixF p l k<0∧l.find? p=none)∨∃ n,n<l.length∧ixF p l k=k+n∧l.find? p=some (l.getD n d)
 | [],k,h=>.inl ⟨by rw [ixF];omega,rfl⟩
 | x::r,k,h=>by
   rw [ixF,List.find?_cons]
   cases hx:p x
   ·rcases ixF_find (d:=d) r (k+1) (by omega) with ⟨h1,h2⟩ | ⟨n,h1,h2,h3⟩
    ·exact .inl ⟨by simpa using h1,h2⟩
    ·exact .inr ⟨n+1,by simp;omega,by simp;omega,by simpa using h3⟩
   ·exact .inr ⟨0,by simp,by simp,by simp⟩
set_option maxRecDepth 100000 in
theorem take1_spec (o:OU):Ctr Tryz.prog G 35 [.d (.agg (OUC o))] [] (.d (.bool (goodU o))) []:=by
 obtain ⟨t,a,b⟩:=o
 obtain ⟨r,hr⟩:∃ r,r=goodU (t,a,b):=⟨_,rfl⟩
 rw [← hr]
 unfold goodU at hr
 simp only at hr
 refine Ctr.pure (M:=M0) hmix Tryz.func35 rfl go35 ?_
 by_cases e1:0<a
 ·rw [decide_eq_true e1,Bool.true_and] at hr
  subst hr
  simp (config:={maxSteps:=1000000}) (disch:=((try simp only [awL]);omega)) only [QR,QS,QT,QU,QV,QW,QX,QY,QZ,Q0,Q1,Q2,Tryz.f35,↓awU,awV,awF,Qa,Qb,Qc,Qd,forall_const,↓reduceIte,↓reduceDIte,↓Qe,Qf,Qg,Qh,Qi,Qj,Qk,Ql,Qm,Qn,Qo,Qp,Qq,Qr,Qs,implies_true,Qt,Qu,Qv,Qw,Qx,Qy,Qz,QA,QB,QC,QD,QE,QF,QG,QH,QI,QJ,QK,QL,QM,QN,QO,QP,QQ]
  first | done | rfl
 ·rw [decide_eq_false e1,Bool.false_and] at hr
  subst hr
  simp (config:={maxSteps:=1000000}) (disch:=((try simp only [awL]);omega)) only [QR,QS,QT,QU,QV,QW,QX,QY,QZ,Q0,Q1,Q2,Tryz.f35,↓awU,awV,awF,Qa,Qb,Qc,Qd,forall_const,↓reduceIte,↓reduceDIte,↓Qe,Qf,Qg,Qh,Qi,Qj,Qk,Ql,Qm,Qn,Qo,Qp,Qq,Qr,Qs,implies_true,Qt,Qu,Qv,Qw,Qx,Qy,Qz,QA,QB,QC,QD,QE,QF,QG,QH,QI,QJ,QK,QL,QM,QN,QO,QP,QQ]
  first | done | rfl
set_option maxHeartbeats 4000000 in
theorem ixU_spec (l:List OU) (full:Bool) (hl:l.length≤1000000) :
  Ctr Tryz.prog G 34 [.d (.sl l.length full (ouC l)),.d (.fn (.func 35) [] [])] [] (.d (.int .i64 (ixF goodU l 0))) []:=by
 refine Ctr.pure (M:=M0) hmix Tryz.func34 rfl go34 ?_
 have sl:=@ouC_length l
 simp (config:={maxSteps:=1000000}) (disch:=((try simp only [awL]);omega)) only [QR,QS,QT,QU,QV,QW,QX,QY,QZ,Q0,Q1,Q2,sl,Tryz.f34,↓awU,awV,awF,Qa,Qb,Qc,Qd,forall_const,↓reduceIte,↓reduceDIte,↓Qe,Qf,Qg,Qh,Qi,Qj,Qk,Ql,Qm,Qn,Qo,Qp,Qq,Qr,Qs,implies_true,Qt,Qu,Qv,Qw,Qx,Qy,Qz,QA,QB,QC,QD,QE,QF,QG,QH,QI,QJ,QK,QL,QM,QN,QO,QP,QQ]
 refine LoopC.fr 131 (α:=Nat) (fun i=>l.length - i) (fun i=>[(8,.d (.int .i64 i))]) (fun _=>[]) (fun i=>i≤l.length∧ixF goodU l 0=ixF goodU (l.drop i) i) 0 ⟨Nat.zero_le _,rfl⟩ ?_ ?_
 ·exact ⟨[],rfl,by simp,by simp [setsA,keepA,SWeak,AWeak],by simp [HWeak,BWeak,SWeak,AWeak]⟩
 ·rintro i ⟨h1,h2⟩
  simp only [awK,Nat.reduceMod,Nat.reduceDiv,reduceIte]
  rw [h2]
  rcases Nat.lt_or_ge i l.length with h | h
  ·have g:=ouC_get h
   rw [ixF_at (d:=noOU) h]
   generalize l.getD i noOU=o at *
   simp (config:={maxSteps:=1000000}) (disch:=((try simp only [awL]);omega)) only [QR,QS,QT,QU,QV,QW,QX,QY,QZ,Q0,Q1,Q2,sl,g,↓awU,awV,awF,Qa,Qb,Qc,Qd,forall_const,↓reduceIte,↓reduceDIte,↓Qe,Qf,Qg,Qh,Qi,Qj,Qk,Ql,Qm,Qn,Qo,Qp,Qq,Qr,Qs,implies_true,Qt,Qu,Qv,Qw,Qx,Qy,Qz,QA,QB,QC,QD,QE,QF,QG,QH,QI,QJ,QK,QL,QM,QN,QO,QP,QQ]
   refine CallC.of (take1_spec o) (by rfl) ?_
   cases hx:goodU o
   ·simp (config:={maxSteps:=1000000}) (disch:=((try simp only [awL]);omega)) only [QR,QS,QT,QU,QV,QW,QX,QY,QZ,Q0,Q1,Q2,↓awU,awV,awF,Qa,Qb,Qc,Qd,forall_const,↓reduceIte,↓reduceDIte,↓Qe,Qf,Qg,Qh,Qi,Qj,Qk,Ql,Qm,Qn,Qo,Qp,Qq,Qr,Qs,implies_true,Qt,Qu,Qv,Qw,Qx,Qy,Qz,QA,QB,QC,QD,QE,QF,QG,QH,QI,QJ,QK,QL,QM,QN,QO,QP,QQ]
    exact ⟨i+1,⟨h,rfl⟩,by simp only;omega,⟨[],rfl,by simp,by simp [setsA,keepA,SWeak,AWeak],by simp [HWeak,BWeak,SWeak,AWeak]⟩⟩
   ·simp (config:={maxSteps:=1000000}) (disch:=((try simp only [awL]);omega)) only [QR,QS,QT,QU,QV,QW,QX,QY,QZ,Q0,Q1,Q2,↓awU,awV,awF,Qa,Qb,Qc,Qd,forall_const,↓reduceIte,↓reduceDIte,↓Qe,Qf,Qg,Qh,Qi,Qj,Qk,Ql,Qm,Qn,Qo,Qp,Qq,Qr,Qs,implies_true,Qt,Qu,Qv,Qw,Qx,Qy,Qz,QA,QB,QC,QD,QE,QF,QG,QH,QI,QJ,QK,QL,QM,QN,QO,QP,QQ]
  ·rw [List.drop_eq_nil_of_le h]
   simp (config:={maxSteps:=1000000}) (disch:=((try simp only [awL]);omega)) only [QR,QS,QT,QU,QV,QW,QX,QY,QZ,Q0,Q1,Q2,sl,↓awU,awV,awF,Qa,Qb,Qc,Qd,forall_const,↓reduceIte,↓reduceDIte,↓Qe,Qf,Qg,Qh,Qi,Qj,Qk,Ql,Qm,Qn,Qo,Qp,Qq,Qr,Qs,implies_true,Qt,Qu,Qv,Qw,Qx,Qy,Qz,QA,QB,QC,QD,QE,QF,QG,QH,QI,QJ,QK,QL,QM,QN,QO,QP,QQ]
   rfl
set_option maxHeartbeats 4000000 in
set_option maxRecDepth 100000 in
theorem utake_spec (l:List OU) (full:Bool) (hl:l.length≤1000000):Ctr Tryz.prog G 10 [.d (.sl l.length full (ouC l))] [] (.d (S (takeU l))) []:=by
 obtain ⟨r,hr⟩:∃ r,r=takeU l:=⟨_,rfl⟩
 rw [← hr]
 unfold takeU at hr
 have sl:=@ouC_length l
 refine Ctr.pure (M:=M0) hmix Tryz.func10 rfl go10 ?_
 simp (config:={maxSteps:=1000000}) (disch:=((try simp only [awL]);omega)) only [QR,QS,QT,QU,QV,QW,QX,QY,QZ,Q0,Q1,Q2,Tryz.f10,↓awU,awV,awF,Qa,Qb,Qc,Qd,forall_const,↓reduceIte,↓reduceDIte,↓Qe,Qf,Qg,Qh,Qi,Qj,Qk,Ql,Qm,Qn,Qo,Qp,Qq,Qr,Qs,implies_true,Qt,Qu,Qv,Qw,Qx,Qy,Qz,QA,QB,QC,QD,QE,QF,QG,QH,QI,QJ,QK,QL,QM,QN,QO,QP,QQ]
 refine CallC.of (ixU_spec l false hl) (by rfl) ?_
 rcases ixF_find (p:=goodU) (d:=noOU) l 0 (Int.le_refl _) with ⟨h1,h2⟩ | ⟨n,h1,h2,h3⟩
 ·rw [h2] at hr
  simp only at hr
  subst hr
  generalize ixF goodU l 0=z at *
  simp (config:={maxSteps:=1000000}) (disch:=((try simp only [awL]);omega)) only [QR,QS,QT,QU,QV,QW,QX,QY,QZ,Q0,Q1,Q2,↓awU,awV,awF,Qa,Qb,Qc,Qd,forall_const,↓reduceIte,↓reduceDIte,↓Qe,Qf,Qg,Qh,Qi,Qj,Qk,Ql,Qm,Qn,Qo,Qp,Qq,Qr,Qs,implies_true,Qt,Qu,Qv,Qw,Qx,Qy,Qz,QA,QB,QC,QD,QE,QF,QG,QH,QI,QJ,QK,QL,QM,QN,QO,QP,QQ]
  first | done | rfl
 ·rw [h3] at hr
  simp only at hr
  rw [h2,Int.zero_add]
  have gt:=ouC_txt h1
  rw [← hr] at gt
  simp (config:={maxSteps:=1000000}) (disch:=((try simp only [awL]);omega)) only [QR,QS,QT,QU,QV,QW,QX,QY,QZ,Q0,Q1,Q2,sl,gt,↓awU,awV,awF,Qa,Qb,Qc,Qd,forall_const,↓reduceIte,↓reduceDIte,↓Qe,Qf,Qg,Qh,Qi,Qj,Qk,Ql,Qm,Qn,Qo,Qp,Qq,Qr,Qs,implies_true,Qt,Qu,Qv,Qw,Qx,Qy,Qz,QA,QB,QC,QD,QE,QF,QG,QH,QI,QJ,QK,QL,QM,QN,QO,QP,QQ]
  first | done | rfl
theorem celsD_unf {l:List Cel}:(celsD l).map unf0=celsD l:=by
 induction l with
 | nil=>rfl
 | cons x l ih =>
  have e:celsD (x::l)=.bool x.2::S x.1::celsD l:=rfl
  rw [e,List.map_cons,List.map_cons,ih];rfl
theorem cloneC_spec (l:List Cel) (full:Bool) (hl:l.length<2 ^ 40):Ctr Tryz.prog G 37 [.d (CelS l full)] [] (.d (CelS l false)) []:=by
 refine Ctr.of_body Tryz.func37 rfl go37 rfl ?_
 have sl:=celsD_length l
 refine Tri.seq (Tri.of_awp (M:=M0) hmix _ _ _ _ ?_)
 simp (config:={maxSteps:=1000000}) (disch:=((try simp only [awL]);omega)) only [QR,QS,QT,QU,QV,QW,QX,QY,QZ,Q0,Q1,Q2,aseq_normal,Tryz.f37,↓awU,awV,awF,Qa,Qb,Qc,Qd,forall_const,↓reduceIte,↓reduceDIte,↓Qe,Qf,Qg,Qh,Qi,Qj,Qk,Ql,Qm,Qn,Qo,Qp,Qq,Qr,Qs,implies_true,Qt,Qu,Qv,Qw,Qx,Qy,Qz,QA,QB,QC,QD,QE,QF,QG,QH,QI,QJ,QK,QL,QM,QN,QO,QP,QQ]
 refine Tri.seq (Tri.seq (Tri.nilRegion (e:=38) (by kernel_rfl) rfl ?_ ?_))
 ·simp
 intro b hb
 simp only [aseq_normal]
 refine Tri.of_awp (M:=M0) hmix _ _ _ _ ?_
 cases b
 ·simp (config:={maxSteps:=1000000}) (disch:=((try simp only [awL]);omega)) only [QR,QS,QT,QU,QV,QW,QX,QY,QZ,Q0,Q1,Q2,aseq_normal,Tryz.f37,aseq_ret,↓awU,awV,awF,Qa,Qb,Qc,Qd,forall_const,↓reduceIte,↓reduceDIte,↓Qe,Qf,Qg,Qh,Qi,Qj,Qk,Ql,Qm,Qn,Qo,Qp,Qq,Qr,Qs,implies_true,Qt,Qu,Qv,Qw,Qx,Qy,Qz,QA,QB,QC,QD,QE,QF,QG,QH,QI,QJ,QK,QL,QM,QN,QO,QP,QQ]
  refine Tri.of_awp (M:=M0) hmix _ _ _ _ ?_
  simp (config:={maxSteps:=1000000}) (disch:=((try simp only [awL]);omega)) only [QR,QS,QT,QU,QV,QW,QX,QY,QZ,Q0,Q1,Q2,sl,aseq_normal,Tryz.f37,aseq_ret,↓awU,awV,awF,Qa,Qb,Qc,Qd,forall_const,↓reduceIte,↓reduceDIte,↓Qe,Qf,Qg,Qh,Qi,Qj,Qk,Ql,Qm,Qn,Qo,Qp,Qq,Qr,Qs,implies_true,Qt,Qu,Qv,Qw,Qx,Qy,Qz,QA,QB,QC,QD,QE,QF,QG,QH,QI,QJ,QK,QL,QM,QN,QO,QP,QQ]
  have cu:cut (celsD l) 0 (l.length*2)=celsD l:=by unfold cut;rw [List.drop_zero,List.take_of_length_le (by omega)]
  refine ⟨[],rfl,List.nodup_nil,trivial,.inr ⟨CelS l false,?_,?_,rfl⟩⟩
  ·simp [sealA,cu]
  ·simp only [unf_sl,celsD_unf]
 ·simp (config:={maxSteps:=1000000}) (disch:=((try simp only [awL]);omega)) only [QR,QS,QT,QU,QV,QW,QX,QY,QZ,Q0,Q1,Q2,aseq_normal,Tryz.f37,aseq_ret,↓awU,awV,awF,Qa,Qb,Qc,Qd,forall_const,↓reduceIte,↓reduceDIte,↓Qe,Qf,Qg,Qh,Qi,Qj,Qk,Ql,Qm,Qn,Qo,Qp,Qq,Qr,Qs,implies_true,Qt,Qu,Qv,Qw,Qx,Qy,Qz,QA,QB,QC,QD,QE,QF,QG,QH,QI,QJ,QK,QL,QM,QN,QO,QP,QQ]
  have h0:l=[]:=List.length_eq_zero_iff.1 (hb rfl)
  subst h0
  exact ⟨[],rfl,List.nodup_nil,trivial,.inr ⟨.sl 0 true [],rfl,rfl,rfl⟩⟩
theorem cloneR_spec (l:List Cel) (full:Bool) (hl:l.length<2 ^ 40) (h0:0<l.length):Ctr Tryz.prog G 37 [.d (CelS l full)] [] (.lsl 0 2 0 l.length) [.row false (celsD l)]:=by
 refine Ctr.of_body Tryz.func37 rfl go37 rfl ?_
 have sl:=celsD_length l
 refine Tri.seq (Tri.of_awp (M:=M0) hmix _ _ _ _ ?_)
 simp (config:={maxSteps:=1000000}) (disch:=((try simp only [awL]);omega)) only [QR,QS,QT,QU,QV,QW,QX,QY,QZ,Q0,Q1,Q2,aseq_normal,Tryz.f37,↓awU,awV,awF,Qa,Qb,Qc,Qd,forall_const,↓reduceIte,↓reduceDIte,↓Qe,Qf,Qg,Qh,Qi,Qj,Qk,Ql,Qm,Qn,Qo,Qp,Qq,Qr,Qs,implies_true,Qt,Qu,Qv,Qw,Qx,Qy,Qz,QA,QB,QC,QD,QE,QF,QG,QH,QI,QJ,QK,QL,QM,QN,QO,QP,QQ]
 refine Tri.seq (Tri.seq (Tri.nilRegion (e:=38) (by kernel_rfl) rfl ?_ ?_))
 ·simp
 intro b hb
 simp only [aseq_normal]
 refine Tri.of_awp (M:=M0) hmix _ _ _ _ ?_
 cases b
 ·simp (config:={maxSteps:=1000000}) (disch:=((try simp only [awL]);omega)) only [QR,QS,QT,QU,QV,QW,QX,QY,QZ,Q0,Q1,Q2,aseq_normal,Tryz.f37,aseq_ret,↓awU,awV,awF,Qa,Qb,Qc,Qd,forall_const,↓reduceIte,↓reduceDIte,↓Qe,Qf,Qg,Qh,Qi,Qj,Qk,Ql,Qm,Qn,Qo,Qp,Qq,Qr,Qs,implies_true,Qt,Qu,Qv,Qw,Qx,Qy,Qz,QA,QB,QC,QD,QE,QF,QG,QH,QI,QJ,QK,QL,QM,QN,QO,QP,QQ]
  refine Tri.of_awp (M:=M0) hmix _ _ _ _ ?_
  simp (config:={maxSteps:=1000000}) (disch:=((try simp only [awL]);omega)) only [QR,QS,QT,QU,QV,QW,QX,QY,QZ,Q0,Q1,Q2,sl,aseq_normal,Tryz.f37,aseq_ret,↓awU,awV,awF,Qa,Qb,Qc,Qd,forall_const,↓reduceIte,↓reduceDIte,↓Qe,Qf,Qg,Qh,Qi,Qj,Qk,Ql,Qm,Qn,Qo,Qp,Qq,Qr,Qs,implies_true,Qt,Qu,Qv,Qw,Qx,Qy,Qz,QA,QB,QC,QD,QE,QF,QG,QH,QI,QJ,QK,QL,QM,QN,QO,QP,QQ]
  have cu:cut (celsD l) 0 (l.length*2)=celsD l:=by unfold cut;rw [List.drop_zero,List.take_of_length_le (by omega)]
  exact ⟨[some 1],rfl,by simp,by simp [HWeak,BWeak,SWeak,AWeak],.inl (by simp [AWeak,SWeak])⟩
 ·exact absurd (hb rfl) (by omega)
end Go.Proofs.YtkcghbpghjdgpaaGreatDoor
namespace Go.Proofs.YtkcghbpghjdgpaaGreatDoor
open Go Go.Proofs Go.Abs
variable {G:Globals}
def apU (b:List UInt8) (x:Cel):Cel:=if x.2=true then x else ((basedU x.1 b).1,x.2)
def fitU (b:List UInt8) (x:Cel):Bool:=x.2 || (basedU x.1 b).2
def uapE (b:List UInt8) (l:List Cel):Int:=if b=[] then 0 else if b∈basesL then (if l.all (fitU b)=true then 0 else 4) else 5
def uapL (b:List UInt8) (l:List Cel):List Cel:=if b=[] then l else l.map (apU b)
def uapR (nm b:List UInt8) (l:List Cel):D:=.tup [if uapE b l=0 then .agg [S nm,CelS (uapL b l) false] else .agg [S [],.sl 0 false []],.int .i64 (uapE b l)]
def mixU (b:List UInt8) (l:List Cel) (i:Nat):List Cel:=(l.take i).map (apU b)++l.drop i
theorem mixU_len (b:List UInt8) (l:List Cel) (i:Nat):(mixU b l i).length=l.length:=by
 unfold mixU;rw [List.length_append,List.length_map,List.length_take,List.length_drop];omega
theorem mixU_get {b:List UInt8} {l:List Cel} {i:Nat} (h:i<l.length):(mixU b l i).getD i noC=l.getD i noC:=by
 unfold mixU
 rw [List.getD_eq_getElem?_getD,List.getElem?_append_right (by simp;omega),List.getElem?_drop,← List.getD_eq_getElem?_getD]
 congr 1;simp;omega
theorem mixU_step {b:List UInt8} {l:List Cel} {i:Nat} (h:i<l.length):mixU b l i=(l.take i).map (apU b)++l.getD i noC::l.drop (i+1)∧mixU b l (i+1)=(l.take i).map (apU b)++apU b (l.getD i noC)::l.drop (i+1):=by
 unfold mixU
 constructor
 ·rw [List.drop_eq_getElem_cons h,List.getD_eq_getElem?_getD,List.getElem?_eq_getElem h];rfl
 ·rw [List.take_add_one,getD_some (d:=noC) h];simp
theorem mixU_end {b:List UInt8} {l:List Cel}:mixU b l l.length=l.map (apU b):=by unfold mixU;simp
theorem celsD_txt {A Z:List Cel} {x:Cel} {i:Nat} (ha:A.length=i) (t:List UInt8):(celsD (A++x::Z)).set (i*2+1) (.str (bs t))=celsD (A++(t,x.2)::Z):=by
 have hl:=celsD_length A
 rw [celsD_app,celsD_app,List.set_append_right _ _ (by omega),show i*2+1 - (celsD A).length=1 by omega]
 rfl
theorem mixU_set {b:List UInt8} {l:List Cel} {i:Nat} (h:i<l.length) {t:List UInt8} (hx:l.getD i noC=(t,false)):(celsD (mixU b l i)).set (i*2+1) (.str (bs (basedU t b).1))=celsD (mixU b l (i+1)):=by
 obtain ⟨h1,h2⟩:=mixU_step (b:=b) h
 rw [h1,h2,celsD_txt (by simp;omega),hx]
 rfl
theorem mixU_null {b:List UInt8} {l:List Cel} {i:Nat} (h:i<l.length) {t:List UInt8} (hx:l.getD i noC=(t,true)):mixU b l (i+1)=mixU b l i:=by
 obtain ⟨h1,h2⟩:=mixU_step (b:=b) h
 rw [h1,h2,hx]
 rfl
theorem all_takeU {l:List Cel} {p:Cel→Bool} {i:Nat} (h:i<l.length) (h1:(l.take i).all p=true) (h2:p (l.getD i noC)=true):(l.take (i+1)).all p=true:=by
 rw [List.take_add_one,getD_some (d:=noC) h,List.all_append,h1]
 simpa using h2
set_option maxHeartbeats 16000000 in
set_option maxRecDepth 100000 in
theorem uapply_spec (hG:Num.HG G) (hU:HU G) (hB:HB G) (nm:List UInt8) (l:List Cel) (full:Bool) (hl:okU l) (b:List UInt8) :
  Ctr Tryz.prog G 12 [.d (.agg [S nm,CelS l full]),.d (S b)] [] (.d (uapR nm b l)) []:=by
 obtain ⟨r,hr⟩:∃ r,r=uapR nm b l:=⟨_,rfl⟩
 rw [← hr]
 unfold uapR uapE uapL at hr
 have lc:=celsD_length l
 have l1:=hl.1
 have hb0:ByteArray.empty=bs []:=rfl
 refine Ctr.pure (M:=M0) hmix Tryz.func12 rfl go12 ?_
 by_cases e0:b=[]
 ·subst e0
  rw [if_pos rfl,if_pos rfl,if_pos rfl] at hr
  have e0':(([]:List UInt8)=[])=True:=eq_true rfl
  simp (config:={maxSteps:=1000000}) (disch:=((try simp only [awL]);omega)) only [QR,QS,QT,QU,QV,QW,QX,QY,QZ,Q0,Q1,Q2,lc,Tryz.f12,↓awU,awV,awF,Qa,Qb,Qc,Qd,forall_const,↓reduceIte,↓reduceDIte,↓Qe,Qf,Qg,Qh,Qi,Qj,Qk,Ql,Qm,Qn,Qo,Qp,Qq,Qr,Qs,implies_true,Qt,Qu,Qv,Qw,Qx,Qy,Qz,QA,QB,QC,QD,QE,QF,QG,QH,QI,QJ,QK,QL,QM,QN,QO,QP,QQ]
  refine CallC.of (cloneC_spec l false (by omega)) (by rfl) ?_
  subst hr
  simp (config:={maxSteps:=1000000}) (disch:=((try simp only [awL]);omega)) only [QR,QS,QT,QU,QV,QW,QX,QY,QZ,Q0,Q1,Q2,lc,↓awU,awV,awF,Qa,Qb,Qc,Qd,forall_const,↓reduceIte,↓reduceDIte,↓Qe,Qf,Qg,Qh,Qi,Qj,Qk,Ql,Qm,Qn,Qo,Qp,Qq,Qr,Qs,implies_true,Qt,Qu,Qv,Qw,Qx,Qy,Qz,QA,QB,QC,QD,QE,QF,QG,QH,QI,QJ,QK,QL,QM,QN,QO,QP,QQ]
  refine ⟨by rfl,?_⟩
  refine LoopC.fr 201326674 (α:=Nat) (fun i=>l.length - i) (fun i=>[(28,.d (.int .i64 (i:Nat)))])
   (fun _=>[.dead,.box [.d (.str ByteArray.empty),.d (.sl 0 true [])],.box [.d (S nm),.d (CelS l false)]]) (fun i=>i≤l.length) 0 (Nat.zero_le _) ?_ ?_
  ·exact ⟨[some 0,some 1,some 2],rfl,by simp,by simp [setsA,keepA,SWeak,AWeak],by simp [HWeak,BWeak,SWeak,AWeak]⟩
  ·intro i hi
   simp only [awK,Nat.reduceMod,Nat.reduceDiv,reduceIte]
   rcases Nat.lt_or_ge i l.length with h | h
   ·have gc:=celsD_get h
    generalize l.getD i noC=x at *
    obtain ⟨t,nul⟩:=x
    have gc:((celsD l).drop (i*2)).take 2=[.bool nul,S t]:=gc
    simp (config:={maxSteps:=1000000}) (disch:=((try simp only [awL]);omega)) only [QR,QS,QT,QU,QV,QW,QX,QY,QZ,Q0,Q1,Q2,lc,gc,↓awU,awV,awF,Qa,Qb,Qc,Qd,forall_const,↓reduceIte,↓reduceDIte,↓Qe,Qf,Qg,Qh,Qi,Qj,Qk,Ql,Qm,Qn,Qo,Qp,Qq,Qr,Qs,implies_true,Qt,Qu,Qv,Qw,Qx,Qy,Qz,QA,QB,QC,QD,QE,QF,QG,QH,QI,QJ,QK,QL,QM,QN,QO,QP,QQ]
    first
    | exact ⟨i+1,h,by simp only;omega,⟨[some 0,some 1,some 2],rfl,by simp,by simp [setsA,keepA,SWeak,AWeak],by simp [HWeak,BWeak,SWeak,AWeak]⟩⟩
    | exact ⟨by rfl,i+1,h,by simp only;omega,⟨[some 0,some 1,some 2],rfl,by simp,by simp [setsA,keepA,SWeak,AWeak],by simp [HWeak,BWeak,SWeak,AWeak]⟩⟩
   ·simp (config:={maxSteps:=1000000}) (disch:=((try simp only [awL]);omega)) only [QR,QS,QT,QU,QV,QW,QX,QY,QZ,Q0,Q1,Q2,lc,↓awU,awV,awF,Qa,Qb,Qc,Qd,forall_const,↓reduceIte,↓reduceDIte,↓Qe,Qf,Qg,Qh,Qi,Qj,Qk,Ql,Qm,Qn,Qo,Qp,Qq,Qr,Qs,implies_true,Qt,Qu,Qv,Qw,Qx,Qy,Qz,QA,QB,QC,QD,QE,QF,QG,QH,QI,QJ,QK,QL,QM,QN,QO,QP,QQ]
    first | done | rfl
 ·rw [if_neg e0,if_neg e0] at hr
  have e0':(b=[])=False:=eq_false e0
  by_cases e1:b∈basesL
  ·rw [if_pos e1] at hr
   simp (config:={maxSteps:=1000000}) (disch:=((try simp only [awL]);omega)) only [QR,QS,QT,QU,QV,QW,QX,QY,QZ,Q0,Q1,Q2,lc,e0',Tryz.f12,↓awU,awV,awF,Qa,Qb,Qc,Qd,forall_const,↓reduceIte,↓reduceDIte,↓Qe,Qf,Qg,Qh,Qi,Qj,Qk,Ql,Qm,Qn,Qo,Qp,Qq,Qr,Qs,implies_true,Qt,Qu,Qv,Qw,Qx,Qy,Qz,QA,QB,QC,QD,QE,QF,QG,QH,QI,QJ,QK,QL,QM,QN,QO,QP,QQ]
   refine CallC.of (known_spec hB b) (by rfl) ?_
   rw [decide_eq_true e1]
   rcases Nat.eq_zero_or_pos l.length with h0 | h0
   ·have e2:=List.length_eq_zero_iff.1 h0
    subst e2
    rw [show List.all [] (fitU b)=true from rfl,if_pos rfl,if_pos rfl] at hr
    subst hr
    simp (config:={maxSteps:=1000000}) (disch:=((try simp only [awL]);omega)) only [QR,QS,QT,QU,QV,QW,QX,QY,QZ,Q0,Q1,Q2,lc,↓awU,awV,awF,Qa,Qb,Qc,Qd,forall_const,↓reduceIte,↓reduceDIte,↓Qe,Qf,Qg,Qh,Qi,Qj,Qk,Ql,Qm,Qn,Qo,Qp,Qq,Qr,Qs,implies_true,Qt,Qu,Qv,Qw,Qx,Qy,Qz,QA,QB,QC,QD,QE,QF,QG,QH,QI,QJ,QK,QL,QM,QN,QO,QP,QQ]
    refine CallC.of (cloneC_spec [] false (by decide)) (by rfl) ?_
    simp (config:={maxSteps:=1000000}) (disch:=((try simp only [awL]);omega)) only [QR,QS,QT,QU,QV,QW,QX,QY,QZ,Q0,Q1,Q2,lc,↓awU,awV,awF,Qa,Qb,Qc,Qd,forall_const,↓reduceIte,↓reduceDIte,↓Qe,Qf,Qg,Qh,Qi,Qj,Qk,Ql,Qm,Qn,Qo,Qp,Qq,Qr,Qs,implies_true,Qt,Qu,Qv,Qw,Qx,Qy,Qz,QA,QB,QC,QD,QE,QF,QG,QH,QI,QJ,QK,QL,QM,QN,QO,QP,QQ]
    refine ⟨by rfl,?_⟩
    refine LoopC.fr 201326674 (α:=Nat) (fun i=>0 - i) (fun i=>[(28,.d (.int .i64 (i:Nat)))])
     (fun _=>[.dead,.box [.d (.str ByteArray.empty),.d (.sl 0 true [])],.box [.d (S nm),.d (CelS [] false)]]) (fun i=>i≤0) 0 (Nat.zero_le _) ?_ ?_
    ·exact ⟨[some 0,some 1,some 2],rfl,by simp,by simp [setsA,keepA,SWeak,AWeak],by simp [HWeak,BWeak,SWeak,AWeak]⟩
    ·intro i hi
     obtain rfl:i=0:=by omega
     simp only [awK,Nat.reduceMod,Nat.reduceDiv,reduceIte]
     simp (config:={maxSteps:=1000000}) (disch:=((try simp only [awL]);omega)) only [QR,QS,QT,QU,QV,QW,QX,QY,QZ,Q0,Q1,Q2,lc,List.length_nil,↓awU,awV,awF,Qa,Qb,Qc,Qd,forall_const,↓reduceIte,↓reduceDIte,↓Qe,Qf,Qg,Qh,Qi,Qj,Qk,Ql,Qm,Qn,Qo,Qp,Qq,Qr,Qs,implies_true,Qt,Qu,Qv,Qw,Qx,Qy,Qz,QA,QB,QC,QD,QE,QF,QG,QH,QI,QJ,QK,QL,QM,QN,QO,QP,QQ]
     first | done | rfl
   ·simp (config:={maxSteps:=1000000}) (disch:=((try simp only [awL]);omega)) only [QR,QS,QT,QU,QV,QW,QX,QY,QZ,Q0,Q1,Q2,lc,↓awU,awV,awF,Qa,Qb,Qc,Qd,forall_const,↓reduceIte,↓reduceDIte,↓Qe,Qf,Qg,Qh,Qi,Qj,Qk,Ql,Qm,Qn,Qo,Qp,Qq,Qr,Qs,implies_true,Qt,Qu,Qv,Qw,Qx,Qy,Qz,QA,QB,QC,QD,QE,QF,QG,QH,QI,QJ,QK,QL,QM,QN,QO,QP,QQ]
    refine CallC.by (cloneR_spec l false (by omega) h0) (by rfl) (by rfl) (Nat.zero_le _) ?_
    simp (config:={maxSteps:=1000000}) (disch:=((try simp only [awL]);omega)) only [QR,QS,QT,QU,QV,QW,QX,QY,QZ,Q0,Q1,Q2,lc,↓awU,awV,awF,Qa,Qb,Qc,Qd,forall_const,↓reduceIte,↓reduceDIte,↓Qe,Qf,Qg,Qh,Qi,Qj,Qk,Ql,Qm,Qn,Qo,Qp,Qq,Qr,Qs,implies_true,Qt,Qu,Qv,Qw,Qx,Qy,Qz,QA,QB,QC,QD,QE,QF,QG,QH,QI,QJ,QK,QL,QM,QN,QO,QP,QQ]
    refine ⟨by rfl,?_⟩
    refine LoopC.fr 201326674 (α:=Nat) (fun i=>l.length - i) (fun i=>[(28,.d (.int .i64 (i:Nat)))])
     (fun i=>[.dead,.box [.d (.str ByteArray.empty),.d (.sl 0 true [])],.row false (celsD (mixU b l i)),.box [.d (S nm),.lsl 2 2 0 l.length]]) (fun i=>i≤l.length∧(l.take i).all (fitU b)=true) 0 ⟨Nat.zero_le _,rfl⟩ ?_ ?_
    ·exact ⟨[some 0,some 1,some 2,some 3],rfl,by simp,by simp [setsA,keepA,SWeak,AWeak],by simp [HWeak,BWeak,SWeak,AWeak,mixU]⟩
    ·rintro i ⟨hi,ha⟩
     have al:=celsD_length (mixU b l i)
     have ml:=mixU_len b l i
     rw [ml] at al
     simp only [awK,Nat.reduceMod,Nat.reduceDiv,reduceIte]
     rcases Nat.lt_or_ge i l.length with h | h
     ·have gc:=celsD_get (l:=mixU b l i) (k:=i) (by omega)
      rw [mixU_get h] at gc
      have gx:=hl.at h
      have at1:=@all_takeU l (fitU b) i h ha
      rcases hx:l.getD i noC with ⟨t,nul⟩
      have ms:=@mixU_set b l i h t
      have mn:=@mixU_null b l i h t
      rw [hx] at gc gx at1 ms mn
      simp only at gx
      cases nul
      ·have mf:fitU b (t,false)=(basedU t b).2:=rfl
       have ms:=ms rfl
       rw [mf] at at1
       have gc:((celsD (mixU b l i)).drop (i*2)).take 2=[.bool false,S t]:=gc
       have nf:(basedU t b).2=false→l.all (fitU b)=false:=fun q=>by
        cases q2:l.all (fitU b)
        ·rfl
        ·have:=List.all_eq_true.1 q2 _ (memD (d:=noC) h)
         rw [hx,mf,q] at this
         cases this
       simp (config:={maxSteps:=1000000}) (disch:=((try simp only [awL]);omega)) only [QR,QS,QT,QU,QV,QW,QX,QY,QZ,Q0,Q1,Q2,lc,al,gc,e0',↓awU,awV,awF,Qa,Qb,Qc,Qd,forall_const,↓reduceIte,↓reduceDIte,↓Qe,Qf,Qg,Qh,Qi,Qj,Qk,Ql,Qm,Qn,Qo,Qp,Qq,Qr,Qs,implies_true,Qt,Qu,Qv,Qw,Qx,Qy,Qz,QA,QB,QC,QD,QE,QF,QG,QH,QI,QJ,QK,QL,QM,QN,QO,QP,QQ]
       refine CallC.of (based_spec hG hU t b gx) (by rfl) ?_
       generalize basedU t b=y at *
       obtain ⟨y1,y2⟩:=y
       simp only at at1 ms nf
       cases y2
       ·rw [nf rfl,if_neg Bool.false_ne_true,if_neg (by decide)] at hr
        subst hr
        simp (config:={maxSteps:=1000000}) (disch:=((try simp only [awL]);omega)) only [QR,QS,QT,QU,QV,QW,QX,QY,QZ,Q0,Q1,Q2,lc,al,↓awU,awV,awF,Qa,Qb,Qc,Qd,forall_const,↓reduceIte,↓reduceDIte,↓Qe,Qf,Qg,Qh,Qi,Qj,Qk,Ql,Qm,Qn,Qo,Qp,Qq,Qr,Qs,implies_true,Qt,Qu,Qv,Qw,Qx,Qy,Qz,QA,QB,QC,QD,QE,QF,QG,QH,QI,QJ,QK,QL,QM,QN,QO,QP,QQ]
        first | done | rfl
       ·simp (config:={maxSteps:=1000000}) (disch:=((try simp only [awL]);omega)) only [QR,QS,QT,QU,QV,QW,QX,QY,QZ,Q0,Q1,Q2,lc,al,↓awU,awV,awF,Qa,Qb,Qc,Qd,forall_const,↓reduceIte,↓reduceDIte,↓Qe,Qf,Qg,Qh,Qi,Qj,Qk,Ql,Qm,Qn,Qo,Qp,Qq,Qr,Qs,implies_true,Qt,Qu,Qv,Qw,Qx,Qy,Qz,QA,QB,QC,QD,QE,QF,QG,QH,QI,QJ,QK,QL,QM,QN,QO,QP,QQ]
        first
        | exact ⟨i+1,⟨h,at1 rfl⟩,by simp only;omega,⟨[some 0,some 1,some 2,some 3],rfl,by simp,by simp [setsA,keepA,SWeak,AWeak],by simp [HWeak,BWeak,SWeak,AWeak,ms]⟩⟩
        | exact ⟨by rfl,i+1,⟨h,at1 rfl⟩,by simp only;omega,⟨[some 0,some 1,some 2,some 3],rfl,by simp,by simp [setsA,keepA,SWeak,AWeak],by simp [HWeak,BWeak,SWeak,AWeak,ms]⟩⟩
      ·have gc:((celsD (mixU b l i)).drop (i*2)).take 2=[.bool true,S t]:=gc
       have mn:=mn rfl
       simp (config:={maxSteps:=1000000}) (disch:=((try simp only [awL]);omega)) only [QR,QS,QT,QU,QV,QW,QX,QY,QZ,Q0,Q1,Q2,lc,al,gc,e0',↓awU,awV,awF,Qa,Qb,Qc,Qd,forall_const,↓reduceIte,↓reduceDIte,↓Qe,Qf,Qg,Qh,Qi,Qj,Qk,Ql,Qm,Qn,Qo,Qp,Qq,Qr,Qs,implies_true,Qt,Qu,Qv,Qw,Qx,Qy,Qz,QA,QB,QC,QD,QE,QF,QG,QH,QI,QJ,QK,QL,QM,QN,QO,QP,QQ]
       first
       | exact ⟨i+1,⟨h,at1 rfl⟩,by simp only;omega,⟨[some 0,some 1,some 2,some 3],rfl,by simp,by simp [setsA,keepA,SWeak,AWeak],by simp [HWeak,BWeak,SWeak,AWeak,mn]⟩⟩
       | exact ⟨by rfl,i+1,⟨h,at1 rfl⟩,by simp only;omega,⟨[some 0,some 1,some 2,some 3],rfl,by simp,by simp [setsA,keepA,SWeak,AWeak],by simp [HWeak,BWeak,SWeak,AWeak,mn]⟩⟩
     ·have e:i=l.length:=by omega
      subst e
      rw [List.take_length] at ha
      rw [ha,if_pos rfl,if_pos rfl] at hr
      have me:=@mixU_end b l
      have ll:(l.map (apU b)).length=l.length:=by simp
      rw [me] at al ⊢
      have cu:cut (celsD (l.map (apU b))) 0 (l.length*2)=celsD (l.map (apU b)):=by unfold cut;rw [List.drop_zero,List.take_of_length_le (by omega)]
      subst hr
      unfold CelS
      rw [ll]
      simp (config:={maxSteps:=1000000}) (disch:=((try simp only [awL]);omega)) only [QR,QS,QT,QU,QV,QW,QX,QY,QZ,Q0,Q1,Q2,lc,al,cu,↓awU,awV,awF,Qa,Qb,Qc,Qd,forall_const,↓reduceIte,↓reduceDIte,↓Qe,Qf,Qg,Qh,Qi,Qj,Qk,Ql,Qm,Qn,Qo,Qp,Qq,Qr,Qs,implies_true,Qt,Qu,Qv,Qw,Qx,Qy,Qz,QA,QB,QC,QD,QE,QF,QG,QH,QI,QJ,QK,QL,QM,QN,QO,QP,QQ]
      first | done | rfl
  ·rw [if_neg e1,if_neg (by decide)] at hr
   subst hr
   simp (config:={maxSteps:=1000000}) (disch:=((try simp only [awL]);omega)) only [QR,QS,QT,QU,QV,QW,QX,QY,QZ,Q0,Q1,Q2,lc,e0',Tryz.f12,↓awU,awV,awF,Qa,Qb,Qc,Qd,forall_const,↓reduceIte,↓reduceDIte,↓Qe,Qf,Qg,Qh,Qi,Qj,Qk,Ql,Qm,Qn,Qo,Qp,Qq,Qr,Qs,implies_true,Qt,Qu,Qv,Qw,Qx,Qy,Qz,QA,QB,QC,QD,QE,QF,QG,QH,QI,QJ,QK,QL,QM,QN,QO,QP,QQ]
   refine CallC.of (known_spec hB b) (by rfl) ?_
   rw [decide_eq_false e1]
   simp (config:={maxSteps:=1000000}) (disch:=((try simp only [awL]);omega)) only [QR,QS,QT,QU,QV,QW,QX,QY,QZ,Q0,Q1,Q2,lc,↓awU,awV,awF,Qa,Qb,Qc,Qd,forall_const,↓reduceIte,↓reduceDIte,↓Qe,Qf,Qg,Qh,Qi,Qj,Qk,Ql,Qm,Qn,Qo,Qp,Qq,Qr,Qs,implies_true,Qt,Qu,Qv,Qw,Qx,Qy,Qz,QA,QB,QC,QD,QE,QF,QG,QH,QI,QJ,QK,QL,QM,QN,QO,QP,QQ]
   first | done | rfl
end Go.Proofs.YtkcghbpghjdgpaaGreatDoor
namespace Go.Proofs.YtkcghbpghjdgpaaGreatDoor
open Go Go.Proofs Go.Abs
variable {G:Globals}
end Go.Proofs.YtkcghbpghjdgpaaGreatDoor
namespace Go.Proofs.YtkcghbpghjdgpaaGreatDoor
open Go Go.Proofs Go.Abs
variable {G:Globals}
def baseU (l:List Cel):List UInt8:=takeU (toU (optsU l))
theorem utakeO_spec (l:List Cel):Ctr Tryz.prog G 10 [.d (.sl 4 false (optC (optsU l)))] [] (.d (S (baseU l))) []:=by
 have h:=utake_spec (G:=G) (toU (optsU l)) false (by rw [toU_len];show 4≤1000000;decide)
 rw [ouC_to,toU_len] at h
 exact h
def goodO (o:Opt):Bool:=decide (0<o.fr) && decide (o.ag=0)
def okB (l:List Cel) (b:List UInt8):Bool:=goodO (optU l b)
def exU:List Cel:=[([50,46,53,32,107,109],false),([51,48,48,32,109],false),([52,99,109],false)]
theorem exU_ok:okU exU:=⟨by decide,by decide⟩
theorem exU_base:baseU exU=[109]:=by decide +kernel
theorem exU_e:uapE [109] exU=0:=by decide +kernel
theorem exU_l:uapL [109] exU=[([50,53,48,48],false),([51,48,48],false),([48,46,48,52],false)]:=by decide +kernel
set_option maxHeartbeats 16000000 in
set_option maxRecDepth 100000 in
theorem usane_spec (hG:Num.HG G) (hU:HU G) (hB:HB G):Ctr Tryz.prog G 7 [] [] (.d (.bool true)) []:=by
 refine Ctr.pure (M:=M0) hmix Tryz.func7 rfl go7 ?_
 have o1:=uoptions_spec hG hU hB [] exU false exU_ok
 have t1:=utakeO_spec (G:=G) exU
 rw [exU_base] at t1
 have a1:=uapply_spec hG hU hB [] exU false exU_ok [109]
 unfold uapR at a1
 rw [exU_e,exU_l,if_pos rfl] at a1
 have a1:Ctr Tryz.prog G 12 [.d (.agg [S [],CelS exU false]),.d (S [109])] [] (.d (.tup [.agg [S [],.sl 3 false [.bool false,S [50,53,48,48],.bool false,S [51,48,48],.bool false,S [48,46,48,52]]],.int .i64 0])) []:=a1
 have k1:=known_spec hB [107,103]
 have k2:=known_spec hB [103]
 rw [show decide (([107,103]:List UInt8)∈basesL)=true from rfl] at k1
 rw [show decide (([103]:List UInt8)∈basesL)=false from rfl] at k2
 simp (config:={maxSteps:=1000000}) (disch:=((try simp only [awL]);omega)) only [QR,QS,QT,QU,QV,QW,QX,QY,QZ,Q0,Q1,Q2,Tryz.f7,↓awU,awV,awF,Qa,Qb,Qc,Qd,forall_const,↓reduceIte,↓reduceDIte,↓Qe,Qf,Qg,Qh,Qi,Qj,Qk,Ql,Qm,Qn,Qo,Qp,Qq,Qr,Qs,implies_true,Qt,Qu,Qv,Qw,Qx,Qy,Qz,QA,QB,QC,QD,QE,QF,QG,QH,QI,QJ,QK,QL,QM,QN,QO,QP,QQ]
 refine CallC.frozenE o1 (by rfl) ?_
 generalize hO:optC (optsU exU)=O at *
 simp (config:={maxSteps:=1000000}) (disch:=((try simp only [awL]);omega)) only [QR,QS,QT,QU,QV,QW,QX,QY,QZ,Q0,Q1,Q2,↓awU,awV,awF,Qa,Qb,Qc,Qd,forall_const,↓reduceIte,↓reduceDIte,↓Qe,Qf,Qg,Qh,Qi,Qj,Qk,Ql,Qm,Qn,Qo,Qp,Qq,Qr,Qs,implies_true,Qt,Qu,Qv,Qw,Qx,Qy,Qz,QA,QB,QC,QD,QE,QF,QG,QH,QI,QJ,QK,QL,QM,QN,QO,QP,QQ]
 refine CallC.of t1 (by rfl) ?_
 simp (config:={maxSteps:=1000000}) (disch:=((try simp only [awL]);omega)) only [QR,QS,QT,QU,QV,QW,QX,QY,QZ,Q0,Q1,Q2,↓awU,awV,awF,Qa,Qb,Qc,Qd,forall_const,↓reduceIte,↓reduceDIte,↓Qe,Qf,Qg,Qh,Qi,Qj,Qk,Ql,Qm,Qn,Qo,Qp,Qq,Qr,Qs,implies_true,Qt,Qu,Qv,Qw,Qx,Qy,Qz,QA,QB,QC,QD,QE,QF,QG,QH,QI,QJ,QK,QL,QM,QN,QO,QP,QQ]
 refine CallC.frozenE a1 (by rfl) ?_
 simp (config:={maxSteps:=1000000}) (disch:=((try simp only [awL]);omega)) only [QR,QS,QT,QU,QV,QW,QX,QY,QZ,Q0,Q1,Q2,↓awU,awV,awF,Qa,Qb,Qc,Qd,forall_const,↓reduceIte,↓reduceDIte,↓Qe,Qf,Qg,Qh,Qi,Qj,Qk,Ql,Qm,Qn,Qo,Qp,Qq,Qr,Qs,implies_true,Qt,Qu,Qv,Qw,Qx,Qy,Qz,QA,QB,QC,QD,QE,QF,QG,QH,QI,QJ,QK,QL,QM,QN,QO,QP,QQ]
 refine ⟨by rfl,?_⟩
 refine CallC.of k1 (by rfl) ?_
 simp (config:={maxSteps:=1000000}) (disch:=((try simp only [awL]);omega)) only [QR,QS,QT,QU,QV,QW,QX,QY,QZ,Q0,Q1,Q2,↓awU,awV,awF,Qa,Qb,Qc,Qd,forall_const,↓reduceIte,↓reduceDIte,↓Qe,Qf,Qg,Qh,Qi,Qj,Qk,Ql,Qm,Qn,Qo,Qp,Qq,Qr,Qs,implies_true,Qt,Qu,Qv,Qw,Qx,Qy,Qz,QA,QB,QC,QD,QE,QF,QG,QH,QI,QJ,QK,QL,QM,QN,QO,QP,QQ]
 refine CallC.of k2 (by rfl) ?_
 simp (config:={maxSteps:=1000000}) (disch:=((try simp only [awL]);omega)) only [QR,QS,QT,QU,QV,QW,QX,QY,QZ,Q0,Q1,Q2,↓awU,awV,awF,Qa,Qb,Qc,Qd,forall_const,↓reduceIte,↓reduceDIte,↓Qe,Qf,Qg,Qh,Qi,Qj,Qk,Ql,Qm,Qn,Qo,Qp,Qq,Qr,Qs,implies_true,Qt,Qu,Qv,Qw,Qx,Qy,Qz,QA,QB,QC,QD,QE,QF,QG,QH,QI,QJ,QK,QL,QM,QN,QO,QP,QQ]
 first | done | rfl | decide
end Go.Proofs.YtkcghbpghjdgpaaGreatDoor
namespace Go.Proofs.YtkcghbpghjdgpaaGreatDoor
open Go Go.Proofs Go.Abs
variable {G:Globals}
theorem cutA (L:List D) (n:Nat) (h:L.length≤n):cut L 0 n=L:=by unfold cut;rw [List.drop_zero,List.take_of_length_le h]
end Go.Proofs.YtkcghbpghjdgpaaGreatDoor
namespace Go.Proofs.YtkcghbpghjdgpaaGreatDoor
open Go Go.Proofs Go.Abs
namespace Decs
abbrev dg (b:UInt8):Bool:=Num.dig10.contains b
theorem cutL_num (c:UInt8):∀ s:List UInt8,cutL c s=Num.cutL c s
 | []=>rfl
 | b::l=>by rw [cutL,Num.cutL,cutL_num c l]
theorem cutR_num (c:UInt8):∀ s:List UInt8,cutR c s=Num.cutR c s
 | []=>rfl
 | b::l=>by rw [cutR,Num.cutR,cutR_num c l]
theorem dg_ne {b:UInt8} (h:dg b=true):b≠46∧b≠45∧b≠43∧b≠32∧b≠47:=by
 have:=Num.dig_range h
 refine ⟨?_,?_,?_,?_,?_⟩<;>rintro rfl<;>revert this<;>decide
structure Dig2 (F B:List UInt8):Prop where
 f1:1≤F.length
 fd:∀ b∈F,dg b=true
 bd:∀ b∈B,dg b=true
structure Dec (F B:List UInt8):Prop where
 f1:1≤F.length
 f2:F.length≤15
 fd:∀ b∈F,dg b=true
 b2:B.length≤9
 bd:∀ b∈B,dg b=true
theorem Dec.two {F B:List UInt8} (h:Dec F B):Dig2 F B:=⟨h.f1,h.fd,h.bd⟩
def pt (F B:List UInt8):List UInt8:=F++(if B=[] then [] else 46::B)
theorem cutL_pt {F:List UInt8} (h:∀ b∈F,dg b=true) (X:List UInt8):Num.cutL 46 (F++46::X)=F∧Num.cutR 46 (F++46::X)=X:=by
 induction F with
 | nil=>simp [Num.cutL,Num.cutR]
 | cons b l ih =>
  have hb:=(dg_ne (h b (List.mem_cons_self ..))).1
  have:=ih (fun c hc=>h c (List.mem_cons_of_mem _ hc))
  rw [List.cons_append,Num.cutL,Num.cutR,if_neg hb,if_neg hb,this.1,this.2]
  exact ⟨rfl,rfl⟩
theorem cut_none {F:List UInt8} (h:∀ b∈F,dg b=true):(46:UInt8)∉F∧Num.cutL 46 F=F∧Num.cutR 46 F=[]:=by
 have hn:(46:UInt8)∉F:=fun hm=>(dg_ne (h _ hm)).1 rfl
 exact ⟨hn,((Num.cut_index 46 F).2 hn).2⟩
theorem pt_cut {F B:List UInt8} (h:Dig2 F B):Num.cutL 46 (pt F B)=F∧Num.cutR 46 (pt F B)=B∧(46∈pt F B↔B≠[]):=by
 unfold pt
 by_cases e:B=[]
 ·rw [if_pos e,List.append_nil]
  have:=cut_none h.fd
  exact ⟨this.2.1,by rw [this.2.2,e],⟨fun q=>absurd q this.1,fun q=>absurd e q⟩⟩
 ·rw [if_neg e]
  have:=cutL_pt h.fd B
  exact ⟨this.1,this.2,⟨fun _=>e,fun _=>by simp⟩⟩
theorem pt_head {F B:List UInt8} (h:Dig2 F B):∃ b l,pt F B=b::l∧dg b=true:=by
 obtain ⟨b,l,e⟩:∃ b l,F=b::l:=by
  match F,h.f1 with
  | b::l,_=>exact ⟨b,l,rfl⟩
 refine ⟨b,l++(if B=[] then [] else 46::B),by unfold pt;rw [e];rfl,h.fd b (by rw [e];exact List.mem_cons_self ..)⟩
def sg (c:Option UInt8) (o:List UInt8):List UInt8:=match c with | none=>o | some c=>c::o
theorem hasP_ne {b c:UInt8} {l:List UInt8} (h:b≠c):Num.hasP (b::l) [c]=false:=by
 unfold Num.hasP
 exact decide_eq_false (by simpa using h)
theorem hasP_eq {c:UInt8} {l:List UInt8}:Num.hasP (c::l) [c]=true:=by
 unfold Num.hasP
 exact decide_eq_true (by simp)
theorem body_sg {F B:List UInt8} (h:Dig2 F B) {c:Option UInt8} (hc:c=none∨c=some 45∨c=some 43):Num.decBody (sg c (pt F B))=pt F B∧Num.decNeg (sg c (pt F B))=decide (c=some 45)∧Num.trimL [43,45] (sg c (pt F B))=pt F B∧((sg c (pt F B)).getD 0 0=45↔c=some 45):=by
 obtain ⟨b,l,e,hb⟩:=pt_head h
 have hn:=dg_ne hb
 have tb:Num.trimL [43,45] (b::l)=b::l:=by
  unfold Num.trimL
  rw [List.dropWhile_cons,if_neg (by simp [hn.2.1,hn.2.2.1])]
 rw [e]
 rcases hc with rfl | rfl | rfl
 ·unfold sg Num.decBody Num.decNeg
  simp only
  rw [hasP_ne hn.2.1,hasP_ne hn.2.2.1]
  refine ⟨by simp,by simp,tb,?_⟩
  simp [hn.2.1]
 ·unfold sg Num.decBody Num.decNeg
  simp only
  rw [hasP_eq]
  refine ⟨by simp,by simp,?_,by simp⟩
  unfold Num.trimL at tb ⊢
  rw [List.dropWhile_cons,if_pos (by decide)]
  exact tb
 ·unfold sg Num.decBody Num.decNeg
  simp only
  rw [hasP_ne (show (43:UInt8)≠45 by decide),hasP_eq]
  refine ⟨by simp,by simp,?_,by simp⟩
  unfold Num.trimL at tb ⊢
  rw [List.dropWhile_cons,if_pos (by decide)]
  exact tb
theorem digB_of {s:List UInt8} {m:Int} (h1:1≤s.length) (h2:(s.length:Int)≤m) (h3:∀ b∈s,dg b=true):Num.digB s m=true:=by
 unfold Num.digB
 rw [decide_eq_true ⟨h1,h2⟩,Bool.true_and,List.all_eq_true]
 exact h3
theorem parts_sg {F B:List UInt8} (h:Dig2 F B) {c:Option UInt8} (hc:c=none∨c=some 45∨c=some 43):Num.decF (sg c (pt F B))=F∧Num.decB (sg c (pt F B))=B:=by
 obtain ⟨h1,_,_⟩:=body_sg h hc
 obtain ⟨p1,p2,p3⟩:=pt_cut h
 exact ⟨by unfold Num.decF;rw [h1,p1],by unfold Num.decB;rw [h1,p2]⟩
theorem ok_sg {F B:List UInt8} (h:Dec F B) {c:Option UInt8} (hc:c=none∨c=some 45∨c=some 43):Num.decOk (sg c (pt F B))=true∧Num.decF (sg c (pt F B))=F∧Num.decB (sg c (pt F B))=B:=by
 obtain ⟨h1,_,_⟩:=body_sg h.two hc
 obtain ⟨p1,p2,p3⟩:=pt_cut h.two
 have eF:Num.decF (sg c (pt F B))=F:=by unfold Num.decF;rw [h1,p1]
 have eB:Num.decB (sg c (pt F B))=B:=by unfold Num.decB;rw [h1,p2]
 refine ⟨?_,eF,eB⟩
 unfold Num.decOk
 rw [eF,eB,h1,digB_of h.f1 (by have:=h.f2;omega) h.fd,Bool.true_and]
 by_cases e:B=[]
 ·rw [decide_eq_false (fun q=>p3.1 q e)];rfl
 ·have bl:1≤B.length:=by
   rcases B with _ | _
   ·exact absurd rfl e
   ·simp
  rw [digB_of bl (by have:=h.b2;omega) h.bd,Bool.or_true]
theorem cut_back {s:List UInt8} (h:(46:UInt8)∈s):s=Num.cutL 46 s++46::Num.cutR 46 s:=by
 induction s with
 | nil=>cases h
 | cons b l ih =>
  rw [Num.cutL,Num.cutR]
  by_cases e:b=46
  ·rw [if_pos e,if_pos e,e];rfl
  ·rw [if_neg e,if_neg e]
   rcases List.mem_cons.1 h with h | h
   ·exact absurd h.symm e
   ·rw [List.cons_append,← ih h]
theorem dec_of {t:List UInt8} (h:Num.decOk t=true):∃ c F B,t=sg c (pt F B)∧Dec F B∧(c=none∨c=some 45∨c=some 43):=by
 have hf:=h
 unfold Num.decOk at h
 rw [Bool.and_eq_true,Bool.or_eq_true] at h
 obtain ⟨h1,h2⟩:=h
 unfold Num.digB at h1
 rw [Bool.and_eq_true,decide_eq_true_eq] at h1
 obtain ⟨⟨l1,l2⟩,ad⟩:=h1
 have fd:=List.all_eq_true.1 ad
 have key:∃ B,Num.decBody t=pt (Num.decF t) B∧Dec (Num.decF t) B:=by
  by_cases e:(46:UInt8)∈Num.decBody t
  ·rcases h2 with h2 | h2
   ·rw [decide_eq_true e] at h2;cases h2
   ·unfold Num.digB at h2
    rw [Bool.and_eq_true,decide_eq_true_eq] at h2
    obtain ⟨⟨m1,m2⟩,bd⟩:=h2
    have bd:=List.all_eq_true.1 bd
    refine ⟨Num.decB t,?_,⟨l1,by omega,fd,by omega,bd⟩⟩
    have hne:Num.decB t≠[]:=by intro q;rw [q] at m1;simp at m1
    have:=cut_back e
    unfold pt
    rw [if_neg hne]
    exact this
  ·refine ⟨[],?_,⟨l1,by omega,fd,by simp,fun b hb=>by cases hb⟩⟩
   unfold pt Num.decF
   rw [if_pos rfl,List.append_nil,((Num.cut_index 46 (Num.decBody t)).2 e).2.1]
 obtain ⟨B,hb,hd⟩:=key
 unfold Num.decBody at hb
 rcases t with _ | ⟨a,l⟩
 ·have:Num.decF []=[]:=rfl
  rw [this] at l1;simp at l1
 ·by_cases q:a=45
  ·subst q
   rw [hasP_eq,if_pos rfl] at hb
   exact ⟨some 45,_,B,by rw [← hb];rfl,hd,.inr (.inl rfl)⟩
  ·rw [hasP_ne q,if_neg Bool.false_ne_true] at hb
   by_cases q2:a=43
   ·subst q2
    rw [hasP_eq,if_pos rfl] at hb
    exact ⟨some 43,_,B,by rw [← hb];rfl,hd,.inr (.inr rfl)⟩
   ·rw [hasP_ne q2,if_neg Bool.false_ne_true] at hb
    exact ⟨none,_,B,by rw [← hb];rfl,hd,.inl rfl⟩
def cF (F:List UInt8):List UInt8:=if Lib.trimLeftB F 48=[] then [48] else Lib.trimLeftB F 48
def cB (B:List UInt8):List UInt8:=Lib.trimRightB B 48
theorem trimL_mem {l:List UInt8} {c b:UInt8} (h:b∈Lib.trimLeftB l c):b∈l:=(List.dropWhile_sublist _).subset h
theorem trimR_mem {l:List UInt8} {c b:UInt8} (h:b∈Lib.trimRightB l c):b∈l:=by
 unfold Lib.trimRightB at h
 exact List.mem_reverse.1 ((List.dropWhile_sublist _).subset (List.mem_reverse.1 h))
theorem canDec {F B:List UInt8} (h:Dec F B):Dec (cF F) (cB B):=by
 have l1:(Lib.trimLeftB F 48).length≤F.length:=(List.dropWhile_sublist _).length_le
 have l2:=trimRB_le B 48
 have f2:=h.f2
 have b2:=h.b2
 refine ⟨?_,?_,?_,by unfold cB;omega,fun b hb=>h.bd b (trimR_mem hb)⟩
 ·unfold cF
  split
  ·simp
  ·rename_i e
   rcases hh:Lib.trimLeftB F 48 with _ | _
   ·exact absurd hh e
   ·simp
 ·unfold cF;split
  ·simp
  ·omega
 ·intro b hb
  unfold cF at hb
  split at hb
  ·rw [List.mem_singleton.1 hb];decide
  ·exact h.fd b (trimL_mem hb)
theorem canO_pt {F B:List UInt8}:canO (Lib.trimLeftB F 48) (Lib.trimRightB B 48)=pt (cF F) (cB B):=rfl
theorem canD_sg {F B:List UInt8} (h:Dec F B) {c:Option UInt8} (hc:c=none∨c=some 45∨c=some 43) :
  canD (sg c (pt F B))=sg (if c=some 45∧pt (cF F) (cB B)≠[48] then some 45 else none) (pt (cF F) (cB B)):=by
 obtain ⟨h1,h2,h3,h4⟩:=body_sg h.two hc
 obtain ⟨p1,p2,p3⟩:=pt_cut h.two
 unfold canD canS
 rw [cutL_num,cutR_num,h3,p1,p2,canO_pt]
 by_cases e:c=some 45
 ·rw [decide_eq_true (h4.2 e)]
  by_cases q:pt (cF F) (cB B)=[48]
  ·rw [if_neg (fun x=>x.2 q),if_neg (fun x=>x.2 q)];rfl
  ·rw [if_pos ⟨rfl,q⟩,if_pos ⟨e,q⟩];rfl
 ·rw [decide_eq_false (fun q=>e (h4.1 q)),if_neg (fun x=>by cases x.1),if_neg (fun x=>e x.1)];rfl
theorem canSg (c:Option UInt8) (p:Prop) [Decidable p]:(if p then some (45:UInt8) else none)=none∨(if p then some (45:UInt8) else none)=some 45∨(if p then some (45:UInt8) else none)=some 43:=by
 split
 ·exact .inr (.inl rfl)
 ·exact .inl rfl
theorem canD_ok {t:List UInt8} (h:Num.decOk t=true):Num.decOk (canD t)=true:=by
 obtain ⟨c,F,B,rfl,hd,hc⟩:=dec_of h
 rw [canD_sg hd hc]
 exact (ok_sg (canDec hd) (canSg c _)).1
theorem num_fold:∀ (B:List UInt8) (v:Nat),B.foldl (fun v b=>v*10+(b.toNat - 48)) v=v*10 ^ B.length+Num.decNum B
 | [],v=>by simp [Num.decNum]
 | b::l,v=>by
   have h1:=num_fold l (v*10+(b.toNat - 48))
   have h2:=num_fold l (0*10+(b.toNat - 48))
   unfold Num.decNum at h1 h2 ⊢
   rw [List.foldl_cons,List.foldl_cons,h1,h2,List.length_cons,Nat.pow_succ]
   rw [Nat.add_mul,Nat.add_mul,Nat.mul_assoc v 10,Nat.mul_comm 10 (10 ^ l.length)]
   omega
theorem num_app (A B:List UInt8):Num.decNum (A++B)=Num.decNum A*10 ^ B.length+Num.decNum B:=by
 have:=num_fold B (Num.decNum A)
 rw [← this]
 unfold Num.decNum
 rw [List.foldl_append]
theorem num_zeros:∀ k:Nat,Num.decNum (List.replicate k 48)=0
 | 0=>rfl
 | k+1=>by
   have:=num_app [48] (List.replicate k 48)
   rw [num_zeros k] at this
   rw [show Num.decNum [48]=0 from rfl,Nat.zero_mul] at this
   rw [List.replicate_succ]
   exact this
theorem dropW (c:UInt8):∀ l:List UInt8,∃ k,l=List.replicate k c++l.dropWhile (· == c)
 | []=>⟨0,rfl⟩
 | b::l=>by
   by_cases e:b=c
   ·obtain ⟨k,hk⟩:=dropW c l
    refine ⟨k+1,?_⟩
    rw [List.dropWhile_cons,if_pos (by simpa using e),List.replicate_succ,List.cons_append,← hk,e]
   ·exact ⟨0,by rw [List.dropWhile_cons,if_neg (by simpa using e)];rfl⟩
theorem left_zeros (F:List UInt8):∃ k,F=List.replicate k 48++Lib.trimLeftB F 48:=dropW 48 F
theorem right_zeros (B:List UInt8):∃ k,B=cB B++List.replicate k 48:=by
 obtain ⟨k,hk⟩:=dropW 48 B.reverse
 refine ⟨k,?_⟩
 have:=congrArg List.reverse hk
 rw [List.reverse_reverse,List.reverse_append,List.reverse_replicate] at this
 exact this
theorem num_left (F X:List UInt8):Num.decNum (F++X)=Num.decNum (cF F++X):=by
 obtain ⟨k,hk⟩:=left_zeros F
 have e:Num.decNum (F++X)=Num.decNum (Lib.trimLeftB F 48++X):=by
  conv=>lhs;rw [hk]
  rw [List.append_assoc,num_app,num_zeros,Nat.zero_mul,Nat.zero_add]
 rw [e]
 unfold cF
 split
 ·rename_i h
  rw [h,num_app [48] X]
  have:Num.decNum [48]=0:=rfl
  rw [this];simp
 ·rfl
def dv (neg:Bool) (F B:List UInt8):Rat:=Rat.divInt (if neg=true then -(Num.decNum (F++B):Int) else (Num.decNum (F++B):Int)) ((10 ^ B.length:Nat):Int)
theorem val_sg {F B:List UInt8} (h:Dig2 F B) {c:Option UInt8} (hc:c=none∨c=some 45∨c=some 43):Num.decVal (sg c (pt F B))=dv (decide (c=some 45)) F B:=by
 obtain ⟨_,h2,_⟩:=body_sg h hc
 obtain ⟨h3,h4⟩:=parts_sg h hc
 unfold Num.decVal dv
 rw [h2,h3,h4]
theorem pow_ne (n:Nat):((10 ^ n:Nat):Int)≠0:=by
 have:0<10 ^ n:=Nat.pow_pos (by decide)
 omega
theorem dv_can (neg:Bool) (F B:List UInt8):dv neg F B=dv neg (cF F) (cB B):=by
 obtain ⟨k,hk⟩:=right_zeros B
 have e1:Num.decNum (F++B)=Num.decNum (cF F++cB B)*10 ^ k:=by
  rw [num_left F B]
  conv=>lhs;rw [hk]
  rw [← List.append_assoc,num_app,num_zeros,List.length_replicate];omega
 have e2:(10 ^ B.length:Nat)=10 ^ (cB B).length*10 ^ k:=by
  conv=>lhs;rw [hk]
  rw [List.length_append,List.length_replicate,Nat.pow_add]
 unfold dv
 rw [e1,e2]
 have e3:(if neg=true then -((Num.decNum (cF F++cB B)*10 ^ k:Nat):Int) else ((Num.decNum (cF F++cB B)*10 ^ k:Nat):Int))=(if neg=true then -(Num.decNum (cF F++cB B):Int) else (Num.decNum (cF F++cB B):Int))*((10 ^ k:Nat):Int):=by
  split
  ·rw [Int.natCast_mul,Int.neg_mul]
  ·rw [Int.natCast_mul]
 rw [e3,Int.natCast_mul,Rat.divInt_mul_right (pow_ne k)]
theorem canD_val {t:List UInt8} (h:Num.decOk t=true):Num.decVal (canD t)=Num.decVal t:=by
 obtain ⟨c,F,B,rfl,hd,hc⟩:=dec_of h
 rw [canD_sg hd hc,val_sg (canDec hd).two (canSg c _),val_sg hd.two hc,dv_can _ F B]
 by_cases e:c=some 45
 ·by_cases q:pt (cF F) (cB B)=[48]
  ·rw [if_neg (fun x=>x.2 q)]
   have hz:Num.decNum (cF F++cB B)=0:=by
    have l1:=(canDec hd).f1
    unfold pt at q
    by_cases eb:cB B=[]
    ·rw [if_pos eb,List.append_nil] at q
     rw [eb,q];rfl
    ·rw [if_neg eb] at q
     have:=congrArg List.length q
     simp at this;omega
   unfold dv
   rw [hz]
   simp
  ·rw [if_pos ⟨e,q⟩,e]
 ·rw [if_neg (fun x=>e x.1),decide_eq_false e];rfl
end Decs
end Go.Proofs.YtkcghbpghjdgpaaGreatDoor
namespace Go.Proofs.YtkcghbpghjdgpaaGreatDoor
open Go Go.Proofs Go.Abs
variable {G:Globals}
theorem decOk_len {t:List UInt8} (h:Num.decOk t=true):t.length≤26:=by
 obtain ⟨c,F,B,rfl,hd,hc⟩:=Decs.dec_of h
 have h1:=hd.f2
 have h2:=hd.b2
 have:(Decs.pt F B).length≤25:=by
  unfold Decs.pt
  rw [List.length_append]
  split
  ·simp;omega
  ·rw [List.length_cons];omega
 unfold Decs.sg
 rcases c with _ | c
 ·simp only;omega
 ·simp only [List.length_cons];omega
end Go.Proofs.YtkcghbpghjdgpaaGreatDoor
namespace Go.Proofs.YtkcghbpghjdgpaaGreatDoor.Num
open Go Go.Proofs Go.Abs
variable {G:Globals}
structure RB where
 neg:Bool
 l:List Nat
def RB.ok (x:RB):Bool:=decide (x.l.length≤256∧(x.l=[]∧x.neg=false∨x.l≠[]∧x.l.getD (x.l.length - 1) 0≠0))
def RB.int (x:RB):Int:=if x.neg then -(val x.l:Int) else val x.l
structure RB.Dg (x:RB):Prop where
 dig:Dig x.l
 len:x.l.length≤1000
theorem RB.of (n:Int) (h:sz n≤1000):RB.Dg ⟨decide (n<0),toW n.natAbs⟩:=⟨dig_toW _,h⟩
end Go.Proofs.YtkcghbpghjdgpaaGreatDoor.Num
namespace Go.Proofs.YtkcghbpghjdgpaaGreatDoor.Num
open Go Go.Proofs Go.Abs
variable {G:Globals}
end Go.Proofs.YtkcghbpghjdgpaaGreatDoor.Num
namespace Go.Proofs.YtkcghbpghjdgpaaGreatDoor.Num
open Go Go.Proofs Go.Abs
variable {G:Globals}
end Go.Proofs.YtkcghbpghjdgpaaGreatDoor.Num
namespace Go.Proofs.YtkcghbpghjdgpaaGreatDoor.Num
open Go Go.Proofs Go.Abs
variable {G:Globals}
set_option maxRecDepth 100000 in
theorem rtrim_ref (o:List Nat) (n:Nat) (hd:Dig o) (hn:n≤o.length) (hl:o.length<2 ^ 60) :
  Ctr Tryz.prog G 96 [.lsl 0 1 0 n] [.row false (nats .u32 o)] (.lsl 0 1 0 (toW (val (o.take n))).length) [.row false (nats .u32 o)]:=by
 refine Ctr.body (M:=M0) hmix Tryz.func96 rfl go96 ?_
 simp (config:={maxSteps:=1000000}) (disch:=((try simp only [awL]);omega)) only [Tryz.f96,↓awU,awV,awF,Qa,Qb,Qc,Qd,forall_const,↓reduceIte,↓reduceDIte,↓Qe,Qf,Qg,Qh,Qi,Qj,Qk,Ql,Qm,Qn,Qo,Qp,Qq,Qr,Qs,implies_true,Qt,Qu,Qv,Qw,Qx,Qy,Qz,QA,QB,QC,QD,QE,QF,QG,QH,QI,QJ,QK,QL,QM,QN,QO,QP,QQ]
 refine LoopC.fr 0 (α:=Nat) (fun k=>k) (fun k=>[(0,.lsl 0 1 0 k)]) (fun _=>[.row false (nats .u32 o)]) (fun k=>k≤n∧val (o.take k)=val (o.take n)) n ⟨Nat.le_refl _,rfl⟩ ?_ ?_
 ·exact ⟨[some 0],rfl,by simp,by simp [setsA,keepA,SWeak,AWeak],by simp [HWeak,BWeak,SWeak,AWeak]⟩
 ·rintro k ⟨hk,hv⟩
  simp only [awK,Nat.reduceMod,Nat.reduceDiv,reduceIte]
  rcases k with _ | k
  ·simp (config:={maxSteps:=1000000}) (disch:=((try simp only [awL]);omega)) only [↓awU,awV,awF,Qa,Qb,Qc,Qd,forall_const,↓reduceIte,↓reduceDIte,↓Qe,Qf,Qg,Qh,Qi,Qj,Qk,Ql,Qm,Qn,Qo,Qp,Qq,Qr,Qs,implies_true,Qt,Qu,Qv,Qw,Qx,Qy,Qz,QA,QB,QC,QD,QE,QF,QG,QH,QI,QJ,QK,QL,QM,QN,QO,QP,QQ]
   have:toW (val (o.take n))=[]:=by rw [← hv];exact toW_zero
   rw [this]
   exact ⟨[some 0],rfl,by simp,by simp [HWeak,BWeak,SWeak,AWeak],.inl (by simp [AWeak,SWeak])⟩
  ·simp (config:={maxSteps:=1000000}) (disch:=((try simp only [awL]);omega)) only [↓awU,awV,awF,Qa,Qb,Qc,Qd,forall_const,↓reduceIte,↓reduceDIte,↓Qe,Qf,Qg,Qh,Qi,Qj,Qk,Ql,Qm,Qn,Qo,Qp,Qq,Qr,Qs,implies_true,Qt,Qu,Qv,Qw,Qx,Qy,Qz,QA,QB,QC,QD,QE,QF,QG,QH,QI,QJ,QK,QL,QM,QN,QO,QP,QQ]
   refine ⟨fun h=>⟨k,⟨by omega,?_⟩,Nat.lt_succ_self _,⟨[some 0],rfl,by simp,by simp [setsA,keepA,SWeak,AWeak],by simp [HWeak,BWeak,SWeak,AWeak]⟩⟩,fun h=>?_⟩
   ·rw [← hv,take_val o k,show o.getD k 0=0 by omega];simp
   ·have:=toW_take hd (k:=k+1) (by omega) (.inr (by simpa using h))
    rw [hv] at this
    rw [this]
    have e:(o.take (k+1)).length=k+1:=by simp;omega
    rw [e]
    exact ⟨[some 0],rfl,by simp,by simp [HWeak,BWeak,SWeak,AWeak],.inl (by simp [AWeak,SWeak])⟩
set_option maxRecDepth 100000 in
theorem trim_prefix:∀ {q:List Nat},Dig q→toW (val q)=q.take (toW (val q)).length
 | [],_=>by show toW 0=_;rw [toW_zero];simp
 | d::l,h=>by
   have hd:d<B:=h d (List.mem_cons_self ..)
   have ih:=trim_prefix (q:=l) fun x hx=>h x (List.mem_cons_of_mem _ hx)
   by_cases h0:val (d::l)=0
   ·rw [h0,toW_zero];rfl
   ·have e:toW (val (d::l))=d::toW (val l):=by
     rw [toW_pos h0]
     simp only [val]
     rw [Nat.add_mul_mod_self_left,Nat.mod_eq_of_lt hd,Nat.add_mul_div_left _ _ (by decide:0<B),Nat.div_eq_of_lt hd,Nat.zero_add]
    rw [e,List.length_cons,List.take_succ_cons,← ih]
def dtx (n:Nat):List UInt8:=(dgs n).reverse.map fun z=>UInt8.ofNat z.toNat
set_option maxRecDepth 100000 in
theorem dtx_zero:dtx 0=[]:=by rw [dtx,dgs_zero];rfl
set_option maxRecDepth 100000 in
theorem dtx_pos {n:Nat} (h:n≠0):dtx n=dtx (n / 10)++[UInt8.ofNat (48+n % 10)]:=by
 rw [dtx,dgs_pos h,List.reverse_cons,List.map_append];rfl
set_option maxRecDepth 100000 in
theorem dtx_len (n:Nat):(dtx n).length≤10*(toW n).length:=by
 have:=dgs_bound n
 rw [dtx,List.length_map,List.length_reverse];exact this
set_option maxRecDepth 100000 in
theorem decS_dtx (n:Nat):decS n=if n=0 then [48] else dtx n:=rfl
abbrev MT:Muts:=fun f=>Nat.beq f 96
set_option maxRecDepth 100000 in
theorem set_mid {α:Type} {a q e:List α} {k:Nat} {x y:α} (h:a.length=k):(a++x::(q++e)).set k y=a++y::(q++e):=by
 subst h;simp
set_option maxRecDepth 100000 in
theorem take_row {l:List Nat} {k:Nat} {q e:List Nat} (h:k<l.length):l.take (k+1)++(q++e)=l.take k++l.getD k 0::(q++e):=by
 rw [List.take_add_one,List.getElem?_eq_getElem h,List.getD_eq_getElem?_getD,List.getElem?_eq_getElem h,List.append_assoc];rfl
set_option maxHeartbeats 4000000 in
set_option maxRecDepth 100000 in
theorem rtextBig_spec (n:Int) (hz:sz n≤256):Ctr Tryz.prog G 53 [.d (Big n)] [] (.d (S (textB n))) []:=by
 rw [textB,if_pos hz]
 refine Ctr.pure (M:=MT) hmix Tryz.func53 rfl go53 ?_
 simp (config:={maxSteps:=1000000}) (disch:=((try simp only [awL]);omega)) only [MT,Nat.beq_eq,QR,QS,QT,QU,QV,QW,QX,QY,QZ,Q0,Q1,Q2,Tryz.f53,↓awU,awV,awF,Qa,Qb,Qc,Qd,forall_const,↓reduceIte,↓reduceDIte,↓Qe,Qf,Qg,Qh,Qi,Qj,Qk,Ql,Qm,Qn,Qo,Qp,Qq,Qr,Qs,implies_true,Qt,Qu,Qv,Qw,Qx,Qy,Qz,QA,QB,QC,QD,QE,QF,QG,QH,QI,QJ,QK,QL,QM,QN,QO,QP,QQ]
 refine CallC.pure (rvalidBig_spec n) ?_
 rw [decide_eq_true hz]
 simp only [sz] at hz
 have dl:=dtx_len n.natAbs
 simp (config:={maxSteps:=1000000}) (disch:=((try simp only [awL]);omega)) only [MT,Nat.beq_eq,QR,QS,QT,QU,QV,QW,QX,QY,QZ,Q0,Q1,Q2,↓awU,awV,awF,Qa,Qb,Qc,Qd,forall_const,↓reduceIte,↓reduceDIte,↓Qe,Qf,Qg,Qh,Qi,Qj,Qk,Ql,Qm,Qn,Qo,Qp,Qq,Qr,Qs,implies_true,Qt,Qu,Qv,Qw,Qx,Qy,Qz,QA,QB,QC,QD,QE,QF,QG,QH,QI,QJ,QK,QL,QM,QN,QO,QP,QQ]
 refine LoopC.fr 2 (α:=Nat × List Nat × List UInt8) (fun a=>a.1) (fun a=>[(3,.lsl 1 1 0 (toW a.1).length),(4,.d (S a.2.2))])
  (fun a=>[.box [.d (.bool (decide (n<0))),.d (W (toW n.natAbs))],.row false (nats .u32 (toW a.1++a.2.1))])
  (fun a=>dtx a.1++a.2.2=dtx n.natAbs∧Dig a.2.1∧(toW a.1++a.2.1).length≤256) (n.natAbs,[],[]) ⟨by simp,by simp [Dig],by simpa using hz⟩ ?_ ?_
 ·exact ⟨[some 0,some 2],rfl,by simp,by simp [setsA,keepA,SWeak,AWeak],by simp [HWeak,BWeak,SWeak,AWeak]⟩
 ·rintro ⟨m,ex,s⟩ ⟨hs,hd,hlen⟩
  simp only at hs hd hlen
  have hsl:=congrArg List.length hs
  rw [List.length_append] at hsl
  rw [List.length_append] at hlen
  simp only [awK,Nat.reduceMod,Nat.reduceDiv,reduceIte]
  by_cases m0:m=0
  ·subst m0
   rw [dtx_zero,List.nil_append] at hs
   rw [toW_zero]
   subst hs
   by_cases n0:n=0
   ·have e1:dtx n.natAbs=[]:=by rw [n0];exact dtx_zero
    have e2:decS n.natAbs=[48]:=by rw [n0];rfl
    rw [e1,e2,if_neg (by omega)]
    simp (config:={maxSteps:=1000000}) (disch:=((try simp only [awL]);omega)) only [MT,Nat.beq_eq,QR,QS,QT,QU,QV,QW,QX,QY,QZ,Q0,Q1,Q2,↓awU,awV,awF,Qa,Qb,Qc,Qd,forall_const,↓reduceIte,↓reduceDIte,↓Qe,Qf,Qg,Qh,Qi,Qj,Qk,Ql,Qm,Qn,Qo,Qp,Qq,Qr,Qs,implies_true,Qt,Qu,Qv,Qw,Qx,Qy,Qz,QA,QB,QC,QD,QE,QF,QG,QH,QI,QJ,QK,QL,QM,QN,QO,QP,QQ]
    try rfl
   ·have e1:¬ dtx n.natAbs=[]:=by rw [dtx_pos (by omega)];simp
    have e2:decS n.natAbs=dtx n.natAbs:=by rw [decS_dtx,if_neg (by omega)]
    rw [e2]
    by_cases hn:n<0
    ·rw [if_pos hn]
     simp (config:={maxSteps:=1000000}) (disch:=((try simp only [awL]);omega)) only [MT,Nat.beq_eq,QR,QS,QT,QU,QV,QW,QX,QY,QZ,Q0,Q1,Q2,e1,↓awU,awV,awF,Qa,Qb,Qc,Qd,forall_const,↓reduceIte,↓reduceDIte,↓Qe,Qf,Qg,Qh,Qi,Qj,Qk,Ql,Qm,Qn,Qo,Qp,Qq,Qr,Qs,implies_true,Qt,Qu,Qv,Qw,Qx,Qy,Qz,QA,QB,QC,QD,QE,QF,QG,QH,QI,QJ,QK,QL,QM,QN,QO,QP,QQ]
     try rfl
    ·rw [if_neg hn]
     simp (config:={maxSteps:=1000000}) (disch:=((try simp only [awL]);omega)) only [MT,Nat.beq_eq,QR,QS,QT,QU,QV,QW,QX,QY,QZ,Q0,Q1,Q2,e1,↓awU,awV,awF,Qa,Qb,Qc,Qd,forall_const,↓reduceIte,↓reduceDIte,↓Qe,Qf,Qg,Qh,Qi,Qj,Qk,Ql,Qm,Qn,Qo,Qp,Qq,Qr,Qs,implies_true,Qt,Qu,Qv,Qw,Qx,Qy,Qz,QA,QB,QC,QD,QE,QF,QG,QH,QI,QJ,QK,QL,QM,QN,QO,QP,QQ]
     try rfl
  ·have hl:0<(toW m).length:=by rw [Nat.pos_iff_ne_zero,ne_eq,List.length_eq_zero_iff,toW_nil];exact m0
   have da:=dig_toW m
   have va:=val_toW m
   simp (config:={maxSteps:=1000000}) (disch:=((try simp only [awL]);omega)) only [MT,Nat.beq_eq,QR,QS,QT,QU,QV,QW,QX,QY,QZ,Q0,Q1,Q2,↓awU,awV,awF,Qa,Qb,Qc,Qd,forall_const,↓reduceIte,↓reduceDIte,↓Qe,Qf,Qg,Qh,Qi,Qj,Qk,Ql,Qm,Qn,Qo,Qp,Qq,Qr,Qs,implies_true,Qt,Qu,Qv,Qw,Qx,Qy,Qz,QA,QB,QC,QD,QE,QF,QG,QH,QI,QJ,QK,QL,QM,QN,QO,QP,QQ]
   refine LoopC.fr 26 (α:=Nat × List Nat × Nat) (fun x=>x.1) (fun x=>[(5,.d (.int .u64 x.2.2)),(6,.d (.int .i64 ((x.1:Int) - 1)))])
    (fun x=>[.box [.d (.bool (decide (n<0))),.d (W (toW n.natAbs))],.row false (nats .u32 ((toW m).take x.1++(x.2.1++ex)))])
    (fun x=>x.1≤(toW m).length∧x.2.1.length+x.1=(toW m).length∧Dig x.2.1∧x.2.2<10∧val ((toW m).drop x.1)=val x.2.1*10+x.2.2) ((toW m).length,[],0) ⟨by simp,by simp,by simp [Dig],Nat.zero_lt_succ _,by simp [val]⟩ ?_ ?_
   ·refine ⟨[some 0,some 1],rfl,by simp,by simp [setsA,keepA,SWeak,AWeak],?_⟩
    simp [HWeak,BWeak,SWeak,AWeak]
   ·rintro ⟨k,q,c⟩ ⟨hk,hq,hdq,hc,hv⟩
    simp only at hk hq hdq hc hv
    rcases k with _ | k
    ·rw [List.drop_zero,va] at hv
     simp only [Nat.add_zero] at hq
     have hq10:val q=m / 10:=by omega
     have hc10:c=m % 10:=by omega
     have tq:(q++ex).take (toW m).length=q:=by rw [← hq,List.take_left'];rfl
     have tp:=trim_prefix hdq
     have hdx:Dig (q++ex):=fun d hd'=>(List.mem_append.1 hd').elim (hdq d) (hd d)
     have hrow2:q++ex=toW (m / 10)++(q.drop (toW (val q)).length++ex):=by
      rw [← hq10,← List.append_assoc,tp,List.length_take,Nat.min_eq_left (by rw [tp,List.length_take];omega),List.take_append_drop]
     have hle:(toW (val q)).length≤q.length:=by rw [tp,List.length_take];omega
     simp only [awK,Nat.reduceMod,Nat.reduceDiv,reduceIte]
     simp (config:={maxSteps:=1000000}) (disch:=((try simp only [awL]);omega)) only [MT,Nat.beq_eq,QR,QS,QT,QU,QV,QW,QX,QY,QZ,Q0,Q1,Q2,↓awU,awV,awF,Qa,Qb,Qc,Qd,forall_const,↓reduceIte,↓reduceDIte,↓Qe,Qf,Qg,Qh,Qi,Qj,Qk,Ql,Qm,Qn,Qo,Qp,Qq,Qr,Qs,implies_true,Qt,Qu,Qv,Qw,Qx,Qy,Qz,QA,QB,QC,QD,QE,QF,QG,QH,QI,QJ,QK,QL,QM,QN,QO,QP,QQ]
     refine CallC.by (rtrim_ref (q++ex) (toW m).length hdx (by rw [List.length_append];omega) (by rw [List.length_append];omega)) (by rfl) (by rfl) (Nat.le_refl _) ?_
     rw [tq]
     have st1:strOfNums [48+(c:Int)]=bs [UInt8.ofNat (48+c)]:=by
      rw [strOfNums_bs,List.map_cons,List.map_nil,show (48+(c:Int)).toNat=48+c by omega]
     have hd1:dtx (m / 10)++UInt8.ofNat (48+c)::s=dtx n.natAbs:=by
      rw [← hs,dtx_pos m0,← hc10,List.append_assoc];rfl
     simp (config:={maxSteps:=1000000}) (disch:=((try simp only [awL]);omega)) only [MT,Nat.beq_eq,QR,QS,QT,QU,QV,QW,QX,QY,QZ,Q0,Q1,Q2,st1,List.cons_append,List.nil_append,↓awU,awV,awF,Qa,Qb,Qc,Qd,forall_const,↓reduceIte,↓reduceDIte,↓Qe,Qf,Qg,Qh,Qi,Qj,Qk,Ql,Qm,Qn,Qo,Qp,Qq,Qr,Qs,implies_true,Qt,Qu,Qv,Qw,Qx,Qy,Qz,QA,QB,QC,QD,QE,QF,QG,QH,QI,QJ,QK,QL,QM,QN,QO,QP,QQ]
     have hl3:=congrArg List.length hrow2
     rw [List.length_append,List.length_append] at hl3
     refine ⟨by rfl,(m / 10,q.drop (toW (val q)).length++ex,UInt8.ofNat (48+c)::s),⟨hd1,fun d hd'=>?_,by simp only;omega⟩,by simp only;omega,?_⟩
     ·rcases List.mem_append.1 hd' with h | h
      ·exact hdq d (List.mem_of_mem_drop h)
      ·exact hd d h
     ·simp only
      rw [← hrow2,← hq10]
      exact ⟨[some 0,some 1],rfl,by simp,by simp [setsA,keepA,SWeak,AWeak],by simp [HWeak,BWeak,SWeak,AWeak]⟩
    ·have hst:=short_step (d:=10) (by omega) hv
     have hx:=da.getD k
     simp only [B] at hx
     have ho:=or64 (h:=c) (x:=(toW m).getD k 0) (by omega) hx
     have tl:((toW m).take k).length=k:=by rw [List.length_take];omega
     have hrow:=@take_row (toW m) k q ex (by omega)
     have hdv:=divmod_step (d:=10) hc (da.getD k)
     simp only [B] at hst hdv
     obtain ⟨x,hxe⟩:∃ x,(toW m).getD k 0=x:=⟨_,rfl⟩
     rw [hxe] at ho hrow hst hdv hx
     obtain ⟨A,hA⟩:∃ A,(toW m).take k=A:=⟨_,rfl⟩
     have hg:(A++x::(q++ex)).getD k 0=x:=by rw [← tl,hA];simp [List.getD_eq_getElem?_getD]
     obtain ⟨v,hve⟩:∃ v,c*4294967296+x=v:=⟨_,rfl⟩
     rw [hve] at ho hst hdv
     have e1:(v:Int).tmod 10=((v % 10:Nat):Int):=by rw [Int.tmod_eq_emod_of_nonneg (by omega)];rfl
     have e2:(v:Int).tdiv 10=((v / 10:Nat):Int):=by rw [Int.tdiv_eq_ediv_of_nonneg (by omega)];rfl
     have hset:(A++x::(q++ex)).set k (v / 10)=A++(v / 10)::(q++ex):=set_mid (by rw [← hA];exact tl)
     simp only [awK,Nat.reduceMod,Nat.reduceDiv,reduceIte]
     rw [hrow,hA]
     rw [hA] at tl
     simp (config:={maxSteps:=1000000}) (disch:=((try simp only [awL]);omega)) only [MT,Nat.beq_eq,QR,QS,QT,QU,QV,QW,QX,QY,QZ,Q0,Q1,Q2,hg,ho,e1,e2,hset,tl,↓awU,awV,awF,Qa,Qb,Qc,Qd,forall_const,↓reduceIte,↓reduceDIte,↓Qe,Qf,Qg,Qh,Qi,Qj,Qk,Ql,Qm,Qn,Qo,Qp,Qq,Qr,Qs,implies_true,Qt,Qu,Qv,Qw,Qx,Qy,Qz,QA,QB,QC,QD,QE,QF,QG,QH,QI,QJ,QK,QL,QM,QN,QO,QP,QQ]
     have el:(v / 10::q).length+k=(toW m).length:=by rw [List.length_cons];omega
     refine ⟨(k,v / 10::q,v % 10),⟨by simp only;omega,el,fun d hd'=>?_,Nat.mod_lt _ (by decide),hst⟩,by simp only;omega,?_⟩
     ·rcases List.mem_cons.1 hd' with rfl | h
      ·simpa only [B] using hdv
      ·exact hdq d h
     ·simp only [List.cons_append]
      rw [hA]
      exact ⟨[some 0,some 1],rfl,by simp,by simp [setsA,keepA,SWeak,AWeak],by simp [HWeak,BWeak,SWeak,AWeak]⟩
end Go.Proofs.YtkcghbpghjdgpaaGreatDoor.Num
namespace Go.Proofs.YtkcghbpghjdgpaaGreatDoor.Num
open Go Go.Proofs Go.Abs
variable {G:Globals}
end Go.Proofs.YtkcghbpghjdgpaaGreatDoor.Num
namespace Go.Proofs.YtkcghbpghjdgpaaGreatDoor.Num
open Go Go.Proofs Go.Abs
variable {G:Globals}
structure RF where
 n:RB
 d:RB
def okI (p q:Int):Bool:=decide (0<q∧Nat.gcd p.natAbs q.natAbs=1)
end Go.Proofs.YtkcghbpghjdgpaaGreatDoor.Num
namespace Go.Proofs.YtkcghbpghjdgpaaGreatDoor.Num
open Go Go.Proofs Go.Abs
variable {G:Globals}
end Go.Proofs.YtkcghbpghjdgpaaGreatDoor.Num
namespace Go.Proofs.YtkcghbpghjdgpaaGreatDoor.Num
open Go Go.Proofs Go.Abs
variable {G:Globals}
structure RF.Dg (x:RF):Prop where
 n:x.n.Dg
 d:x.d.Dg
def RF.ok (x:RF):Bool:=(x.n.ok && x.d.ok) && okI x.n.int x.d.int
def RF.rat (x:RF):Rat:=Rat.divInt x.n.int x.d.int
end Go.Proofs.YtkcghbpghjdgpaaGreatDoor.Num
namespace Go.Proofs.YtkcghbpghjdgpaaGreatDoor.Num
open Go Go.Proofs Go.Abs
variable {G:Globals}
set_option maxRecDepth 100000 in
theorem rtext_spec (x:Rat) (hx:FV x):Ctr Tryz.prog G 32 [.d (Frac x)] [] (.d (S (textF x))) []:=by
 have h1:=hx.1
 have h2:=hx.2
 have t1:=@textB_len x.num
 have t2:=@textB_len x.den
 have c2:sz (x.den:Int)≤256:=by simpa [sz] using h2
 refine Ctr.pure (M:=M0) hmix Tryz.func32 rfl go32 ?_
 simp (config:={maxSteps:=1000000}) (disch:=((try simp only [awL]);omega)) only [QR,QS,QT,QU,QV,QW,QX,QY,QZ,Q0,Q1,Q2,Tryz.f32,↓awU,awV,awF,Qa,Qb,Qc,Qd,forall_const,↓reduceIte,↓reduceDIte,↓Qe,Qf,Qg,Qh,Qi,Qj,Qk,Ql,Qm,Qn,Qo,Qp,Qq,Qr,Qs,implies_true,Qt,Qu,Qv,Qw,Qx,Qy,Qz,QA,QB,QC,QD,QE,QF,QG,QH,QI,QJ,QK,QL,QM,QN,QO,QP,QQ]
 refine CallC.pure (rvalid_spec x (by omega) (by omega)) ?_
 rw [decide_eq_true hx]
 simp (config:={maxSteps:=1000000}) (disch:=((try simp only [awL]);omega)) only [QR,QS,QT,QU,QV,QW,QX,QY,QZ,Q0,Q1,Q2,↓awU,awV,awF,Qa,Qb,Qc,Qd,forall_const,↓reduceIte,↓reduceDIte,↓Qe,Qf,Qg,Qh,Qi,Qj,Qk,Ql,Qm,Qn,Qo,Qp,Qq,Qr,Qs,implies_true,Qt,Qu,Qv,Qw,Qx,Qy,Qz,QA,QB,QC,QD,QE,QF,QG,QH,QI,QJ,QK,QL,QM,QN,QO,QP,QQ]
 refine CallC.frozenE (rcmp_spec x.den 1 (by omega) (by rw [toW_one];decide)) (by rw [toW_one];rfl) ?_
 by_cases hd:x.den=1
 ·have:cmpI (x.den:Int) ((1:Nat):Int)=0:=cmpI_eq (by omega)
  rw [this,textF,if_pos hd]
  simp (config:={maxSteps:=1000000}) (disch:=((try simp only [awL]);omega)) only [QR,QS,QT,QU,QV,QW,QX,QY,QZ,Q0,Q1,Q2,↓awU,awV,awF,Qa,Qb,Qc,Qd,forall_const,↓reduceIte,↓reduceDIte,↓Qe,Qf,Qg,Qh,Qi,Qj,Qk,Ql,Qm,Qn,Qo,Qp,Qq,Qr,Qs,implies_true,Qt,Qu,Qv,Qw,Qx,Qy,Qz,QA,QB,QC,QD,QE,QF,QG,QH,QI,QJ,QK,QL,QM,QN,QO,QP,QQ]
  refine CallC.of (rtextBig_spec x.num h1) (by rfl) ?_
  simp (config:={maxSteps:=1000000}) (disch:=((try simp only [awL]);omega)) only [QR,QS,QT,QU,QV,QW,QX,QY,QZ,Q0,Q1,Q2,↓awU,awV,awF,Qa,Qb,Qc,Qd,forall_const,↓reduceIte,↓reduceDIte,↓Qe,Qf,Qg,Qh,Qi,Qj,Qk,Ql,Qm,Qn,Qo,Qp,Qq,Qr,Qs,implies_true,Qt,Qu,Qv,Qw,Qx,Qy,Qz,QA,QB,QC,QD,QE,QF,QG,QH,QI,QJ,QK,QL,QM,QN,QO,QP,QQ]
  try rfl
 ·have hc:cmpI (x.den:Int) ((1:Nat):Int)≠0:=by
   have:=x.den_pos
   rw [cmpI_gt (by omega)];decide
  rw [textF,if_neg hd]
  generalize cmpI (x.den:Int) ((1:Nat):Int)=z at *
  simp (config:={maxSteps:=1000000}) (disch:=((try simp only [awL]);omega)) only [QR,QS,QT,QU,QV,QW,QX,QY,QZ,Q0,Q1,Q2,↓awU,awV,awF,Qa,Qb,Qc,Qd,forall_const,↓reduceIte,↓reduceDIte,↓Qe,Qf,Qg,Qh,Qi,Qj,Qk,Ql,Qm,Qn,Qo,Qp,Qq,Qr,Qs,implies_true,Qt,Qu,Qv,Qw,Qx,Qy,Qz,QA,QB,QC,QD,QE,QF,QG,QH,QI,QJ,QK,QL,QM,QN,QO,QP,QQ]
  refine CallC.of (rtextBig_spec x.num h1) (by rfl) ?_
  simp (config:={maxSteps:=1000000}) (disch:=((try simp only [awL]);omega)) only [QR,QS,QT,QU,QV,QW,QX,QY,QZ,Q0,Q1,Q2,↓awU,awV,awF,Qa,Qb,Qc,Qd,forall_const,↓reduceIte,↓reduceDIte,↓Qe,Qf,Qg,Qh,Qi,Qj,Qk,Ql,Qm,Qn,Qo,Qp,Qq,Qr,Qs,implies_true,Qt,Qu,Qv,Qw,Qx,Qy,Qz,QA,QB,QC,QD,QE,QF,QG,QH,QI,QJ,QK,QL,QM,QN,QO,QP,QQ]
  refine CallC.of (rtextBig_spec x.den c2) (by rw [Big_nat]) ?_
  simp (config:={maxSteps:=1000000}) (disch:=((try simp only [awL]);omega)) only [QR,QS,QT,QU,QV,QW,QX,QY,QZ,Q0,Q1,Q2,↓awU,awV,awF,Qa,Qb,Qc,Qd,forall_const,↓reduceIte,↓reduceDIte,↓Qe,Qf,Qg,Qh,Qi,Qj,Qk,Ql,Qm,Qn,Qo,Qp,Qq,Qr,Qs,implies_true,Qt,Qu,Qv,Qw,Qx,Qy,Qz,QA,QB,QC,QD,QE,QF,QG,QH,QI,QJ,QK,QL,QM,QN,QO,QP,QQ]
  try rfl
def cF (x y:RF):Int:=if x.ok && y.ok then cmpQ x.rat y.rat else 0
end Go.Proofs.YtkcghbpghjdgpaaGreatDoor.Num
namespace Go.Proofs.YtkcghbpghjdgpaaGreatDoor
open Go Go.Proofs Go.Abs
variable {G:Globals}
theorem dgit_dg {n:Nat} (h:n<10):Decs.dg (UInt8.ofNat (48+n))=true:=by
 have:∀ n:Fin 10,Decs.dg (UInt8.ofNat (48+n.val))=true:=by decide
 exact this ⟨n,h⟩
theorem dgs_dg (n:Nat):∀ z∈Num.dgs n,Decs.dg (UInt8.ofNat z.toNat)=true:=by
 induction n using Nat.strongRecOn with
 | _ n ih =>
  by_cases h:n=0
  ·subst h;rw [Num.dgs_zero];intro z hz;cases hz
  ·rw [Num.dgs_pos h]
   intro z hz
   rcases List.mem_cons.1 hz with rfl | hz
   ·rw [Int.toNat_natCast];exact dgit_dg (by omega)
   ·exact ih (n / 10) (by omega) z hz
theorem decS_dg (n:Nat):(∀ b∈Num.decS n,Decs.dg b=true)∧1≤(Num.decS n).length:=by
 unfold Num.decS
 split
 ·exact ⟨fun b hb=>by rw [List.mem_singleton.1 hb];decide,by simp⟩
 ·rename_i h
  refine ⟨fun b hb=>?_,?_⟩
  ·obtain ⟨z,hz,rfl⟩:=List.mem_map.1 hb
   exact dgs_dg n z (List.mem_reverse.1 hz)
  ·rw [List.length_map,List.length_reverse,Num.dgs_pos h];simp
theorem textB_sg {z:Int} (hz:Num.sz z≤256):Num.textB z=Decs.sg (if z<0 then some 45 else none) (Num.decS z.natAbs):=by
 unfold Num.textB
 rw [if_pos hz]
 split<;>rfl
theorem sgc (z:Int):(if z<0 then some (45:UInt8) else none)=none∨(if z<0 then some (45:UInt8) else none)=some 45∨(if z<0 then some (45:UInt8) else none)=some 43:=Decs.canSg none _
theorem pt_nil (F:List UInt8):Decs.pt F []=F:=by unfold Decs.pt;rw [if_pos rfl,List.append_nil]
theorem whole_two (n:Nat):Decs.Dig2 (Num.decS n) []:=⟨(decS_dg n).2,(decS_dg n).1,fun b hb=>by cases hb⟩
theorem slash_text {x:Rat} (h:(47:UInt8)∉Num.textF x):x.den=1∧Num.textF x=Num.textB x.num:=by
 unfold Num.textF at h ⊢
 by_cases e:x.den=1
 ·rw [if_pos e];exact ⟨e,rfl⟩
 ·rw [if_neg e] at h
  exact absurd (by simp) h
theorem rat_int {x:Rat} (h:x.den=1):x=Rat.divInt x.num 1:=by
 conv=>lhs;rw [← Rat.num_divInt_den x,h]
 rfl
theorem dec_no_slash {t:List UInt8} (h:Num.decOk t=true):(47:UInt8)∉t:=by
 obtain ⟨c,F,B,rfl,hd,hc⟩:=Decs.dec_of h
 have hp:(47:UInt8)∉Decs.pt F B:=by
  unfold Decs.pt
  intro hm
  rcases List.mem_append.1 hm with hm | hm
  ·exact (Decs.dg_ne (hd.fd _ hm)).2.2.2.2 rfl
  ·split at hm
   ·cases hm
   ·rcases List.mem_cons.1 hm with hm | hm
    ·revert hm;decide
    ·exact (Decs.dg_ne (hd.bd _ hm)).2.2.2.2 rfl
 rcases hc with rfl | rfl | rfl
 ·exact hp
 ·intro hm
  rcases List.mem_cons.1 hm with hm | hm
  ·revert hm;decide
  ·exact hp hm
 ·intro hm
  rcases List.mem_cons.1 hm with hm | hm
  ·revert hm;decide
  ·exact hp hm
theorem dv_whole (z:Int) (A B:List UInt8) (h:Num.decNum (A++B)=z.natAbs):Decs.dv (decide ((if z<0 then some (45:UInt8) else none)=some 45)) A B=Rat.divInt z ((10 ^ B.length:Nat):Int):=by
 unfold Decs.dv
 rw [h]
 congr 1
 by_cases e:z<0
 ·rw [if_pos e,if_pos (by simp)];omega
 ·rw [if_neg e,if_neg (by simp)];omega
theorem text_val {w:Rat} (hw:Num.FV w) (h:Num.decOk (Num.textF w)=true):Num.decVal (Num.textF w)=w:=by
 obtain ⟨hd,ht⟩:=slash_text (dec_no_slash h)
 rw [ht,textB_sg hw.1,← pt_nil (Num.decS w.num.natAbs),Decs.val_sg (whole_two _) (sgc _),dv_whole w.num _ _ (by rw [List.append_nil,Num.decS_num])]
 exact (rat_int hd).symm
theorem dotU_pt {p:List UInt8} (h:10≤p.length):dotU p=Decs.pt (p.take (p.length - 9)) (p.drop (p.length - 9)):=by
 have hl:(p.drop (p.length - 9)).length=9:=by rw [List.length_drop];omega
 unfold dotU Decs.pt
 rw [if_neg (by intro q;rw [q] at hl;simp at hl),List.append_assoc];rfl
theorem padU_facts (n:Nat):10≤(padU (Num.decS n)).length∧(∀ b∈padU (Num.decS n),Decs.dg b=true)∧Num.decNum (padU (Num.decS n))=n:=by
 unfold padU
 refine ⟨by rw [List.length_append,List.length_replicate];omega,fun b hb=>?_,?_⟩
 ·rcases List.mem_append.1 hb with hb | hb
  ·rw [List.eq_of_mem_replicate hb];decide
  ·exact (decS_dg n).1 b hb
 ·rw [Decs.num_app,Decs.num_zeros,Num.decS_num];omega
theorem unP_text {z:Int} (hz:Num.sz z≤256):unP (Num.textB z)=Num.decS z.natAbs∧Num.hasP (Num.textB z) [45]=decide (z<0):=by
 rw [textB_sg hz]
 have h:=whole_two z.natAbs
 obtain ⟨b,l,e,hb⟩:=Decs.pt_head h
 rw [pt_nil] at e
 unfold unP
 by_cases q:z<0
 ·rw [if_pos q,decide_eq_true q]
  show (if Num.hasP (45::Num.decS z.natAbs) [45]=true then _ else _)=_∧Num.hasP (45::Num.decS z.natAbs) [45]=true
  rw [Decs.hasP_eq]
  exact ⟨rfl,rfl⟩
 ·rw [if_neg q,decide_eq_false q]
  show (if Num.hasP (Num.decS z.natAbs) [45]=true then _ else _)=_∧Num.hasP (Num.decS z.natAbs) [45]=false
  rw [e,Decs.hasP_ne (Decs.dg_ne hb).2.1]
  exact ⟨rfl,rfl⟩
theorem outU_sg {z:Int} (hz:Num.sz z≤256):∃ F B,outU (Num.textB z)=Decs.sg (if z<0 then some 45 else none) (Decs.pt F B)∧Decs.Dig2 F B∧B.length=9∧Num.decNum (F++B)=z.natAbs:=by
 obtain ⟨h1,h2⟩:=unP_text hz
 obtain ⟨p1,p2,p3⟩:=padU_facts z.natAbs
 unfold outU
 rw [h1,h2,dotU_pt p1]
 generalize padU (Num.decS z.natAbs)=p at *
 refine ⟨p.take (p.length - 9),p.drop (p.length - 9),?_,⟨by rw [List.length_take];omega,fun b hb=>p2 b (List.mem_of_mem_take hb),fun b hb=>p2 b (List.mem_of_mem_drop hb)⟩,by rw [List.length_drop];omega,by rw [List.take_append_drop];exact p3⟩
 by_cases q:z<0
 ·rw [if_pos q,decide_eq_true q,if_pos rfl];rfl
 ·rw [if_neg q,decide_eq_false q,if_neg Bool.false_ne_true];rfl
theorem trimB_ends {l:List UInt8} (h1:∀ b,l.head? = some b→b≠32) (h2:∀ b,l.reverse.head? = some b→b≠32):Lib.trimB l 32=l:=by
 have r:Lib.trimRightB l 32=l:=by
  unfold Lib.trimRightB
  rcases e:l.reverse with _ | ⟨b,m⟩
  ·have:l=[]:=by rw [← List.reverse_reverse l,e];rfl
   rw [this];rfl
  ·have hb:=h2 b (by rw [e];rfl)
   rw [List.dropWhile_cons,if_neg (by simpa using hb),← e,List.reverse_reverse]
 unfold Lib.trimB
 rw [r]
 unfold Lib.trimLeftB
 rcases l with _ | ⟨b,m⟩
 ·rfl
 ·have hb:=h1 b rfl
  rw [List.dropWhile_cons,if_neg (by simpa using hb)]
theorem trimB_sg {F B:List UInt8} (h:Decs.Dig2 F B) (hB:B≠[]) {c:Option UInt8} (hc:c=none∨c=some 45∨c=some 43):Lib.trimB (Decs.sg c (Decs.pt F B)) 32=Decs.sg c (Decs.pt F B):=by
 obtain ⟨b,l,e,hb⟩:=Decs.pt_head h
 have hlast:∀ x,(Decs.pt F B).reverse.head? = some x→x≠32:=by
  intro x hx
  unfold Decs.pt at hx
  rw [if_neg hB,List.reverse_append,List.reverse_cons] at hx
  rcases e:B.reverse with _ | ⟨y,m⟩
  ·exact absurd (by rw [← List.reverse_reverse B,e];rfl) hB
  ·rw [e] at hx
   simp at hx
   subst hx
   exact (Decs.dg_ne (h.bd y (by rw [← List.mem_reverse,e];exact List.mem_cons_self ..))).2.2.2.1
 have hne:(Decs.pt F B).reverse≠[]:=by rw [e];simp
 refine trimB_ends (fun x hx=>?_) (fun x hx=>?_)
 ·rcases hc with rfl | rfl | rfl
  ·unfold Decs.sg at hx
   rw [e] at hx
   simp at hx;subst hx
   exact (Decs.dg_ne hb).2.2.2.1
  ·simp [Decs.sg] at hx;subst hx;decide
  ·simp [Decs.sg] at hx;subst hx;decide
 ·have key:∀ a:UInt8,(a::Decs.pt F B).reverse.head? = some x→x≠32:=fun a ha=>by
   rw [List.reverse_cons] at ha
   rcases e2:(Decs.pt F B).reverse with _ | ⟨y,m⟩
   ·exact absurd e2 hne
   ·rw [e2] at ha
    exact hlast x (by rw [e2];simpa using ha)
  rcases hc with rfl | rfl | rfl
  ·exact hlast x hx
  ·exact key 45 hx
  ·exact key 43 hx
theorem scaleQ_ne:scaleQ≠0:=by decide +kernel
theorem scale_back {x:Rat} {z:Int} (h:x*scaleQ=Rat.divInt z 1):x=Rat.divInt z ((10 ^ 9:Nat):Int):=by
 have e:Rat.divInt z ((10 ^ 9:Nat):Int)*scaleQ=Rat.divInt z 1:=by
  unfold scaleQ
  rw [Rat.divInt_mul_divInt]
  have:=Rat.divInt_mul_right (n:=z) (d:=1) (a:=1000000000) (by decide)
  rw [Int.one_mul] at this
  exact this
 rw [← e] at h
 have:=congrArg (·*scaleQ⁻¹) h
 simp only [Rat.mul_assoc,Rat.mul_inv_cancel _ scaleQ_ne,Rat.mul_one] at this
 exact this
theorem decU_val {x:Rat} (hx:Num.FV (x*scaleQ)) (h:(decU x).2=true):Num.decOk (decU x).1=true∧Num.decVal (decU x).1=x:=by
 unfold decU at h ⊢
 by_cases hs:(47:UInt8)∈dcT x
 ·rw [if_pos hs] at h;cases h
 ·rw [if_neg hs] at h ⊢
  unfold dcT at hs h ⊢
  obtain ⟨hd,ht⟩:=slash_text hs
  rw [ht] at h ⊢
  obtain ⟨F,B,e1,e2,e3,e4⟩:=outU_sg hx.1
  have hB:B≠[]:=by rintro rfl;simp at e3
  rw [e1] at h ⊢
  unfold canT at h ⊢
  rw [trimB_sg e2 hB (sgc _)] at h ⊢
  simp only at h
  rw [if_pos h]
  refine ⟨Decs.canD_ok h,?_⟩
  rw [Decs.canD_val h,Decs.val_sg e2 (sgc _),dv_whole _ _ _ e4,e3]
  exact (scale_back (rat_int hd)).symm
end Go.Proofs.YtkcghbpghjdgpaaGreatDoor
namespace Go.Proofs.YtkcghbpghjdgpaaGreatDoor
open Go Go.Proofs Go.Abs
variable {G:Globals}
set_option maxRecDepth 100000 in
theorem num_all:∀ a:Fin 5,∀ b:Fin 40,∀ e:Fin 6,(Num.decOk (signL.getD a.val []++itoaL b.val) && (Num.decOk (if notDig ((signL.getD a.val []++itoaL b.val).getD 0 0)=true then signL.getD a.val []++itoaL b.val else 48::(signL.getD a.val []++itoaL b.val)) &&
  (Num.decOk ((signL.getD a.val []++itoaL b.val)++(46::fracsL.getD e.val [])) && Num.decOk ((if notDig ((signL.getD a.val []++itoaL b.val).getD 0 0)=true then signL.getD a.val []++itoaL b.val else 48::(signL.getD a.val []++itoaL b.val))++(46::fracsL.getD e.val [])))))=true:=by decide +kernel
theorem numM_dec (t:List Int) (k:Nat):Num.decOk (numM t k)=true:=by
 have h1:=@pk_range t k 5 (by decide)
 have h2:=@pk_range t (k+1) 40 (by decide)
 have h3:=@pk_range t (k+4) 6 (by decide)
 have:=num_all ⟨(pk t k 5).toNat,by omega⟩ ⟨(pk t (k+1) 40).toNat,by omega⟩ ⟨(pk t (k+4) 6).toNat,by omega⟩
 simp only [Bool.and_eq_true] at this
 obtain ⟨q1,q2,q3,q4⟩:=this
 unfold numM num2 num1
 by_cases c1:pk t (k+3) 3=0
 ·rw [if_pos c1]
  by_cases c2:pk t (k+2) 3=0
  ·rw [if_pos c2];exact q4
  ·rw [if_neg c2];exact q3
 ·rw [if_neg c1]
  by_cases c2:pk t (k+2) 3=0
  ·rw [if_pos c2];exact q2
  ·rw [if_neg c2];exact q1
theorem unsD_unf {l:List Un}:(unsD l).map unf0=unsD l:=by
 induction l with
 | nil=>rfl
 | cons x l ih =>
  have e:unsD (x::l)=S x.1::S x.2.1::.int .i64 x.2.2.1::.int .i64 x.2.2.2::unsD l:=rfl
  rw [e,List.map_cons,List.map_cons,List.map_cons,List.map_cons,ih];rfl
theorem cloneUn_spec (l:List Un) (full:Bool) (hl:l.length<2 ^ 40):Ctr Tryz.prog G 45 [.d (.sl l.length full (unsD l))] [] (.d (.sl l.length false (unsD l))) []:=by
 refine Ctr.of_body Tryz.func45 rfl go45 rfl ?_
 have sl:=unsD_length l
 refine Tri.seq (Tri.of_awp (M:=M0) hmix _ _ _ _ ?_)
 simp (config:={maxSteps:=1000000}) (disch:=((try simp only [awL]);omega)) only [QR,QS,QT,QU,QV,QW,QX,QY,QZ,Q0,Q1,Q2,aseq_normal,Tryz.f45,↓awU,awV,awF,Qa,Qb,Qc,Qd,forall_const,↓reduceIte,↓reduceDIte,↓Qe,Qf,Qg,Qh,Qi,Qj,Qk,Ql,Qm,Qn,Qo,Qp,Qq,Qr,Qs,implies_true,Qt,Qu,Qv,Qw,Qx,Qy,Qz,QA,QB,QC,QD,QE,QF,QG,QH,QI,QJ,QK,QL,QM,QN,QO,QP,QQ]
 refine Tri.seq (Tri.seq (Tri.nilRegion (e:=51) (by kernel_rfl) rfl ?_ ?_))
 ·simp
 intro b hb
 simp only [aseq_normal]
 refine Tri.of_awp (M:=M0) hmix _ _ _ _ ?_
 cases b
 ·simp (config:={maxSteps:=1000000}) (disch:=((try simp only [awL]);omega)) only [QR,QS,QT,QU,QV,QW,QX,QY,QZ,Q0,Q1,Q2,aseq_normal,Tryz.f45,aseq_ret,↓awU,awV,awF,Qa,Qb,Qc,Qd,forall_const,↓reduceIte,↓reduceDIte,↓Qe,Qf,Qg,Qh,Qi,Qj,Qk,Ql,Qm,Qn,Qo,Qp,Qq,Qr,Qs,implies_true,Qt,Qu,Qv,Qw,Qx,Qy,Qz,QA,QB,QC,QD,QE,QF,QG,QH,QI,QJ,QK,QL,QM,QN,QO,QP,QQ]
  refine Tri.of_awp (M:=M0) hmix _ _ _ _ ?_
  simp (config:={maxSteps:=1000000}) (disch:=((try simp only [awL]);omega)) only [QR,QS,QT,QU,QV,QW,QX,QY,QZ,Q0,Q1,Q2,sl,aseq_normal,Tryz.f45,aseq_ret,↓awU,awV,awF,Qa,Qb,Qc,Qd,forall_const,↓reduceIte,↓reduceDIte,↓Qe,Qf,Qg,Qh,Qi,Qj,Qk,Ql,Qm,Qn,Qo,Qp,Qq,Qr,Qs,implies_true,Qt,Qu,Qv,Qw,Qx,Qy,Qz,QA,QB,QC,QD,QE,QF,QG,QH,QI,QJ,QK,QL,QM,QN,QO,QP,QQ]
  have cu:cut (unsD l) 0 (l.length*4)=unsD l:=cutA _ _ (by omega)
  refine ⟨[],rfl,List.nodup_nil,trivial,.inr ⟨.sl l.length false (unsD l),?_,?_,rfl⟩⟩
  ·simp [sealA,cu]
  ·simp only [unf_sl,unsD_unf]
 ·simp (config:={maxSteps:=1000000}) (disch:=((try simp only [awL]);omega)) only [QR,QS,QT,QU,QV,QW,QX,QY,QZ,Q0,Q1,Q2,aseq_normal,Tryz.f45,aseq_ret,↓awU,awV,awF,Qa,Qb,Qc,Qd,forall_const,↓reduceIte,↓reduceDIte,↓Qe,Qf,Qg,Qh,Qi,Qj,Qk,Ql,Qm,Qn,Qo,Qp,Qq,Qr,Qs,implies_true,Qt,Qu,Qv,Qw,Qx,Qy,Qz,QA,QB,QC,QD,QE,QF,QG,QH,QI,QJ,QK,QL,QM,QN,QO,QP,QQ]
  have h0:l=[]:=List.length_eq_zero_iff.1 (hb rfl)
  subst h0
  exact ⟨[],rfl,List.nodup_nil,trivial,.inr ⟨.sl 0 true [],rfl,rfl,rfl⟩⟩
theorem units_spec (hU:HU G):Ctr Tryz.prog G 16 [] [] (.d (.sl 12 false (unsD uL))) []:=by
 refine Ctr.pure (M:=M0) hmix Tryz.func16 rfl go16 ?_
 have hU':G 1=some [.sl 12 false (unsD uL)]:=hU
 simp (config:={maxSteps:=1000000}) (disch:=((try simp only [awL]);omega)) only [QR,QS,QT,QU,QV,QW,QX,QY,QZ,Q0,Q1,Q2,hU',uL_one,uL_unf,Tryz.f16,↓awU,awV,awF,Qa,Qb,Qc,Qd,forall_const,↓reduceIte,↓reduceDIte,↓Qe,Qf,Qg,Qh,Qi,Qj,Qk,Ql,Qm,Qn,Qo,Qp,Qq,Qr,Qs,implies_true,Qt,Qu,Qv,Qw,Qx,Qy,Qz,QA,QB,QC,QD,QE,QF,QG,QH,QI,QJ,QK,QL,QM,QN,QO,QP,QQ]
 refine CallC.of (cloneUn_spec uL false (by decide)) (by rfl) ?_
 simp (config:={maxSteps:=1000000}) (disch:=((try simp only [awL]);omega)) only [QR,QS,QT,QU,QV,QW,QX,QY,QZ,Q0,Q1,Q2,↓awU,awV,awF,Qa,Qb,Qc,Qd,forall_const,↓reduceIte,↓reduceDIte,↓Qe,Qf,Qg,Qh,Qi,Qj,Qk,Ql,Qm,Qn,Qo,Qp,Qq,Qr,Qs,implies_true,Qt,Qu,Qv,Qw,Qx,Qy,Qz,QA,QB,QC,QD,QE,QF,QG,QH,QI,QJ,QK,QL,QM,QN,QO,QP,QQ]
 first | done | rfl
theorem rmulW_spec {x y:Rat} (h1:Num.FV x) (h2:Num.FV y) (h3:Num.FV (x*y)):Ctr Tryz.prog G 30 [.d (Num.Frac x),.d (Num.Frac y)] [] (.d (.tup [Num.Frac (x*y),.int .i64 0])) []:=by
 have:=Num.rmulF_spec (G:=G) x y h1 h2
 unfold Num.Res at this
 rw [if_pos h3,if_pos h3] at this
 exact this
theorem rofN_spec (a b:Int) (h1:-9223372036854775808≤a) (h2:a≤9223372036854775807) (h3:-9223372036854775808≤b) (h4:b≤9223372036854775807) (h:b≠0):Ctr Tryz.prog G 29 [.d (.int .i64 a),.d (.int .i64 b)] [] (.d (.tup [Num.Frac (Rat.divInt a b),.int .i64 0])) []:=by
 have:=Num.rof_spec (G:=G) a b h1 h2 h3 h4
 rw [if_neg h,if_neg h] at this
 exact this
theorem fw_un {u:Un} (h:u∈uL):Num.Fw 2 (Rat.divInt u.2.2.1 u.2.2.2)∧Num.Fw 2 (Rat.divInt u.2.2.2 u.2.2.1):=by
 obtain ⟨h1,h2,h3,h4⟩:=uL_ok u h
 exact ⟨Num.Fw_divInt (k:=2) (by omega) (Num.sz_int (by omega) (by omega)) (Num.sz_int (by omega) (by omega)),Num.Fw_divInt (k:=2) (by omega) (Num.sz_int (by omega) (by omega)) (Num.sz_int (by omega) (by omega))⟩
theorem back_forth {u:Un} (h:u∈uL) (x:Rat):x*Rat.divInt u.2.2.2 u.2.2.1*Rat.divInt u.2.2.1 u.2.2.2=x:=by
 obtain ⟨h1,h2,h3,h4⟩:=uL_ok u h
 rw [Rat.mul_assoc,Rat.divInt_mul_divInt,Int.mul_comm u.2.2.1 u.2.2.2]
 have e:=Rat.divInt_self' (n:=u.2.2.2*u.2.2.1) (Int.mul_ne_zero (by omega) (by omega))
 rw [e,Rat.mul_one]
theorem cmpQ_self (x:Rat):Num.cmpQ x x=0:=by
 unfold Num.cmpQ
 simp [Num.cmpI]
abbrev FB (x:Rat):ABlk:=.box [.d (.bool (decide (x.num<0))),.d (Num.W (Num.toW x.num.natAbs)),.d (.bool false),.d (Num.W (Num.toW x.den))]
set_option maxHeartbeats 32000000 in
set_option maxRecDepth 100000 in
theorem uvalues_law (hG:Num.HG G) (hU:HU G) (hB:HB G) (t:List Int) (ht:OkS t) (hl:t.length≤9223372036854775807) :
  Ctr Tryz.prog G 6 [.d (.sl t.length false (ints .u8 t))] [] (.d (.bool true)) []:=by
 refine Ctr.pure (M:=M0) hmix Tryz.func6 rfl go6 ?_
 have hmm:=ht.take
 simp (config:={maxSteps:=1000000}) (disch:=((try simp only [awL]);omega)) only [QR,QS,QT,QU,QV,QW,QX,QY,QZ,Q0,Q1,Q2,Tryz.f6,↓awU,awV,awF,Qa,Qb,Qc,Qd,forall_const,↓reduceIte,↓reduceDIte,↓Qe,Qf,Qg,Qh,Qi,Qj,Qk,Ql,Qm,Qn,Qo,Qp,Qq,Qr,Qs,implies_true,Qt,Qu,Qv,Qw,Qx,Qy,Qz,QA,QB,QC,QD,QE,QF,QG,QH,QI,QJ,QK,QL,QM,QN,QO,QP,QQ]
 refine CallC.pure (usane_spec hG hU hB) ?_
 simp (config:={maxSteps:=1000000}) (disch:=((try simp only [awL]);omega)) only [QR,QS,QT,QU,QV,QW,QX,QY,QZ,Q0,Q1,Q2,↓awU,awV,awF,Qa,Qb,Qc,Qd,forall_const,↓reduceIte,↓reduceDIte,↓Qe,Qf,Qg,Qh,Qi,Qj,Qk,Ql,Qm,Qn,Qo,Qp,Qq,Qr,Qs,implies_true,Qt,Qu,Qv,Qw,Qx,Qy,Qz,QA,QB,QC,QD,QE,QF,QG,QH,QI,QJ,QK,QL,QM,QN,QO,QP,QQ]
 refine CallC.by (new_spec t hl) (by rfl) (by rfl) (Nat.zero_le _) ?_
 generalize t.take 300=t0 at *
 simp (config:={maxSteps:=1000000}) (disch:=((try simp only [awL]);omega)) only [QR,QS,QT,QU,QV,QW,QX,QY,QZ,Q0,Q1,Q2,↓awU,awV,awF,Qa,Qb,Qc,Qd,forall_const,↓reduceIte,↓reduceDIte,↓Qe,Qf,Qg,Qh,Qi,Qj,Qk,Ql,Qm,Qn,Qo,Qp,Qq,Qr,Qs,implies_true,Qt,Qu,Qv,Qw,Qx,Qy,Qz,QA,QB,QC,QD,QE,QF,QG,QH,QI,QJ,QK,QL,QM,QN,QO,QP,QQ]
 refine CallC.by (number_spec t0 0 hmm) (by rfl) (by rfl) (Nat.le_refl _) ?_
 have nd:=numM_dec t0 0
 have nl:=(numM_len t0 0).2
 generalize numK t0 0=k2 at *
 generalize numM t0 0=n at *
 have rd:=Num.rdecimal_spec (G:=G) n (by omega)
 have ffw:=decVal_fw nd
 rw [nd,if_pos rfl] at rd
 have hcu:∀ u∈uL,convU n u=decU (Num.decVal n*Rat.divInt u.2.2.1 u.2.2.2):=fun u hu=>by unfold convU;rw [if_pos ⟨nd,hu⟩]
 generalize Num.decVal n=f at *
 simp (config:={maxSteps:=1000000}) (disch:=((try simp only [awL]);omega)) only [QR,QS,QT,QU,QV,QW,QX,QY,QZ,Q0,Q1,Q2,↓awU,awV,awF,Qa,Qb,Qc,Qd,forall_const,↓reduceIte,↓reduceDIte,↓Qe,Qf,Qg,Qh,Qi,Qj,Qk,Ql,Qm,Qn,Qo,Qp,Qq,Qr,Qs,implies_true,Qt,Qu,Qv,Qw,Qx,Qy,Qz,QA,QB,QC,QD,QE,QF,QG,QH,QI,QJ,QK,QL,QM,QN,QO,QP,QQ]
 refine CallC.of rd (by rfl) ?_
 simp (config:={maxSteps:=1000000}) (disch:=((try simp only [awL]);omega)) only [QR,QS,QT,QU,QV,QW,QX,QY,QZ,Q0,Q1,Q2,↓awU,awV,awF,Qa,Qb,Qc,Qd,forall_const,↓reduceIte,↓reduceDIte,↓Qe,Qf,Qg,Qh,Qi,Qj,Qk,Ql,Qm,Qn,Qo,Qp,Qq,Qr,Qs,implies_true,Qt,Qu,Qv,Qw,Qx,Qy,Qz,QA,QB,QC,QD,QE,QF,QG,QH,QI,QJ,QK,QL,QM,QN,QO,QP,QQ]
 refine CallC.of (units_spec hU) (by rfl) ?_
 simp (config:={maxSteps:=1000000}) (disch:=((try simp only [awL]);omega)) only [QR,QS,QT,QU,QV,QW,QX,QY,QZ,Q0,Q1,Q2,↓awU,awV,awF,Qa,Qb,Qc,Qd,forall_const,↓reduceIte,↓reduceDIte,↓Qe,Qf,Qg,Qh,Qi,Qj,Qk,Ql,Qm,Qn,Qo,Qp,Qq,Qr,Qs,implies_true,Qt,Qu,Qv,Qw,Qx,Qy,Qz,QA,QB,QC,QD,QE,QF,QG,QH,QI,QJ,QK,QL,QM,QN,QO,QP,QQ]
 refine LoopC.fr 3298534883376 (α:=Nat) (fun i=>12 - i) (fun i=>[(42,.d (.int .i64 (i:Nat)))])
  (fun _=>[.dead,FB f]) (fun i=>i≤12) 0 (Nat.zero_le _) ?_ ?_
 ·exact ⟨[some 0,some 1],rfl,by simp,by simp [setsA,keepA,SWeak,AWeak],by simp [HWeak,BWeak,SWeak,AWeak]⟩
 ·intro i hi
  simp only [awK,Nat.reduceMod,Nat.reduceDiv,reduceIte]
  rcases Nat.lt_or_ge i 12 with h | h
  ·have gu:=unsD_get (l:=uL) (k:=i) h
   have um:=memD (l:=uL) (d:=noUn) (show i<uL.length from h)
   have hcu:=hcu _ um
   have fwu:=(fw_un um).1
   have uok:=uL_ok _ um
   generalize uL.getD i noUn=u at *
   have cs:=convert_spec hG hU n (by omega) u
   rw [hcu] at cs
   obtain ⟨un,ub,up,uq⟩:=u
   simp only at uok fwu cs
   have gu:((unsD uL).drop (i*4)).take 4=[S un,S ub,.int .i64 up,.int .i64 uq]:=gu
   have xf:=Num.Fw_mul ffw fwu
   have xs:=Num.Fw_mul xf scale_fw
   generalize hby:Rat.divInt up uq=by_ at *
   have dv:=@decU_val (f*by_) (xs.fv (by decide))
   simp (config:={maxSteps:=1000000}) (disch:=((try simp only [awL]);omega)) only [QR,QS,QT,QU,QV,QW,QX,QY,QZ,Q0,Q1,Q2,gu,uL_unf,↓awU,awV,awF,Qa,Qb,Qc,Qd,forall_const,↓reduceIte,↓reduceDIte,↓Qe,Qf,Qg,Qh,Qi,Qj,Qk,Ql,Qm,Qn,Qo,Qp,Qq,Qr,Qs,implies_true,Qt,Qu,Qv,Qw,Qx,Qy,Qz,QA,QB,QC,QD,QE,QF,QG,QH,QI,QJ,QK,QL,QM,QN,QO,QP,QQ]
   refine CallC.of cs (by rfl) ?_
   generalize hX:f*by_=X at *
   generalize hDU:decU X=dU at *
   obtain ⟨xt,is⟩:=dU
   simp only at dv
   cases is
   ·simp (config:={maxSteps:=1000000}) (disch:=((try simp only [awL]);omega)) only [QR,QS,QT,QU,QV,QW,QX,QY,QZ,Q0,Q1,Q2,↓awU,awV,awF,Qa,Qb,Qc,Qd,forall_const,↓reduceIte,↓reduceDIte,↓Qe,Qf,Qg,Qh,Qi,Qj,Qk,Ql,Qm,Qn,Qo,Qp,Qq,Qr,Qs,implies_true,Qt,Qu,Qv,Qw,Qx,Qy,Qz,QA,QB,QC,QD,QE,QF,QG,QH,QI,QJ,QK,QL,QM,QN,QO,QP,QQ]
    exact ⟨i+1,h,by simp only;omega,⟨[some 0,some 1],rfl,by simp,by simp [setsA,keepA,SWeak,AWeak],by simp [HWeak,BWeak,SWeak,AWeak]⟩⟩
   ·obtain ⟨ok,va⟩:=dv rfl
    have xl:=decOk_len ok
    have rd2:=Num.rdecimal_spec (G:=G) xt (by omega)
    rw [ok,if_pos rfl,va] at rd2
    simp (config:={maxSteps:=1000000}) (disch:=((try simp only [awL]);omega)) only [QR,QS,QT,QU,QV,QW,QX,QY,QZ,Q0,Q1,Q2,↓awU,awV,awF,Qa,Qb,Qc,Qd,forall_const,↓reduceIte,↓reduceDIte,↓Qe,Qf,Qg,Qh,Qi,Qj,Qk,Ql,Qm,Qn,Qo,Qp,Qq,Qr,Qs,implies_true,Qt,Qu,Qv,Qw,Qx,Qy,Qz,QA,QB,QC,QD,QE,QF,QG,QH,QI,QJ,QK,QL,QM,QN,QO,QP,QQ]
    refine CallC.of rd2 (by rfl) ?_
    simp (config:={maxSteps:=1000000}) (disch:=((try simp only [awL]);omega)) only [QR,QS,QT,QU,QV,QW,QX,QY,QZ,Q0,Q1,Q2,↓awU,awV,awF,Qa,Qb,Qc,Qd,forall_const,↓reduceIte,↓reduceDIte,↓Qe,Qf,Qg,Qh,Qi,Qj,Qk,Ql,Qm,Qn,Qo,Qp,Qq,Qr,Qs,implies_true,Qt,Qu,Qv,Qw,Qx,Qy,Qz,QA,QB,QC,QD,QE,QF,QG,QH,QI,QJ,QK,QL,QM,QN,QO,QP,QQ]
    refine CallC.of (rofN_spec up uq (by omega) (by omega) (by omega) (by omega) (by omega)) (by rfl) ?_
    rw [hby]
    simp (config:={maxSteps:=1000000}) (disch:=((try simp only [awL]);omega)) only [QR,QS,QT,QU,QV,QW,QX,QY,QZ,Q0,Q1,Q2,↓awU,awV,awF,Qa,Qb,Qc,Qd,forall_const,↓reduceIte,↓reduceDIte,↓Qe,Qf,Qg,Qh,Qi,Qj,Qk,Ql,Qm,Qn,Qo,Qp,Qq,Qr,Qs,implies_true,Qt,Qu,Qv,Qw,Qx,Qy,Qz,QA,QB,QC,QD,QE,QF,QG,QH,QI,QJ,QK,QL,QM,QN,QO,QP,QQ]
    refine CallC.of (rmulW_spec (ffw.fv (by decide)) (fwu.fv (by decide)) (by rw [hX];exact xf.fv (by decide))) (by rfl) ?_
    rw [hX]
    simp (config:={maxSteps:=1000000}) (disch:=((try simp only [awL]);omega)) only [QR,QS,QT,QU,QV,QW,QX,QY,QZ,Q0,Q1,Q2,↓awU,awV,awF,Qa,Qb,Qc,Qd,forall_const,↓reduceIte,↓reduceDIte,↓Qe,Qf,Qg,Qh,Qi,Qj,Qk,Ql,Qm,Qn,Qo,Qp,Qq,Qr,Qs,implies_true,Qt,Qu,Qv,Qw,Qx,Qy,Qz,QA,QB,QC,QD,QE,QF,QG,QH,QI,QJ,QK,QL,QM,QN,QO,QP,QQ]
    refine CallC.of (Num.rcmpF_spec X X (xf.fv (by decide)) (xf.fv (by decide))) (by rfl) ?_
    rw [cmpQ_self]
    simp (config:={maxSteps:=1000000}) (disch:=((try simp only [awL]);omega)) only [QR,QS,QT,QU,QV,QW,QX,QY,QZ,Q0,Q1,Q2,↓awU,awV,awF,Qa,Qb,Qc,Qd,forall_const,↓reduceIte,↓reduceDIte,↓Qe,Qf,Qg,Qh,Qi,Qj,Qk,Ql,Qm,Qn,Qo,Qp,Qq,Qr,Qs,implies_true,Qt,Qu,Qv,Qw,Qx,Qy,Qz,QA,QB,QC,QD,QE,QF,QG,QH,QI,QJ,QK,QL,QM,QN,QO,QP,QQ]
    refine CallC.of (units_spec hU) (by rfl) ?_
    simp (config:={maxSteps:=1000000}) (disch:=((try simp only [awL]);omega)) only [QR,QS,QT,QU,QV,QW,QX,QY,QZ,Q0,Q1,Q2,↓awU,awV,awF,Qa,Qb,Qc,Qd,forall_const,↓reduceIte,↓reduceDIte,↓Qe,Qf,Qg,Qh,Qi,Qj,Qk,Ql,Qm,Qn,Qo,Qp,Qq,Qr,Qs,implies_true,Qt,Qu,Qv,Qw,Qx,Qy,Qz,QA,QB,QC,QD,QE,QF,QG,QH,QI,QJ,QK,QL,QM,QN,QO,QP,QQ]
    refine LoopC.fr 1856910058928078108930114352 (α:=Nat) (fun j=>12 - j) (fun j=>[(91,.d (.int .i64 (j:Nat)))])
     (fun _=>[.dead,FB f,.box [.d (S un),.d (S ub),.d (.int .i64 up),.d (.int .i64 uq)],.dead,.dead,FB X]) (fun j=>j≤12) 0 (Nat.zero_le _) ?_ ?_
    ·exact ⟨[some 0,some 1,some 2,some 3,some 4,some 5],rfl,by simp,by simp [setsA,keepA,SWeak,AWeak],by simp [HWeak,BWeak,SWeak,AWeak]⟩
    ·intro j hj
     simp only [awK,Nat.reduceMod,Nat.reduceDiv,reduceIte]
     rcases Nat.lt_or_ge j 12 with h3 | h3
     ·have gv:=unsD_get (l:=uL) (k:=j) h3
      have vm:=memD (l:=uL) (d:=noUn) (show j<uL.length from h3)
      have fwv:=fw_un vm
      have vok:=uL_ok _ vm
      have bf:=back_forth vm X
      generalize uL.getD j noUn=v at *
      obtain ⟨vn,vb,vp,vq⟩:=v
      simp only at vok fwv bf
      have gv:((unsD uL).drop (j*4)).take 4=[S vn,S vb,.int .i64 vp,.int .i64 vq]:=gv
      by_cases eb:vb=ub
      ·have eb':(vb=ub)=True:=eq_true eb
       have wf:=Num.Fw_mul xf fwv.2
       have xf0:=xf.fv (by decide)
       have mu:=rmulW_spec (G:=G) xf0 (fwv.2.fv (by decide)) (wf.fv (by decide))
       have of2:=rofN_spec (G:=G) vq vp (by omega) (by omega) (by omega) (by omega) (by omega)
       generalize hbk:Rat.divInt vq vp=bk at *
       have wfv:=wf.fv (k:=24+2+2) (by decide)
       have tl:=textF_len (X*bk)
       have tv:=@text_val (X*bk) wfv
       have tx:=Num.rtext_spec (G:=G) (X*bk) wfv
       have cv:Num.decOk (Num.textF (X*bk))=true→convU (Num.textF (X*bk)) (vn,vb,vp,vq)=(xt,true):=fun q=>by
        unfold convU
        rw [if_pos ⟨q,vm⟩,tv q]
        simp only
        rw [bf,hDU]
       have cn:Num.decOk (Num.textF (X*bk))=false→convU (Num.textF (X*bk)) (vn,vb,vp,vq)=([],false):=fun q=>by
        unfold convU
        rw [if_neg (fun z=>by rw [q] at z;exact Bool.false_ne_true z.1)]
       have rd3:=Num.rdecimal_spec (G:=G) (Num.textF (X*bk)) (by omega)
       have cs2:=convert_spec hG hU (Num.textF (X*bk)) (by omega) (vn,vb,vp,vq)
       have cc:=Num.rcmpF_spec (G:=G) (X*bk) (X*bk) wfv wfv
       rw [cmpQ_self] at cc
       generalize Num.textF (X*bk)=tw at *
       generalize X*bk=w at *
       simp (config:={maxSteps:=1000000}) (disch:=((try simp only [awL]);omega)) only [QR,QS,QT,QU,QV,QW,QX,QY,QZ,Q0,Q1,Q2,gv,uL_unf,eb',↓awU,awV,awF,Qa,Qb,Qc,Qd,forall_const,↓reduceIte,↓reduceDIte,↓Qe,Qf,Qg,Qh,Qi,Qj,Qk,Ql,Qm,Qn,Qo,Qp,Qq,Qr,Qs,implies_true,Qt,Qu,Qv,Qw,Qx,Qy,Qz,QA,QB,QC,QD,QE,QF,QG,QH,QI,QJ,QK,QL,QM,QN,QO,QP,QQ]
       refine CallC.of of2 (by rfl) ?_
       simp (config:={maxSteps:=1000000}) (disch:=((try simp only [awL]);omega)) only [QR,QS,QT,QU,QV,QW,QX,QY,QZ,Q0,Q1,Q2,↓awU,awV,awF,Qa,Qb,Qc,Qd,forall_const,↓reduceIte,↓reduceDIte,↓Qe,Qf,Qg,Qh,Qi,Qj,Qk,Ql,Qm,Qn,Qo,Qp,Qq,Qr,Qs,implies_true,Qt,Qu,Qv,Qw,Qx,Qy,Qz,QA,QB,QC,QD,QE,QF,QG,QH,QI,QJ,QK,QL,QM,QN,QO,QP,QQ]
       refine CallC.of mu (by rfl) ?_
       simp (config:={maxSteps:=1000000}) (disch:=((try simp only [awL]);omega)) only [QR,QS,QT,QU,QV,QW,QX,QY,QZ,Q0,Q1,Q2,↓awU,awV,awF,Qa,Qb,Qc,Qd,forall_const,↓reduceIte,↓reduceDIte,↓Qe,Qf,Qg,Qh,Qi,Qj,Qk,Ql,Qm,Qn,Qo,Qp,Qq,Qr,Qs,implies_true,Qt,Qu,Qv,Qw,Qx,Qy,Qz,QA,QB,QC,QD,QE,QF,QG,QH,QI,QJ,QK,QL,QM,QN,QO,QP,QQ]
       refine CallC.of tx (by rfl) ?_
       simp (config:={maxSteps:=1000000}) (disch:=((try simp only [awL]);omega)) only [QR,QS,QT,QU,QV,QW,QX,QY,QZ,Q0,Q1,Q2,↓awU,awV,awF,Qa,Qb,Qc,Qd,forall_const,↓reduceIte,↓reduceDIte,↓Qe,Qf,Qg,Qh,Qi,Qj,Qk,Ql,Qm,Qn,Qo,Qp,Qq,Qr,Qs,implies_true,Qt,Qu,Qv,Qw,Qx,Qy,Qz,QA,QB,QC,QD,QE,QF,QG,QH,QI,QJ,QK,QL,QM,QN,QO,QP,QQ]
       refine CallC.of rd3 (by rfl) ?_
       cases q:Num.decOk tw
       ·rw [cn q] at cs2
        rw [if_neg Bool.false_ne_true]
        simp (config:={maxSteps:=1000000}) (disch:=((try simp only [awL]);omega)) only [QR,QS,QT,QU,QV,QW,QX,QY,QZ,Q0,Q1,Q2,↓awU,awV,awF,Qa,Qb,Qc,Qd,forall_const,↓reduceIte,↓reduceDIte,↓Qe,Qf,Qg,Qh,Qi,Qj,Qk,Ql,Qm,Qn,Qo,Qp,Qq,Qr,Qs,implies_true,Qt,Qu,Qv,Qw,Qx,Qy,Qz,QA,QB,QC,QD,QE,QF,QG,QH,QI,QJ,QK,QL,QM,QN,QO,QP,QQ]
        refine CallC.of tx (by rfl) ?_
        simp (config:={maxSteps:=1000000}) (disch:=((try simp only [awL]);omega)) only [QR,QS,QT,QU,QV,QW,QX,QY,QZ,Q0,Q1,Q2,↓awU,awV,awF,Qa,Qb,Qc,Qd,forall_const,↓reduceIte,↓reduceDIte,↓Qe,Qf,Qg,Qh,Qi,Qj,Qk,Ql,Qm,Qn,Qo,Qp,Qq,Qr,Qs,implies_true,Qt,Qu,Qv,Qw,Qx,Qy,Qz,QA,QB,QC,QD,QE,QF,QG,QH,QI,QJ,QK,QL,QM,QN,QO,QP,QQ]
        refine CallC.of cs2 (by rfl) ?_
        simp (config:={maxSteps:=1000000}) (disch:=((try simp only [awL]);omega)) only [QR,QS,QT,QU,QV,QW,QX,QY,QZ,Q0,Q1,Q2,↓awU,awV,awF,Qa,Qb,Qc,Qd,forall_const,↓reduceIte,↓reduceDIte,↓Qe,Qf,Qg,Qh,Qi,Qj,Qk,Ql,Qm,Qn,Qo,Qp,Qq,Qr,Qs,implies_true,Qt,Qu,Qv,Qw,Qx,Qy,Qz,QA,QB,QC,QD,QE,QF,QG,QH,QI,QJ,QK,QL,QM,QN,QO,QP,QQ]
        first
        | exact ⟨j+1,h3,by simp only;omega,⟨[some 0,some 1,some 2,some 3,some 4,some 5],rfl,by simp,by simp [setsA,keepA,SWeak,AWeak],by simp [HWeak,BWeak,SWeak,AWeak]⟩⟩
        | exact ⟨by rfl,j+1,h3,by simp only;omega,⟨[some 0,some 1,some 2,some 3,some 4,some 5],rfl,by simp,by simp [setsA,keepA,SWeak,AWeak],by simp [HWeak,BWeak,SWeak,AWeak]⟩⟩
       ·rw [cv q] at cs2
        rw [if_pos rfl,tv q]
        simp (config:={maxSteps:=1000000}) (disch:=((try simp only [awL]);omega)) only [QR,QS,QT,QU,QV,QW,QX,QY,QZ,Q0,Q1,Q2,↓awU,awV,awF,Qa,Qb,Qc,Qd,forall_const,↓reduceIte,↓reduceDIte,↓Qe,Qf,Qg,Qh,Qi,Qj,Qk,Ql,Qm,Qn,Qo,Qp,Qq,Qr,Qs,implies_true,Qt,Qu,Qv,Qw,Qx,Qy,Qz,QA,QB,QC,QD,QE,QF,QG,QH,QI,QJ,QK,QL,QM,QN,QO,QP,QQ]
        refine CallC.of tx (by rfl) ?_
        simp (config:={maxSteps:=1000000}) (disch:=((try simp only [awL]);omega)) only [QR,QS,QT,QU,QV,QW,QX,QY,QZ,Q0,Q1,Q2,↓awU,awV,awF,Qa,Qb,Qc,Qd,forall_const,↓reduceIte,↓reduceDIte,↓Qe,Qf,Qg,Qh,Qi,Qj,Qk,Ql,Qm,Qn,Qo,Qp,Qq,Qr,Qs,implies_true,Qt,Qu,Qv,Qw,Qx,Qy,Qz,QA,QB,QC,QD,QE,QF,QG,QH,QI,QJ,QK,QL,QM,QN,QO,QP,QQ]
        refine CallC.of cs2 (by rfl) ?_
        simp (config:={maxSteps:=1000000}) (disch:=((try simp only [awL]);omega)) only [QR,QS,QT,QU,QV,QW,QX,QY,QZ,Q0,Q1,Q2,↓awU,awV,awF,Qa,Qb,Qc,Qd,forall_const,↓reduceIte,↓reduceDIte,↓Qe,Qf,Qg,Qh,Qi,Qj,Qk,Ql,Qm,Qn,Qo,Qp,Qq,Qr,Qs,implies_true,Qt,Qu,Qv,Qw,Qx,Qy,Qz,QA,QB,QC,QD,QE,QF,QG,QH,QI,QJ,QK,QL,QM,QN,QO,QP,QQ]
        try refine ⟨by rfl,?_⟩
        refine CallC.of cc (by rfl) ?_
        simp (config:={maxSteps:=1000000}) (disch:=((try simp only [awL]);omega)) only [QR,QS,QT,QU,QV,QW,QX,QY,QZ,Q0,Q1,Q2,↓awU,awV,awF,Qa,Qb,Qc,Qd,forall_const,↓reduceIte,↓reduceDIte,↓Qe,Qf,Qg,Qh,Qi,Qj,Qk,Ql,Qm,Qn,Qo,Qp,Qq,Qr,Qs,implies_true,Qt,Qu,Qv,Qw,Qx,Qy,Qz,QA,QB,QC,QD,QE,QF,QG,QH,QI,QJ,QK,QL,QM,QN,QO,QP,QQ]
        first
        | exact ⟨j+1,h3,by simp only;omega,⟨[some 0,some 1,some 2,some 3,some 4,some 5],rfl,by simp,by simp [setsA,keepA,SWeak,AWeak],by simp [HWeak,BWeak,SWeak,AWeak]⟩⟩
        | exact ⟨by rfl,j+1,h3,by simp only;omega,⟨[some 0,some 1,some 2,some 3,some 4,some 5],rfl,by simp,by simp [setsA,keepA,SWeak,AWeak],by simp [HWeak,BWeak,SWeak,AWeak]⟩⟩
      ·have eb':(vb=ub)=False:=eq_false eb
       simp (config:={maxSteps:=1000000}) (disch:=((try simp only [awL]);omega)) only [QR,QS,QT,QU,QV,QW,QX,QY,QZ,Q0,Q1,Q2,gv,uL_unf,eb',↓awU,awV,awF,Qa,Qb,Qc,Qd,forall_const,↓reduceIte,↓reduceDIte,↓Qe,Qf,Qg,Qh,Qi,Qj,Qk,Ql,Qm,Qn,Qo,Qp,Qq,Qr,Qs,implies_true,Qt,Qu,Qv,Qw,Qx,Qy,Qz,QA,QB,QC,QD,QE,QF,QG,QH,QI,QJ,QK,QL,QM,QN,QO,QP,QQ]
       exact ⟨j+1,h3,by simp only;omega,⟨[some 0,some 1,some 2,some 3,some 4,some 5],rfl,by simp,by simp [setsA,keepA,SWeak,AWeak],by simp [HWeak,BWeak,SWeak,AWeak]⟩⟩
     ·simp (config:={maxSteps:=1000000}) (disch:=((try simp only [awL]);omega)) only [QR,QS,QT,QU,QV,QW,QX,QY,QZ,Q0,Q1,Q2,uL_unf,↓awU,awV,awF,Qa,Qb,Qc,Qd,forall_const,↓reduceIte,↓reduceDIte,↓Qe,Qf,Qg,Qh,Qi,Qj,Qk,Ql,Qm,Qn,Qo,Qp,Qq,Qr,Qs,implies_true,Qt,Qu,Qv,Qw,Qx,Qy,Qz,QA,QB,QC,QD,QE,QF,QG,QH,QI,QJ,QK,QL,QM,QN,QO,QP,QQ]
      exact ⟨i+1,h,by simp only;omega,⟨[some 0,some 1],rfl,by simp,by simp [setsA,keepA,SWeak,AWeak],by simp [HWeak,BWeak,SWeak,AWeak]⟩⟩
  ·simp (config:={maxSteps:=1000000}) (disch:=((try simp only [awL]);omega)) only [QR,QS,QT,QU,QV,QW,QX,QY,QZ,Q0,Q1,Q2,uL_unf,↓awU,awV,awF,Qa,Qb,Qc,Qd,forall_const,↓reduceIte,↓reduceDIte,↓Qe,Qf,Qg,Qh,Qi,Qj,Qk,Ql,Qm,Qn,Qo,Qp,Qq,Qr,Qs,implies_true,Qt,Qu,Qv,Qw,Qx,Qy,Qz,QA,QB,QC,QD,QE,QF,QG,QH,QI,QJ,QK,QL,QM,QN,QO,QP,QQ]
   first | done | rfl
end Go.Proofs.YtkcghbpghjdgpaaGreatDoor
