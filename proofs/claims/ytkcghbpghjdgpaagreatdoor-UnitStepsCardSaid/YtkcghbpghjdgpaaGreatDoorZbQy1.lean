/-
  A world that lays the variables of unitSteps.
-/
import Derived.Test.YtkcghbpghjdgpaaGreatDoorMb4
set_option linter.all false
open Go.Abs renaming ofVal→Qa,ofVal0→Qb,isShift→Qc,aggK→Qd,purePost→Qe,combine→Qf,idsA→Qg,cellsA→Qh,numsOf→Qi,srcA→Qj,calleeA→Qk,refsA→Ql,isScalar→Qm,scalarD→Qn,scalar0→Qo,putL→Qr,unfA→Qs,sidsB→QJ,keyKD→QL,isIntK→QM,aggD→QN,aggL→QO,eqKs→QP,boxRow→QQ,nextC_more→QT,nextC_over→QU,bs_size→QV,bs_extract→QW,bs_toList→QX,bs_append→QY,byteAt_bs→QZ,bs_cells→Q0,nums_length→Q1,nums_getD→Q2
open Go.Abs.AV renaming one→Qp
open Go.Abs.D renaming one→Qq
open Go.IntKind renaming signed→Qt
open Nat renaming reduceAdd→Qu,reduceSub→Qv,reduceMul→Qw,reducePow→Qx,reduceDiv→Qy,reduceMod→Qz,reduceEqDiff→QI,reduceBEq→QK
open Int renaming reduceAdd→QA,reduceSub→QB,reduceMul→QC,reducePow→QD,reduceNeg→QE,reduceToNat→QF,reduceLT→QG,reduceLE→QH
open Option renaming toList_some→QR,toList_none→QS
namespace Go.Proofs.YtkcghbpghjdgpaaGreatDoor
open Go Go.Proofs Go.Abs Go.RowKit Go.ChangeShapes Go.WideShapes Go.ChangeAt
noncomputable def laidWorld_unitSteps (os:Os):World :=
 {World.holding Tryz.prog os ⟨#[.cells #[.string ⟨#[118,97,108,117,101,32,111,117,116,32,111,102,32,114,97,110,103,101]⟩] 230,.cells #[.string ⟨#[105,110,118,97,108,105,100,32,115,121,110,116,97,120]⟩] 230,.cells #[.int .u32 1] 98,.cells #[.string ⟨#[107,103]⟩,.string ⟨#[107,103]⟩,.int .i64 1,.int .i64 1,.string ⟨#[103]⟩,.string ⟨#[107,103]⟩,.int .i64 1,.int .i64 1000,.string ⟨#[116]⟩,.string ⟨#[107,103]⟩,.int .i64 1000,.int .i64 1,.string ⟨#[109]⟩,.string ⟨#[109]⟩,.int .i64 1,.int .i64 1,.string ⟨#[107,109]⟩,.string ⟨#[109]⟩,.int .i64 1000,.int .i64 1,.string ⟨#[99,109]⟩,.string ⟨#[109]⟩,.int .i64 1,.int .i64 100,.string ⟨#[109,109]⟩,.string ⟨#[109]⟩,.int .i64 1,.int .i64 1000,.string ⟨#[115]⟩,.string ⟨#[115]⟩,.int .i64 1,.int .i64 1,.string ⟨#[109,105,110]⟩,.string ⟨#[115]⟩,.int .i64 60,.int .i64 1,.string ⟨#[104]⟩,.string ⟨#[115]⟩,.int .i64 3600,.int .i64 1,.string ⟨#[109,115]⟩,.string ⟨#[115]⟩,.int .i64 1,.int .i64 1000,.string ⟨#[37]⟩,.string ⟨#[37]⟩,.int .i64 1,.int .i64 1] 51,.cells #[.string ⟨#[107,103]⟩,.string ⟨#[109]⟩,.string ⟨#[115]⟩,.string ⟨#[37]⟩] 9],#[],[]⟩ with heap:=(((((((((((World.holding Tryz.prog os ⟨#[.cells #[.string ⟨#[118,97,108,117,101,32,111,117,116,32,111,102,32,114,97,110,103,101]⟩] 230,.cells #[.string ⟨#[105,110,118,97,108,105,100,32,115,121,110,116,97,120]⟩] 230,.cells #[.int .u32 1] 98,.cells #[.string ⟨#[107,103]⟩,.string ⟨#[107,103]⟩,.int .i64 1,.int .i64 1,.string ⟨#[103]⟩,.string ⟨#[107,103]⟩,.int .i64 1,.int .i64 1000,.string ⟨#[116]⟩,.string ⟨#[107,103]⟩,.int .i64 1000,.int .i64 1,.string ⟨#[109]⟩,.string ⟨#[109]⟩,.int .i64 1,.int .i64 1,.string ⟨#[107,109]⟩,.string ⟨#[109]⟩,.int .i64 1000,.int .i64 1,.string ⟨#[99,109]⟩,.string ⟨#[109]⟩,.int .i64 1,.int .i64 100,.string ⟨#[109,109]⟩,.string ⟨#[109]⟩,.int .i64 1,.int .i64 1000,.string ⟨#[115]⟩,.string ⟨#[115]⟩,.int .i64 1,.int .i64 1,.string ⟨#[109,105,110]⟩,.string ⟨#[115]⟩,.int .i64 60,.int .i64 1,.string ⟨#[104]⟩,.string ⟨#[115]⟩,.int .i64 3600,.int .i64 1,.string ⟨#[109,115]⟩,.string ⟨#[115]⟩,.int .i64 1,.int .i64 1000,.string ⟨#[37]⟩,.string ⟨#[37]⟩,.int .i64 1,.int .i64 1] 51,.cells #[.string ⟨#[107,103]⟩,.string ⟨#[109]⟩,.string ⟨#[115]⟩,.string ⟨#[37]⟩] 9],#[],[]⟩).heap.modify 8 fun
   | .cells _ t frozen=>.cells #[.int .u8 0,.int .u8 1,.int .u8 28,.int .u8 2,.int .u8 29,.int .u8 14,.int .u8 24,.int .u8 3,.int .u8 30,.int .u8 22,.int .u8 20,.int .u8 15,.int .u8 25,.int .u8 17,.int .u8 4,.int .u8 8,.int .u8 31,.int .u8 27,.int .u8 13,.int .u8 23,.int .u8 21,.int .u8 19,.int .u8 16,.int .u8 7,.int .u8 26,.int .u8 12,.int .u8 18,.int .u8 6,.int .u8 11,.int .u8 5,.int .u8 10,.int .u8 9] t frozen
   | o=>o).modify 9 fun
   | .cells _ t frozen=>.cells #[.int .u8 0,.int .u8 1,.int .u8 56,.int .u8 2,.int .u8 57,.int .u8 49,.int .u8 28,.int .u8 3,.int .u8 61,.int .u8 58,.int .u8 42,.int .u8 50,.int .u8 38,.int .u8 29,.int .u8 17,.int .u8 4,.int .u8 62,.int .u8 47,.int .u8 59,.int .u8 36,.int .u8 45,.int .u8 43,.int .u8 51,.int .u8 22,.int .u8 53,.int .u8 39,.int .u8 33,.int .u8 30,.int .u8 24,.int .u8 18,.int .u8 12,.int .u8 5,.int .u8 63,.int .u8 55,.int .u8 48,.int .u8 27,.int .u8 60,.int .u8 41,.int .u8 37,.int .u8 16,.int .u8 46,.int .u8 35,.int .u8 44,.int .u8 21,.int .u8 52,.int .u8 32,.int .u8 23,.int .u8 11,.int .u8 54,.int .u8 26,.int .u8 40,.int .u8 15,.int .u8 34,.int .u8 20,.int .u8 31,.int .u8 10,.int .u8 25,.int .u8 14,.int .u8 19,.int .u8 9,.int .u8 13,.int .u8 8,.int .u8 7,.int .u8 6] t frozen
   | o=>o).modify 3 fun
   | .cells _ t frozen=>.cells #[.int .u64 1,.int .u64 10,.int .u64 100,.int .u64 1000,.int .u64 10000,.int .u64 100000,.int .u64 1000000,.int .u64 10000000,.int .u64 100000000,.int .u64 1000000000,.int .u64 10000000000,.int .u64 100000000000,.int .u64 1000000000000,.int .u64 10000000000000,.int .u64 100000000000000,.int .u64 1000000000000000,.int .u64 10000000000000000,.int .u64 100000000000000000,.int .u64 1000000000000000000,.int .u64 10000000000000000000] t frozen
   | o=>o).modify 7 fun
   | .cells _ t frozen=>.cells #[.int .u8 128,.int .u8 191,.int .u8 160,.int .u8 191,.int .u8 128,.int .u8 159,.int .u8 144,.int .u8 191,.int .u8 128,.int .u8 143,.int .u8 0,.int .u8 0,.int .u8 0,.int .u8 0,.int .u8 0,.int .u8 0,.int .u8 0,.int .u8 0,.int .u8 0,.int .u8 0,.int .u8 0,.int .u8 0,.int .u8 0,.int .u8 0,.int .u8 0,.int .u8 0,.int .u8 0,.int .u8 0,.int .u8 0,.int .u8 0,.int .u8 0,.int .u8 0] t frozen
   | o=>o).modify 11 fun
   | .cells _ t frozen=>.cells #[.iface 228 (.pointer (some ⟨(World.settled Tryz.prog os).heap.size,0,none⟩))] t frozen
   | o=>o).modify 10 fun
   | .cells _ t frozen=>.cells #[.iface 228 (.pointer (some ⟨(World.settled Tryz.prog os).heap.size+1,0,none⟩))] t frozen
   | o=>o).modify 2 fun
   | .cells _ t frozen=>.cells #[.slice (some ⟨(World.settled Tryz.prog os).heap.size+2,0,none⟩) 1 1] t frozen
   | o=>o).modify 1 fun
   | .cells _ t frozen=>.cells #[.slice (some ⟨(World.settled Tryz.prog os).heap.size+3,0,none⟩) 12 12] t frozen
   | o=>o).modify 0 fun
   | .cells _ t frozen=>.cells #[.slice (some ⟨(World.settled Tryz.prog os).heap.size+4,0,none⟩) 4 4] t frozen
   | o=>o).modify 6 fun
   | .cells _ t frozen=>.cells (Go.Pinned.utf8FirstZ.map fun (n:Nat)=>Value.int .u8 (n:Int)).toArray t frozen
   | o=>o)}
set_option maxRecDepth 100000 in
theorem laid_met_unitSteps (os:Os) (args:Array Value):laidMet Tryz.prog [("math/bits.deBruijn32tab",Rows.laid_math_bits_deBruijn32tab),("math/bits.deBruijn64tab",Rows.laid_math_bits_deBruijn64tab),("internal/strconv.uint64pow10",Rows.laid_internal_strconv_uint64pow10),("unicode/utf8.acceptRanges",Rows.laid_unicode_utf8_acceptRanges),("strconv.ErrRange",Rows.laid_strconv_ErrRange),("strconv.ErrSyntax",Rows.laid_strconv_ErrSyntax),("tablefinder/fraction.one",Rows.laid_tablefinder_fraction_one),("tablefinder/unit.units",Rows.laid_tablefinder_unit_units),("tablefinder/unit.bases",Rows.laid_tablefinder_unit_bases),("unicode/utf8.first",Rows.laid_unicode_utf8_first)] ((laidWorld_unitSteps os).forCall (fun _ _=>0) ⟨#[],args,[]⟩).memory :=
 laidMet_of_run' 8 (by kernel_rfl) (by kernel_rfl)
end Go.Proofs.YtkcghbpghjdgpaaGreatDoor
namespace Go.Proofs.YtkcghbpghjdgpaaGreatDoor
open Go Go.Proofs Go.Abs
variable {G:Globals}
abbrev OU:=List UInt8 × Int × Int
abbrev OUC (o:OU):List D:=[S o.1,.int .i64 o.2.1,.int .i64 o.2.2]
def ouC (l:List OU):List D:=l.flatMap OUC
def toU (l:List Opt):List OU:=l.map fun o=>(o.txt,(o.fr:Int),(o.ag:Int))
def noOU:OU:=([],0,0)
theorem toU_len (l:List Opt):(toU l).length=l.length:=by simp [toU]
theorem ouC_to:∀ l:List Opt,ouC (toU l)=optC l
 | []=>rfl
 | o::l=>by
   have ih:=ouC_to l
   simp only [ouC,toU,List.map_cons,List.flatMap_cons,optC] at ih ⊢
   rw [ih]
theorem ouC_length:∀ l:List OU,(ouC l).length=3*l.length
 | []=>rfl
 | o::l=>by
   have ih:=ouC_length l
   simp only [ouC,List.flatMap_cons,List.length_append,List.length_cons,List.length_nil] at ih ⊢
   omega
theorem ouC_get:∀ {l:List OU} {k:Nat},k<l.length→((ouC l).drop (k*3)).take 3=OUC (l.getD k noOU)
 | [],k,h=>absurd h (Nat.not_lt_zero _)
 | o::l,0,_=>by simp [ouC]
 | o::l,k+1,h=>by
   have ih:=ouC_get (l:=l) (k:=k) (by simpa using h)
   have e2:ouC (o::l)=S o.1::.int .i64 o.2.1::.int .i64 o.2.2::ouC l:=rfl
   rw [show (k+1)*3=k*3+3 by omega,e2]
   simpa using ih
theorem ouC_txt:∀ {l:List OU} {k:Nat},k<l.length→(ouC l).getD (k*3) .nilp=S (l.getD k noOU).1
 | [],k,h=>absurd h (Nat.not_lt_zero _)
 | o::l,0,_=>by simp [ouC]
 | o::l,k+1,h=>by
   have ih:=ouC_txt (l:=l) (k:=k) (by simpa using h)
   have e2:ouC (o::l)=S o.1::.int .i64 o.2.1::.int .i64 o.2.2::ouC l:=rfl
   rw [show (k+1)*3=k*3+3 by omega,e2]
   simpa using ih
def goodU (o:OU):Bool:=decide (0<o.2.1) && decide (o.2.2=0)
def takeU (l:List OU):List UInt8:=match l.find? goodU with | some o=>o.1 | none=>[]
theorem ixF_find {α:Type} {p:α→Bool} {d:α}:∀ (l:List α) (k:Int),0≤k→(ixF p l k<0∧l.find? p=none)∨∃ n,n<l.length∧ixF p l k=k+n∧l.find? p=some (l.getD n d)
 | [],k,h=>.inl ⟨by rw [ixF];omega,rfl⟩
 | x::r,k,h=>by
   rw [ixF,List.find?_cons]
   cases hx:p x
   ·rcases ixF_find (d:=d) r (k+1) (by omega) with ⟨h1,h2⟩ | ⟨n,h1,h2,h3⟩
    ·exact .inl ⟨by simpa using h1,h2⟩
    ·exact .inr ⟨n+1,by simp;omega,by simp;omega,by simpa using h3⟩
   ·exact .inr ⟨0,by simp,by simp,by simp⟩
set_option maxRecDepth 100000 in
theorem take1_spec (o:OU):Ctr Tryz.prog G 35 [.d (.agg (OUC o))] [] (.d (.bool (goodU o))) []:=by
 obtain ⟨t,a,b⟩:=o
 obtain ⟨r,hr⟩:∃ r,r=goodU (t,a,b):=⟨_,rfl⟩
 rw [← hr]
 unfold goodU at hr
 simp only at hr
 refine Ctr.pure (M:=M0) hmix Tryz.func35 rfl go35 ?_
 by_cases e1:0<a
 ·rw [decide_eq_true e1,Bool.true_and] at hr
  subst hr
  simp (config:={maxSteps:=1000000}) (disch:=((try simp only [awL]);omega)) only [QR,QS,QT,QU,QV,QW,QX,QY,QZ,Q0,Q1,Q2,Tryz.f35,↓awU,awV,awF,Qa,Qb,Qc,Qd,forall_const,↓reduceIte,↓reduceDIte,↓Qe,Qf,Qg,Qh,Qi,Qj,Qk,Ql,Qm,Qn,Qo,Qp,Qq,Qr,Qs,implies_true,Qt,Qu,Qv,Qw,Qx,Qy,Qz,QA,QB,QC,QD,QE,QF,QG,QH,QI,QJ,QK,QL,QM,QN,QO,QP,QQ]
  first | done | rfl
 ·rw [decide_eq_false e1,Bool.false_and] at hr
  subst hr
  simp (config:={maxSteps:=1000000}) (disch:=((try simp only [awL]);omega)) only [QR,QS,QT,QU,QV,QW,QX,QY,QZ,Q0,Q1,Q2,Tryz.f35,↓awU,awV,awF,Qa,Qb,Qc,Qd,forall_const,↓reduceIte,↓reduceDIte,↓Qe,Qf,Qg,Qh,Qi,Qj,Qk,Ql,Qm,Qn,Qo,Qp,Qq,Qr,Qs,implies_true,Qt,Qu,Qv,Qw,Qx,Qy,Qz,QA,QB,QC,QD,QE,QF,QG,QH,QI,QJ,QK,QL,QM,QN,QO,QP,QQ]
  first | done | rfl
set_option maxHeartbeats 4000000 in
theorem ixU_spec (l:List OU) (full:Bool) (hl:l.length≤1000000) :
  Ctr Tryz.prog G 34 [.d (.sl l.length full (ouC l)),.d (.fn (.func 35) [] [])] [] (.d (.int .i64 (ixF goodU l 0))) []:=by
 refine Ctr.pure (M:=M0) hmix Tryz.func34 rfl go34 ?_
 have sl:=@ouC_length l
 simp (config:={maxSteps:=1000000}) (disch:=((try simp only [awL]);omega)) only [QR,QS,QT,QU,QV,QW,QX,QY,QZ,Q0,Q1,Q2,sl,Tryz.f34,↓awU,awV,awF,Qa,Qb,Qc,Qd,forall_const,↓reduceIte,↓reduceDIte,↓Qe,Qf,Qg,Qh,Qi,Qj,Qk,Ql,Qm,Qn,Qo,Qp,Qq,Qr,Qs,implies_true,Qt,Qu,Qv,Qw,Qx,Qy,Qz,QA,QB,QC,QD,QE,QF,QG,QH,QI,QJ,QK,QL,QM,QN,QO,QP,QQ]
 refine LoopC.fr 131 (α:=Nat) (fun i=>l.length - i) (fun i=>[(8,.d (.int .i64 i))]) (fun _=>[]) (fun i=>i≤l.length∧ixF goodU l 0=ixF goodU (l.drop i) i) 0 ⟨Nat.zero_le _,rfl⟩ ?_ ?_
 ·exact ⟨[],rfl,by simp,by simp [setsA,keepA,SWeak,AWeak],by simp [HWeak,BWeak,SWeak,AWeak]⟩
 ·rintro i ⟨h1,h2⟩
  simp only [awK,Nat.reduceMod,Nat.reduceDiv,reduceIte]
  rw [h2]
  rcases Nat.lt_or_ge i l.length with h | h
  ·have g:=ouC_get h
   rw [ixF_at (d:=noOU) h]
   generalize l.getD i noOU=o at *
   simp (config:={maxSteps:=1000000}) (disch:=((try simp only [awL]);omega)) only [QR,QS,QT,QU,QV,QW,QX,QY,QZ,Q0,Q1,Q2,sl,g,↓awU,awV,awF,Qa,Qb,Qc,Qd,forall_const,↓reduceIte,↓reduceDIte,↓Qe,Qf,Qg,Qh,Qi,Qj,Qk,Ql,Qm,Qn,Qo,Qp,Qq,Qr,Qs,implies_true,Qt,Qu,Qv,Qw,Qx,Qy,Qz,QA,QB,QC,QD,QE,QF,QG,QH,QI,QJ,QK,QL,QM,QN,QO,QP,QQ]
   refine CallC.of (take1_spec o) (by rfl) ?_
   cases hx:goodU o
   ·simp (config:={maxSteps:=1000000}) (disch:=((try simp only [awL]);omega)) only [QR,QS,QT,QU,QV,QW,QX,QY,QZ,Q0,Q1,Q2,↓awU,awV,awF,Qa,Qb,Qc,Qd,forall_const,↓reduceIte,↓reduceDIte,↓Qe,Qf,Qg,Qh,Qi,Qj,Qk,Ql,Qm,Qn,Qo,Qp,Qq,Qr,Qs,implies_true,Qt,Qu,Qv,Qw,Qx,Qy,Qz,QA,QB,QC,QD,QE,QF,QG,QH,QI,QJ,QK,QL,QM,QN,QO,QP,QQ]
    exact ⟨i+1,⟨h,rfl⟩,by simp only;omega,⟨[],rfl,by simp,by simp [setsA,keepA,SWeak,AWeak],by simp [HWeak,BWeak,SWeak,AWeak]⟩⟩
   ·simp (config:={maxSteps:=1000000}) (disch:=((try simp only [awL]);omega)) only [QR,QS,QT,QU,QV,QW,QX,QY,QZ,Q0,Q1,Q2,↓awU,awV,awF,Qa,Qb,Qc,Qd,forall_const,↓reduceIte,↓reduceDIte,↓Qe,Qf,Qg,Qh,Qi,Qj,Qk,Ql,Qm,Qn,Qo,Qp,Qq,Qr,Qs,implies_true,Qt,Qu,Qv,Qw,Qx,Qy,Qz,QA,QB,QC,QD,QE,QF,QG,QH,QI,QJ,QK,QL,QM,QN,QO,QP,QQ]
  ·rw [List.drop_eq_nil_of_le h]
   simp (config:={maxSteps:=1000000}) (disch:=((try simp only [awL]);omega)) only [QR,QS,QT,QU,QV,QW,QX,QY,QZ,Q0,Q1,Q2,sl,↓awU,awV,awF,Qa,Qb,Qc,Qd,forall_const,↓reduceIte,↓reduceDIte,↓Qe,Qf,Qg,Qh,Qi,Qj,Qk,Ql,Qm,Qn,Qo,Qp,Qq,Qr,Qs,implies_true,Qt,Qu,Qv,Qw,Qx,Qy,Qz,QA,QB,QC,QD,QE,QF,QG,QH,QI,QJ,QK,QL,QM,QN,QO,QP,QQ]
   rfl
set_option maxHeartbeats 4000000 in
set_option maxRecDepth 100000 in
theorem utake_spec (l:List OU) (full:Bool) (hl:l.length≤1000000):Ctr Tryz.prog G 10 [.d (.sl l.length full (ouC l))] [] (.d (S (takeU l))) []:=by
 obtain ⟨r,hr⟩:∃ r,r=takeU l:=⟨_,rfl⟩
 rw [← hr]
 unfold takeU at hr
 have sl:=@ouC_length l
 refine Ctr.pure (M:=M0) hmix Tryz.func10 rfl go10 ?_
 simp (config:={maxSteps:=1000000}) (disch:=((try simp only [awL]);omega)) only [QR,QS,QT,QU,QV,QW,QX,QY,QZ,Q0,Q1,Q2,Tryz.f10,↓awU,awV,awF,Qa,Qb,Qc,Qd,forall_const,↓reduceIte,↓reduceDIte,↓Qe,Qf,Qg,Qh,Qi,Qj,Qk,Ql,Qm,Qn,Qo,Qp,Qq,Qr,Qs,implies_true,Qt,Qu,Qv,Qw,Qx,Qy,Qz,QA,QB,QC,QD,QE,QF,QG,QH,QI,QJ,QK,QL,QM,QN,QO,QP,QQ]
 refine CallC.of (ixU_spec l false hl) (by rfl) ?_
 rcases ixF_find (p:=goodU) (d:=noOU) l 0 (Int.le_refl _) with ⟨h1,h2⟩ | ⟨n,h1,h2,h3⟩
 ·rw [h2] at hr
  simp only at hr
  subst hr
  generalize ixF goodU l 0=z at *
  simp (config:={maxSteps:=1000000}) (disch:=((try simp only [awL]);omega)) only [QR,QS,QT,QU,QV,QW,QX,QY,QZ,Q0,Q1,Q2,↓awU,awV,awF,Qa,Qb,Qc,Qd,forall_const,↓reduceIte,↓reduceDIte,↓Qe,Qf,Qg,Qh,Qi,Qj,Qk,Ql,Qm,Qn,Qo,Qp,Qq,Qr,Qs,implies_true,Qt,Qu,Qv,Qw,Qx,Qy,Qz,QA,QB,QC,QD,QE,QF,QG,QH,QI,QJ,QK,QL,QM,QN,QO,QP,QQ]
  first | done | rfl
 ·rw [h3] at hr
  simp only at hr
  rw [h2,Int.zero_add]
  have gt:=ouC_txt h1
  rw [← hr] at gt
  simp (config:={maxSteps:=1000000}) (disch:=((try simp only [awL]);omega)) only [QR,QS,QT,QU,QV,QW,QX,QY,QZ,Q0,Q1,Q2,sl,gt,↓awU,awV,awF,Qa,Qb,Qc,Qd,forall_const,↓reduceIte,↓reduceDIte,↓Qe,Qf,Qg,Qh,Qi,Qj,Qk,Ql,Qm,Qn,Qo,Qp,Qq,Qr,Qs,implies_true,Qt,Qu,Qv,Qw,Qx,Qy,Qz,QA,QB,QC,QD,QE,QF,QG,QH,QI,QJ,QK,QL,QM,QN,QO,QP,QQ]
  first | done | rfl
theorem celsD_unf {l:List Cel}:(celsD l).map unf0=celsD l:=by
 induction l with
 | nil=>rfl
 | cons x l ih =>
  have e:celsD (x::l)=.bool x.2::S x.1::celsD l:=rfl
  rw [e,List.map_cons,List.map_cons,ih];rfl
theorem cloneC_spec (l:List Cel) (full:Bool) (hl:l.length<2 ^ 40):Ctr Tryz.prog G 37 [.d (CelS l full)] [] (.d (CelS l false)) []:=by
 refine Ctr.of_body Tryz.func37 rfl go37 rfl ?_
 have sl:=celsD_length l
 refine Tri.seq (Tri.of_awp (M:=M0) hmix _ _ _ _ ?_)
 simp (config:={maxSteps:=1000000}) (disch:=((try simp only [awL]);omega)) only [QR,QS,QT,QU,QV,QW,QX,QY,QZ,Q0,Q1,Q2,aseq_normal,Tryz.f37,↓awU,awV,awF,Qa,Qb,Qc,Qd,forall_const,↓reduceIte,↓reduceDIte,↓Qe,Qf,Qg,Qh,Qi,Qj,Qk,Ql,Qm,Qn,Qo,Qp,Qq,Qr,Qs,implies_true,Qt,Qu,Qv,Qw,Qx,Qy,Qz,QA,QB,QC,QD,QE,QF,QG,QH,QI,QJ,QK,QL,QM,QN,QO,QP,QQ]
 refine Tri.seq (Tri.seq (Tri.nilRegion (e:=38) (by kernel_rfl) rfl ?_ ?_))
 ·simp
 intro b hb
 simp only [aseq_normal]
 refine Tri.of_awp (M:=M0) hmix _ _ _ _ ?_
 cases b
 ·simp (config:={maxSteps:=1000000}) (disch:=((try simp only [awL]);omega)) only [QR,QS,QT,QU,QV,QW,QX,QY,QZ,Q0,Q1,Q2,aseq_normal,Tryz.f37,aseq_ret,↓awU,awV,awF,Qa,Qb,Qc,Qd,forall_const,↓reduceIte,↓reduceDIte,↓Qe,Qf,Qg,Qh,Qi,Qj,Qk,Ql,Qm,Qn,Qo,Qp,Qq,Qr,Qs,implies_true,Qt,Qu,Qv,Qw,Qx,Qy,Qz,QA,QB,QC,QD,QE,QF,QG,QH,QI,QJ,QK,QL,QM,QN,QO,QP,QQ]
  refine Tri.of_awp (M:=M0) hmix _ _ _ _ ?_
  simp (config:={maxSteps:=1000000}) (disch:=((try simp only [awL]);omega)) only [QR,QS,QT,QU,QV,QW,QX,QY,QZ,Q0,Q1,Q2,sl,aseq_normal,Tryz.f37,aseq_ret,↓awU,awV,awF,Qa,Qb,Qc,Qd,forall_const,↓reduceIte,↓reduceDIte,↓Qe,Qf,Qg,Qh,Qi,Qj,Qk,Ql,Qm,Qn,Qo,Qp,Qq,Qr,Qs,implies_true,Qt,Qu,Qv,Qw,Qx,Qy,Qz,QA,QB,QC,QD,QE,QF,QG,QH,QI,QJ,QK,QL,QM,QN,QO,QP,QQ]
  have cu:cut (celsD l) 0 (l.length*2)=celsD l:=by unfold cut;rw [List.drop_zero,List.take_of_length_le (by omega)]
  refine ⟨[],rfl,List.nodup_nil,trivial,.inr ⟨CelS l false,?_,?_,rfl⟩⟩
  ·simp [sealA,cu]
  ·simp only [unf_sl,celsD_unf]
 ·simp (config:={maxSteps:=1000000}) (disch:=((try simp only [awL]);omega)) only [QR,QS,QT,QU,QV,QW,QX,QY,QZ,Q0,Q1,Q2,aseq_normal,Tryz.f37,aseq_ret,↓awU,awV,awF,Qa,Qb,Qc,Qd,forall_const,↓reduceIte,↓reduceDIte,↓Qe,Qf,Qg,Qh,Qi,Qj,Qk,Ql,Qm,Qn,Qo,Qp,Qq,Qr,Qs,implies_true,Qt,Qu,Qv,Qw,Qx,Qy,Qz,QA,QB,QC,QD,QE,QF,QG,QH,QI,QJ,QK,QL,QM,QN,QO,QP,QQ]
  have h0:l=[]:=List.length_eq_zero_iff.1 (hb rfl)
  subst h0
  exact ⟨[],rfl,List.nodup_nil,trivial,.inr ⟨.sl 0 true [],rfl,rfl,rfl⟩⟩
theorem cloneR_spec (l:List Cel) (full:Bool) (hl:l.length<2 ^ 40) (h0:0<l.length):Ctr Tryz.prog G 37 [.d (CelS l full)] [] (.lsl 0 2 0 l.length) [.row false (celsD l)]:=by
 refine Ctr.of_body Tryz.func37 rfl go37 rfl ?_
 have sl:=celsD_length l
 refine Tri.seq (Tri.of_awp (M:=M0) hmix _ _ _ _ ?_)
 simp (config:={maxSteps:=1000000}) (disch:=((try simp only [awL]);omega)) only [QR,QS,QT,QU,QV,QW,QX,QY,QZ,Q0,Q1,Q2,aseq_normal,Tryz.f37,↓awU,awV,awF,Qa,Qb,Qc,Qd,forall_const,↓reduceIte,↓reduceDIte,↓Qe,Qf,Qg,Qh,Qi,Qj,Qk,Ql,Qm,Qn,Qo,Qp,Qq,Qr,Qs,implies_true,Qt,Qu,Qv,Qw,Qx,Qy,Qz,QA,QB,QC,QD,QE,QF,QG,QH,QI,QJ,QK,QL,QM,QN,QO,QP,QQ]
 refine Tri.seq (Tri.seq (Tri.nilRegion (e:=38) (by kernel_rfl) rfl ?_ ?_))
 ·simp
 intro b hb
 simp only [aseq_normal]
 refine Tri.of_awp (M:=M0) hmix _ _ _ _ ?_
 cases b
 ·simp (config:={maxSteps:=1000000}) (disch:=((try simp only [awL]);omega)) only [QR,QS,QT,QU,QV,QW,QX,QY,QZ,Q0,Q1,Q2,aseq_normal,Tryz.f37,aseq_ret,↓awU,awV,awF,Qa,Qb,Qc,Qd,forall_const,↓reduceIte,↓reduceDIte,↓Qe,Qf,Qg,Qh,Qi,Qj,Qk,Ql,Qm,Qn,Qo,Qp,Qq,Qr,Qs,implies_true,Qt,Qu,Qv,Qw,Qx,Qy,Qz,QA,QB,QC,QD,QE,QF,QG,QH,QI,QJ,QK,QL,QM,QN,QO,QP,QQ]
  refine Tri.of_awp (M:=M0) hmix _ _ _ _ ?_
  simp (config:={maxSteps:=1000000}) (disch:=((try simp only [awL]);omega)) only [QR,QS,QT,QU,QV,QW,QX,QY,QZ,Q0,Q1,Q2,sl,aseq_normal,Tryz.f37,aseq_ret,↓awU,awV,awF,Qa,Qb,Qc,Qd,forall_const,↓reduceIte,↓reduceDIte,↓Qe,Qf,Qg,Qh,Qi,Qj,Qk,Ql,Qm,Qn,Qo,Qp,Qq,Qr,Qs,implies_true,Qt,Qu,Qv,Qw,Qx,Qy,Qz,QA,QB,QC,QD,QE,QF,QG,QH,QI,QJ,QK,QL,QM,QN,QO,QP,QQ]
  have cu:cut (celsD l) 0 (l.length*2)=celsD l:=by unfold cut;rw [List.drop_zero,List.take_of_length_le (by omega)]
  exact ⟨[some 1],rfl,by simp,by simp [HWeak,BWeak,SWeak,AWeak],.inl (by simp [AWeak,SWeak])⟩
 ·exact absurd (hb rfl) (by omega)
end Go.Proofs.YtkcghbpghjdgpaaGreatDoor
namespace Go.Proofs.YtkcghbpghjdgpaaGreatDoor
open Go Go.Proofs Go.Abs Go.RowKit Go.ChangeShapes Go.WideShapes Go.ChangeAt Go.Joins Go.Deep
theorem flat_at9 {α:Type} {k:Nat} {toD:α→List D} (hk:∀ a,(toD a).length=k):∀ {l:List α} {j:Nat} {x:D},(l.flatMap toD)[j]? = some x→∃ i q a,j=i*k+q∧i<l.length∧l[i]? = some a∧(toD a)[q]? = some x
 | [],j,x,h=>by simp at h
 | a::l,j,x,h=>by
   rw [List.flatMap_cons] at h
   rcases Nat.lt_or_ge j k with h1 | h1
   ·rw [List.getElem?_append_left (by rw [hk];exact h1)] at h
    exact ⟨0,j,a,by simp,by simp,rfl,h⟩
   ·rw [List.getElem?_append_right (by rw [hk];exact h1),hk] at h
    obtain ⟨i,q,b,e1,e2,e3,e4⟩:=flat_at9 hk h
    refine ⟨i+1,q,b,?_,by simpa using e2,by simpa using e3,e4⟩
    rw [Nat.add_mul,Nat.one_mul];omega
theorem open_recsP {α:Type} {H:Type} {enc:TypeId × Value→H} {P:Program} {W:World} {base:Nat} {held:Bool} {t e:TypeId} {fuel:Nat} {v:Value} {x:DataW H × List MemPlace} (k:Nat) (toD:α→List D) (d0:α) (Q:α→DataW H→Prop)
  (hk1:1≤k) (hk:∀ a,(toD a).length=k) (hone:∀ a,∀ y∈toD a,y.one=true) (hce:P.cellsOf e=k)
  (el:∀ n cs' d p,DataW.trod enc P W base (fun _=>true) held n e cs'=some (d,p)→∃ a,Q a d∧∀ (j:Nat) y,(toD a)[j]? = some y→∃ u,cs'[j]? = some u∧RD (heldW W) u y)
  (ht:P.underlying t=some (.slice e)) (hv:∃ a n c,v=.slice a n c) (h:DataW.trod enc P W base (fun _=>true) held fuel t v.cells.toList=some x) :
  ∃ l:List α,R (heldW W) (fun _=>none) v (.d (.sl l.length false (l.flatMap toD)))∧l.length≤maxLen∧∀ a∈l,∃ d,Q a d:=by
 obtain ⟨a,n,c,rfl⟩:=hv
 rcases open_slice ht h with ⟨hcs,_⟩ | ⟨ad,len,cap,m,nn,D',Pl,hcs,hb,hl,hm,hmm,hxx,hx⟩
 ·simp [Value.cells] at hcs
  obtain ⟨rfl,rfl,rfl⟩:=hcs
  exact ⟨[],.d _ _ (.sl0 _ _),by simp,by simp⟩
 ·simp [Value.cells] at hcs
  obtain ⟨rfl,rfl,rfl⟩:=hcs
  subst hxx
  simp only [if_true] at hmm
  have each:∀ i,i<n→∃ a:α,(Q a (D' i))∧∀ (j:Nat) y,(toD a)[j]? = some y→∃ u,W.cell? (ad.add (i*k+j))=some u∧RD (heldW W) u y:=by
   intro i hi
   obtain ⟨cs',h1,h2⟩:=hx i (by omega)
   obtain ⟨a,q1,q2⟩:=el nn cs' (D' i) (Pl i) h2
   refine ⟨a,q1,fun j y hy=>?_⟩
   obtain ⟨u,u1,u2⟩:=q2 j y hy
   have hj:j<k:=by have:=(List.getElem?_eq_some_iff.1 hy).1;rw [hk] at this;exact this
   rw [hce] at h1
   have:=(World.cells?_some h1).2.2 j hj
   rw [Addr.add_add,u1] at this
   exact ⟨u,this,u2⟩
  have:Inhabited α:=⟨d0⟩
  obtain ⟨F,hF⟩:=choose_lt each
  have gl:((List.range n).map F).length=n:=by simp
  refine ⟨(List.range n).map F,?_,by rw [gl];omega,fun r hr=>?_⟩
  ·rw [gl]
   rcases Nat.eq_zero_or_pos c with h1 | h1
   ·obtain rfl:n=0:=by omega
    rw [h1]
    exact .d _ _ (.sl0 _ _)
   ·obtain ⟨b,off,spot⟩:=ad
    have hs:spot=none:=by
     obtain ⟨cs',g1,g2⟩:=hx 0 (by omega)
     rw [hce] at g1
     obtain ⟨_,g3,g4⟩:=World.cells?_some g1
     have g5:=g4 0 (by omega)
     rw [List.getElem?_eq_getElem (by omega)] at g5
     simpa [Addr.add] using World.cell?_spot g5
    subst hs
    have ade:∀ j,Addr.add ⟨b,off,none⟩ j=⟨b,off+j,none⟩:=fun j=>by unfold Addr.add;split<;>simp_all
    have val:∀ (j:Nat) y,(((List.range n).map F).flatMap toD)[j]? = some y→∃ u,W.cell? ⟨b,off+j,none⟩=some u∧RD (heldW W) u y:=by
     intro j y hy
     obtain ⟨i,q,a,e1,e2,e3,e4⟩:=flat_at9 hk hy
     rw [gl] at e2
     rw [List.getElem?_map,List.getElem?_range e2] at e3
     cases e3
     obtain ⟨u,u1,u2⟩:=(hF i e2).2 q y e4
     rw [ade] at u1
     exact ⟨u,by rw [e1];exact u1,u2⟩
    refine .d _ _ (.sl b off n c false _ (fun j=>(W.cell? ⟨b,off+j,none⟩).getD undef) hl (fun h=>by cases h) (fun j y hy=>?_) (fun j y hy=>?_) (fun j y hy=>?_))
    ·obtain ⟨u,u1,_⟩:=val j y hy
     show W.cell? ⟨b,off+j,none⟩=some ((W.cell? ⟨b,off+j,none⟩).getD undef)
     rw [u1];rfl
    ·obtain ⟨u,u1,u2⟩:=val j y hy
     rw [u1];exact u2
    ·obtain ⟨i,q,a,_,_,_,e4⟩:=flat_at9 hk hy
     exact hone a y (List.mem_of_getElem? e4)
  ·obtain ⟨i,hi,rfl⟩:=List.mem_map.1 hr
   have hi:=List.mem_range.1 hi
   exact ⟨D' i,(hF i hi).1⟩
theorem cBool9:Tryz.prog.cellsOf 4=1:=by kernel_rfl
theorem cStr9:Tryz.prog.cellsOf 9=1:=by kernel_rfl
theorem cInt9:Tryz.prog.cellsOf 3=1:=by kernel_rfl
theorem wf_len {s:ByteArray} (h:s.size≤maxLen):s.data.toList.length≤maxLen:=by rw [Array.length_toList];exact h
set_option maxRecDepth 100000 in
theorem open_cellsP {H:Type} {enc:TypeId × Value→H} {W:World} {base:Nat} {held:Bool} {fuel:Nat} {v:Value} {x:DataW H × List MemPlace}
  (hv:∃ a n c,v=.slice a n c) (h:DataW.trod enc Tryz.prog W base (fun _=>true) held fuel 26 v.cells.toList=some x) :
  ∃ l:List Cel,R (heldW W) (fun _=>none) v (.d (CelS l false))∧l.length≤maxLen∧∀ a∈l,a.1.length≤maxLen:=by
 obtain ⟨l,h1,h2,h3⟩:=open_recsP (α:=Cel) 2 CelC noC (fun a d=>a.1.length≤maxLen) (by decide) (fun _=>rfl) (fun a y hy=>by
   simp only [List.mem_cons,List.not_mem_nil,or_false] at hy
   rcases hy with rfl | rfl<;>rfl) (by kernel_rfl) (fun n cs' d p ht=>by
  obtain ⟨xs,m,rfl,hx,hl,hn,he⟩:=DataW.trod_struct Tryz.underlying38 ht
  have e0:=he 0 _ rfl
  have e1:=he 1 _ rfl
  have hn2:xs.length=2:=hn
  have x0:xs[0]? = some xs[0]:=List.getElem?_eq_getElem (by omega)
  have x1:xs[1]? = some xs[1]:=List.getElem?_eq_getElem (by omega)
  rw [x0] at e0
  rw [x1] at e1
  obtain ⟨b,c0,y0⟩:=DataW.trod_bool Tryz.underlying4 e0
  obtain ⟨s,c1,y1,wf⟩:=DataW.trod_string Tryz.underlying9 e1
  refine ⟨(s.data.toList,b),wf_len wf,fun j y hy=>?_⟩
  rcases j with _ | _ | j
  ·cases hy
   refine ⟨.bool b,?_,.bool _⟩
   have:=congrArg (·[0]?) c0
   simpa [List.getElem?_take,List.getElem?_drop,cBool9] using this
  ·cases hy
   refine ⟨.string s,?_,?_⟩
   ·have:=congrArg (·[0]?) c1
    simpa [List.getElem?_take,List.getElem?_drop,cStr9] using this
   ·have:S s.data.toList=.str s:=by show D.str (bs s.data.toList)=.str s;rw [← bs_of s]
    rw [this];exact .str _
  ·cases hy) Tryz.underlying26 hv h
 exact ⟨l,h1,h2,fun a ha=>by obtain ⟨d,q1⟩:=h3 a ha;exact q1⟩
theorem open_optsP {H:Type} {enc:TypeId × Value→H} {W:World} {base:Nat} {held:Bool} {fuel:Nat} {v:Value} {x:DataW H × List MemPlace}
  (hv:∃ a n c,v=.slice a n c) (h:DataW.trod enc Tryz.prog W base (fun _=>true) held fuel 31 v.cells.toList=some x) :
  ∃ l:List OU,R (heldW W) (fun _=>none) v (.d (.sl l.length false (ouC l)))∧l.length≤maxLen:=by
 obtain ⟨l,h1,h2,h3⟩:=open_recsP (α:=OU) 3 OUC noOU (fun a d=>True) (by decide) (fun _=>rfl) (fun a y hy=>by
   simp only [List.mem_cons,List.not_mem_nil,or_false] at hy
   rcases hy with rfl | rfl | rfl<;>rfl) (by kernel_rfl) (fun n cs' d p ht=>by
  obtain ⟨xs,m,rfl,hx,hl,hn,he⟩:=DataW.trod_struct Tryz.underlying49 ht
  have e0:=he 0 _ rfl
  have e1:=he 1 _ rfl
  have e2:=he 2 _ rfl
  have hn2:xs.length=3:=hn
  have x0:xs[0]? = some xs[0]:=List.getElem?_eq_getElem (by omega)
  have x1:xs[1]? = some xs[1]:=List.getElem?_eq_getElem (by omega)
  have x2:xs[2]? = some xs[2]:=List.getElem?_eq_getElem (by omega)
  rw [x0] at e0
  rw [x1] at e1
  rw [x2] at e2
  obtain ⟨s,c0,y0,_⟩:=DataW.trod_string Tryz.underlying9 e0
  obtain ⟨a,c1,y1,_⟩:=DataW.trod_int Tryz.underlying3 e1
  obtain ⟨b,c2,y2,_⟩:=DataW.trod_int Tryz.underlying3 e2
  refine ⟨(s.data.toList,a,b),trivial,fun j y hy=>?_⟩
  rcases j with _ | _ | _ | j
  ·cases hy
   refine ⟨.string s,?_,?_⟩
   ·have:=congrArg (·[0]?) c0
    simpa [List.getElem?_take,List.getElem?_drop,cStr9] using this
   ·have:S s.data.toList=.str s:=by show D.str (bs s.data.toList)=.str s;rw [← bs_of s]
    rw [this];exact .str _
  ·cases hy
   refine ⟨.int .i64 a,?_,.int _ _⟩
   have:=congrArg (·[0]?) c1
   simpa [List.getElem?_take,List.getElem?_drop,cInt9] using this
  ·cases hy
   refine ⟨.int .i64 b,?_,.int _ _⟩
   have:=congrArg (·[0]?) c2
   simpa [List.getElem?_take,List.getElem?_drop,cInt9] using this
  ·cases hy) Tryz.underlying31 hv h
 exact ⟨l,h1,h2⟩
set_option maxRecDepth 100000 in
theorem open_unit {H:Type} {enc:TypeId × Value→H} {W:World} {base:Nat} {sp:Nat→Bool} {held:Bool} {r:Reach} {b0:Nat} {v:Value} {d:DataW H} {p:List MemPlace}
  (hv:Value.okWide Tryz.prog W r b0 51 v) (h:DataW.Trod enc Tryz.prog W base sp held 51 v d p):∃ u:Un,R (heldW W) (fun _=>none) v (.d (.agg (UnC u))):=by
 obtain ⟨v0,v1,v2,v3,y0,y1,y2,y3,n,rfl,_,_,h0,h1,h2,h3⟩:=open_agg4 Tryz.underlying51 (by kernel_rfl) (by kernel_rfl) hv h
 obtain ⟨a,e0,_,_⟩:=DataW.trod_string Tryz.underlying9 h0
 obtain ⟨b,e1,_,_⟩:=DataW.trod_string Tryz.underlying9 h1
 obtain ⟨c,e2,_,_⟩:=DataW.trod_int Tryz.underlying3 h2
 obtain ⟨e,e3,_,_⟩:=DataW.trod_int Tryz.underlying3 h3
 simp only [List.cons.injEq,and_true] at e0 e1 e2 e3
 subst e0 e1 e2 e3
 refine ⟨(a.data.toList,b.data.toList,c,e),.d _ _ (.agg _ _ rfl fun i v x hv hx=>?_)⟩
 have sa:S a.data.toList=.str a:=by show D.str (bs a.data.toList)=.str a;rw [← bs_of a]
 have sb:S b.data.toList=.str b:=by show D.str (bs b.data.toList)=.str b;rw [← bs_of b]
 rcases i with _ | _ | _ | _ | i<;>simp at hv hx
 ·subst hv;subst hx;rw [sa];exact .str _
 ·subst hv;subst hx;rw [sb];exact .str _
 ·subst hv;subst hx;exact .int _ _
 ·subst hv;subst hx;exact .int _ _
end Go.Proofs.YtkcghbpghjdgpaaGreatDoor
namespace Go.Proofs.YtkcghbpghjdgpaaGreatDoor
open Go Go.Proofs Go.Abs
variable {G:Globals}
def apU (b:List UInt8) (x:Cel):Cel:=if x.2=true then x else ((basedU x.1 b).1,x.2)
def fitU (b:List UInt8) (x:Cel):Bool:=x.2 || (basedU x.1 b).2
def uapE (b:List UInt8) (l:List Cel):Int:=if b=[] then 0 else if b∈basesL then (if l.all (fitU b)=true then 0 else 4) else 5
def uapL (b:List UInt8) (l:List Cel):List Cel:=if b=[] then l else l.map (apU b)
def uapR (nm b:List UInt8) (l:List Cel):D:=.tup [if uapE b l=0 then .agg [S nm,CelS (uapL b l) false] else .agg [S [],.sl 0 false []],.int .i64 (uapE b l)]
def mixU (b:List UInt8) (l:List Cel) (i:Nat):List Cel:=(l.take i).map (apU b)++l.drop i
theorem mixU_len (b:List UInt8) (l:List Cel) (i:Nat):(mixU b l i).length=l.length:=by
 unfold mixU;rw [List.length_append,List.length_map,List.length_take,List.length_drop];omega
theorem mixU_get {b:List UInt8} {l:List Cel} {i:Nat} (h:i<l.length):(mixU b l i).getD i noC=l.getD i noC:=by
 unfold mixU
 rw [List.getD_eq_getElem?_getD,List.getElem?_append_right (by simp;omega),List.getElem?_drop,← List.getD_eq_getElem?_getD]
 congr 1;simp;omega
theorem mixU_step {b:List UInt8} {l:List Cel} {i:Nat} (h:i<l.length):mixU b l i=(l.take i).map (apU b)++l.getD i noC::l.drop (i+1)∧mixU b l (i+1)=(l.take i).map (apU b)++apU b (l.getD i noC)::l.drop (i+1):=by
 unfold mixU
 constructor
 ·rw [List.drop_eq_getElem_cons h,List.getD_eq_getElem?_getD,List.getElem?_eq_getElem h];rfl
 ·rw [List.take_add_one,getD_some (d:=noC) h];simp
theorem mixU_end {b:List UInt8} {l:List Cel}:mixU b l l.length=l.map (apU b):=by unfold mixU;simp
theorem celsD_txt {A Z:List Cel} {x:Cel} {i:Nat} (ha:A.length=i) (t:List UInt8):(celsD (A++x::Z)).set (i*2+1) (.str (bs t))=celsD (A++(t,x.2)::Z):=by
 have hl:=celsD_length A
 rw [celsD_app,celsD_app,List.set_append_right _ _ (by omega),show i*2+1 - (celsD A).length=1 by omega]
 rfl
theorem mixU_set {b:List UInt8} {l:List Cel} {i:Nat} (h:i<l.length) {t:List UInt8} (hx:l.getD i noC=(t,false)):(celsD (mixU b l i)).set (i*2+1) (.str (bs (basedU t b).1))=celsD (mixU b l (i+1)):=by
 obtain ⟨h1,h2⟩:=mixU_step (b:=b) h
 rw [h1,h2,celsD_txt (by simp;omega),hx]
 rfl
theorem mixU_null {b:List UInt8} {l:List Cel} {i:Nat} (h:i<l.length) {t:List UInt8} (hx:l.getD i noC=(t,true)):mixU b l (i+1)=mixU b l i:=by
 obtain ⟨h1,h2⟩:=mixU_step (b:=b) h
 rw [h1,h2,hx]
 rfl
theorem all_takeU {l:List Cel} {p:Cel→Bool} {i:Nat} (h:i<l.length) (h1:(l.take i).all p=true) (h2:p (l.getD i noC)=true):(l.take (i+1)).all p=true:=by
 rw [List.take_add_one,getD_some (d:=noC) h,List.all_append,h1]
 simpa using h2
set_option maxHeartbeats 16000000 in
set_option maxRecDepth 100000 in
theorem uapply_spec (hG:Num.HG G) (hU:HU G) (hB:HB G) (nm:List UInt8) (l:List Cel) (full:Bool) (hl:okU l) (b:List UInt8) :
  Ctr Tryz.prog G 12 [.d (.agg [S nm,CelS l full]),.d (S b)] [] (.d (uapR nm b l)) []:=by
 obtain ⟨r,hr⟩:∃ r,r=uapR nm b l:=⟨_,rfl⟩
 rw [← hr]
 unfold uapR uapE uapL at hr
 have lc:=celsD_length l
 have l1:=hl.1
 have hb0:ByteArray.empty=bs []:=rfl
 refine Ctr.pure (M:=M0) hmix Tryz.func12 rfl go12 ?_
 by_cases e0:b=[]
 ·subst e0
  rw [if_pos rfl,if_pos rfl,if_pos rfl] at hr
  have e0':(([]:List UInt8)=[])=True:=eq_true rfl
  simp (config:={maxSteps:=1000000}) (disch:=((try simp only [awL]);omega)) only [QR,QS,QT,QU,QV,QW,QX,QY,QZ,Q0,Q1,Q2,lc,Tryz.f12,↓awU,awV,awF,Qa,Qb,Qc,Qd,forall_const,↓reduceIte,↓reduceDIte,↓Qe,Qf,Qg,Qh,Qi,Qj,Qk,Ql,Qm,Qn,Qo,Qp,Qq,Qr,Qs,implies_true,Qt,Qu,Qv,Qw,Qx,Qy,Qz,QA,QB,QC,QD,QE,QF,QG,QH,QI,QJ,QK,QL,QM,QN,QO,QP,QQ]
  refine CallC.of (cloneC_spec l false (by omega)) (by rfl) ?_
  subst hr
  simp (config:={maxSteps:=1000000}) (disch:=((try simp only [awL]);omega)) only [QR,QS,QT,QU,QV,QW,QX,QY,QZ,Q0,Q1,Q2,lc,↓awU,awV,awF,Qa,Qb,Qc,Qd,forall_const,↓reduceIte,↓reduceDIte,↓Qe,Qf,Qg,Qh,Qi,Qj,Qk,Ql,Qm,Qn,Qo,Qp,Qq,Qr,Qs,implies_true,Qt,Qu,Qv,Qw,Qx,Qy,Qz,QA,QB,QC,QD,QE,QF,QG,QH,QI,QJ,QK,QL,QM,QN,QO,QP,QQ]
  refine ⟨by rfl,?_⟩
  refine LoopC.fr 201326674 (α:=Nat) (fun i=>l.length - i) (fun i=>[(28,.d (.int .i64 (i:Nat)))])
   (fun _=>[.dead,.box [.d (.str ByteArray.empty),.d (.sl 0 true [])],.box [.d (S nm),.d (CelS l false)]]) (fun i=>i≤l.length) 0 (Nat.zero_le _) ?_ ?_
  ·exact ⟨[some 0,some 1,some 2],rfl,by simp,by simp [setsA,keepA,SWeak,AWeak],by simp [HWeak,BWeak,SWeak,AWeak]⟩
  ·intro i hi
   simp only [awK,Nat.reduceMod,Nat.reduceDiv,reduceIte]
   rcases Nat.lt_or_ge i l.length with h | h
   ·have gc:=celsD_get h
    generalize l.getD i noC=x at *
    obtain ⟨t,nul⟩:=x
    have gc:((celsD l).drop (i*2)).take 2=[.bool nul,S t]:=gc
    simp (config:={maxSteps:=1000000}) (disch:=((try simp only [awL]);omega)) only [QR,QS,QT,QU,QV,QW,QX,QY,QZ,Q0,Q1,Q2,lc,gc,↓awU,awV,awF,Qa,Qb,Qc,Qd,forall_const,↓reduceIte,↓reduceDIte,↓Qe,Qf,Qg,Qh,Qi,Qj,Qk,Ql,Qm,Qn,Qo,Qp,Qq,Qr,Qs,implies_true,Qt,Qu,Qv,Qw,Qx,Qy,Qz,QA,QB,QC,QD,QE,QF,QG,QH,QI,QJ,QK,QL,QM,QN,QO,QP,QQ]
    first
    | exact ⟨i+1,h,by simp only;omega,⟨[some 0,some 1,some 2],rfl,by simp,by simp [setsA,keepA,SWeak,AWeak],by simp [HWeak,BWeak,SWeak,AWeak]⟩⟩
    | exact ⟨by rfl,i+1,h,by simp only;omega,⟨[some 0,some 1,some 2],rfl,by simp,by simp [setsA,keepA,SWeak,AWeak],by simp [HWeak,BWeak,SWeak,AWeak]⟩⟩
   ·simp (config:={maxSteps:=1000000}) (disch:=((try simp only [awL]);omega)) only [QR,QS,QT,QU,QV,QW,QX,QY,QZ,Q0,Q1,Q2,lc,↓awU,awV,awF,Qa,Qb,Qc,Qd,forall_const,↓reduceIte,↓reduceDIte,↓Qe,Qf,Qg,Qh,Qi,Qj,Qk,Ql,Qm,Qn,Qo,Qp,Qq,Qr,Qs,implies_true,Qt,Qu,Qv,Qw,Qx,Qy,Qz,QA,QB,QC,QD,QE,QF,QG,QH,QI,QJ,QK,QL,QM,QN,QO,QP,QQ]
    first | done | rfl
 ·rw [if_neg e0,if_neg e0] at hr
  have e0':(b=[])=False:=eq_false e0
  by_cases e1:b∈basesL
  ·rw [if_pos e1] at hr
   simp (config:={maxSteps:=1000000}) (disch:=((try simp only [awL]);omega)) only [QR,QS,QT,QU,QV,QW,QX,QY,QZ,Q0,Q1,Q2,lc,e0',Tryz.f12,↓awU,awV,awF,Qa,Qb,Qc,Qd,forall_const,↓reduceIte,↓reduceDIte,↓Qe,Qf,Qg,Qh,Qi,Qj,Qk,Ql,Qm,Qn,Qo,Qp,Qq,Qr,Qs,implies_true,Qt,Qu,Qv,Qw,Qx,Qy,Qz,QA,QB,QC,QD,QE,QF,QG,QH,QI,QJ,QK,QL,QM,QN,QO,QP,QQ]
   refine CallC.of (known_spec hB b) (by rfl) ?_
   rw [decide_eq_true e1]
   rcases Nat.eq_zero_or_pos l.length with h0 | h0
   ·have e2:=List.length_eq_zero_iff.1 h0
    subst e2
    rw [show List.all [] (fitU b)=true from rfl,if_pos rfl,if_pos rfl] at hr
    subst hr
    simp (config:={maxSteps:=1000000}) (disch:=((try simp only [awL]);omega)) only [QR,QS,QT,QU,QV,QW,QX,QY,QZ,Q0,Q1,Q2,lc,↓awU,awV,awF,Qa,Qb,Qc,Qd,forall_const,↓reduceIte,↓reduceDIte,↓Qe,Qf,Qg,Qh,Qi,Qj,Qk,Ql,Qm,Qn,Qo,Qp,Qq,Qr,Qs,implies_true,Qt,Qu,Qv,Qw,Qx,Qy,Qz,QA,QB,QC,QD,QE,QF,QG,QH,QI,QJ,QK,QL,QM,QN,QO,QP,QQ]
    refine CallC.of (cloneC_spec [] false (by decide)) (by rfl) ?_
    simp (config:={maxSteps:=1000000}) (disch:=((try simp only [awL]);omega)) only [QR,QS,QT,QU,QV,QW,QX,QY,QZ,Q0,Q1,Q2,lc,↓awU,awV,awF,Qa,Qb,Qc,Qd,forall_const,↓reduceIte,↓reduceDIte,↓Qe,Qf,Qg,Qh,Qi,Qj,Qk,Ql,Qm,Qn,Qo,Qp,Qq,Qr,Qs,implies_true,Qt,Qu,Qv,Qw,Qx,Qy,Qz,QA,QB,QC,QD,QE,QF,QG,QH,QI,QJ,QK,QL,QM,QN,QO,QP,QQ]
    refine ⟨by rfl,?_⟩
    refine LoopC.fr 201326674 (α:=Nat) (fun i=>0 - i) (fun i=>[(28,.d (.int .i64 (i:Nat)))])
     (fun _=>[.dead,.box [.d (.str ByteArray.empty),.d (.sl 0 true [])],.box [.d (S nm),.d (CelS [] false)]]) (fun i=>i≤0) 0 (Nat.zero_le _) ?_ ?_
    ·exact ⟨[some 0,some 1,some 2],rfl,by simp,by simp [setsA,keepA,SWeak,AWeak],by simp [HWeak,BWeak,SWeak,AWeak]⟩
    ·intro i hi
     obtain rfl:i=0:=by omega
     simp only [awK,Nat.reduceMod,Nat.reduceDiv,reduceIte]
     simp (config:={maxSteps:=1000000}) (disch:=((try simp only [awL]);omega)) only [QR,QS,QT,QU,QV,QW,QX,QY,QZ,Q0,Q1,Q2,lc,List.length_nil,↓awU,awV,awF,Qa,Qb,Qc,Qd,forall_const,↓reduceIte,↓reduceDIte,↓Qe,Qf,Qg,Qh,Qi,Qj,Qk,Ql,Qm,Qn,Qo,Qp,Qq,Qr,Qs,implies_true,Qt,Qu,Qv,Qw,Qx,Qy,Qz,QA,QB,QC,QD,QE,QF,QG,QH,QI,QJ,QK,QL,QM,QN,QO,QP,QQ]
     first | done | rfl
   ·simp (config:={maxSteps:=1000000}) (disch:=((try simp only [awL]);omega)) only [QR,QS,QT,QU,QV,QW,QX,QY,QZ,Q0,Q1,Q2,lc,↓awU,awV,awF,Qa,Qb,Qc,Qd,forall_const,↓reduceIte,↓reduceDIte,↓Qe,Qf,Qg,Qh,Qi,Qj,Qk,Ql,Qm,Qn,Qo,Qp,Qq,Qr,Qs,implies_true,Qt,Qu,Qv,Qw,Qx,Qy,Qz,QA,QB,QC,QD,QE,QF,QG,QH,QI,QJ,QK,QL,QM,QN,QO,QP,QQ]
    refine CallC.by (cloneR_spec l false (by omega) h0) (by rfl) (by rfl) (Nat.zero_le _) ?_
    simp (config:={maxSteps:=1000000}) (disch:=((try simp only [awL]);omega)) only [QR,QS,QT,QU,QV,QW,QX,QY,QZ,Q0,Q1,Q2,lc,↓awU,awV,awF,Qa,Qb,Qc,Qd,forall_const,↓reduceIte,↓reduceDIte,↓Qe,Qf,Qg,Qh,Qi,Qj,Qk,Ql,Qm,Qn,Qo,Qp,Qq,Qr,Qs,implies_true,Qt,Qu,Qv,Qw,Qx,Qy,Qz,QA,QB,QC,QD,QE,QF,QG,QH,QI,QJ,QK,QL,QM,QN,QO,QP,QQ]
    refine ⟨by rfl,?_⟩
    refine LoopC.fr 201326674 (α:=Nat) (fun i=>l.length - i) (fun i=>[(28,.d (.int .i64 (i:Nat)))])
     (fun i=>[.dead,.box [.d (.str ByteArray.empty),.d (.sl 0 true [])],.row false (celsD (mixU b l i)),.box [.d (S nm),.lsl 2 2 0 l.length]]) (fun i=>i≤l.length∧(l.take i).all (fitU b)=true) 0 ⟨Nat.zero_le _,rfl⟩ ?_ ?_
    ·exact ⟨[some 0,some 1,some 2,some 3],rfl,by simp,by simp [setsA,keepA,SWeak,AWeak],by simp [HWeak,BWeak,SWeak,AWeak,mixU]⟩
    ·rintro i ⟨hi,ha⟩
     have al:=celsD_length (mixU b l i)
     have ml:=mixU_len b l i
     rw [ml] at al
     simp only [awK,Nat.reduceMod,Nat.reduceDiv,reduceIte]
     rcases Nat.lt_or_ge i l.length with h | h
     ·have gc:=celsD_get (l:=mixU b l i) (k:=i) (by omega)
      rw [mixU_get h] at gc
      have gx:=hl.at h
      have at1:=@all_takeU l (fitU b) i h ha
      rcases hx:l.getD i noC with ⟨t,nul⟩
      have ms:=@mixU_set b l i h t
      have mn:=@mixU_null b l i h t
      rw [hx] at gc gx at1 ms mn
      simp only at gx
      cases nul
      ·have mf:fitU b (t,false)=(basedU t b).2:=rfl
       have ms:=ms rfl
       rw [mf] at at1
       have gc:((celsD (mixU b l i)).drop (i*2)).take 2=[.bool false,S t]:=gc
       have nf:(basedU t b).2=false→l.all (fitU b)=false:=fun q=>by
        cases q2:l.all (fitU b)
        ·rfl
        ·have:=List.all_eq_true.1 q2 _ (memD (d:=noC) h)
         rw [hx,mf,q] at this
         cases this
       simp (config:={maxSteps:=1000000}) (disch:=((try simp only [awL]);omega)) only [QR,QS,QT,QU,QV,QW,QX,QY,QZ,Q0,Q1,Q2,lc,al,gc,e0',↓awU,awV,awF,Qa,Qb,Qc,Qd,forall_const,↓reduceIte,↓reduceDIte,↓Qe,Qf,Qg,Qh,Qi,Qj,Qk,Ql,Qm,Qn,Qo,Qp,Qq,Qr,Qs,implies_true,Qt,Qu,Qv,Qw,Qx,Qy,Qz,QA,QB,QC,QD,QE,QF,QG,QH,QI,QJ,QK,QL,QM,QN,QO,QP,QQ]
       refine CallC.of (based_spec hG hU t b gx) (by rfl) ?_
       generalize basedU t b=y at *
       obtain ⟨y1,y2⟩:=y
       simp only at at1 ms nf
       cases y2
       ·rw [nf rfl,if_neg Bool.false_ne_true,if_neg (by decide)] at hr
        subst hr
        simp (config:={maxSteps:=1000000}) (disch:=((try simp only [awL]);omega)) only [QR,QS,QT,QU,QV,QW,QX,QY,QZ,Q0,Q1,Q2,lc,al,↓awU,awV,awF,Qa,Qb,Qc,Qd,forall_const,↓reduceIte,↓reduceDIte,↓Qe,Qf,Qg,Qh,Qi,Qj,Qk,Ql,Qm,Qn,Qo,Qp,Qq,Qr,Qs,implies_true,Qt,Qu,Qv,Qw,Qx,Qy,Qz,QA,QB,QC,QD,QE,QF,QG,QH,QI,QJ,QK,QL,QM,QN,QO,QP,QQ]
        first | done | rfl
       ·simp (config:={maxSteps:=1000000}) (disch:=((try simp only [awL]);omega)) only [QR,QS,QT,QU,QV,QW,QX,QY,QZ,Q0,Q1,Q2,lc,al,↓awU,awV,awF,Qa,Qb,Qc,Qd,forall_const,↓reduceIte,↓reduceDIte,↓Qe,Qf,Qg,Qh,Qi,Qj,Qk,Ql,Qm,Qn,Qo,Qp,Qq,Qr,Qs,implies_true,Qt,Qu,Qv,Qw,Qx,Qy,Qz,QA,QB,QC,QD,QE,QF,QG,QH,QI,QJ,QK,QL,QM,QN,QO,QP,QQ]
        first
        | exact ⟨i+1,⟨h,at1 rfl⟩,by simp only;omega,⟨[some 0,some 1,some 2,some 3],rfl,by simp,by simp [setsA,keepA,SWeak,AWeak],by simp [HWeak,BWeak,SWeak,AWeak,ms]⟩⟩
        | exact ⟨by rfl,i+1,⟨h,at1 rfl⟩,by simp only;omega,⟨[some 0,some 1,some 2,some 3],rfl,by simp,by simp [setsA,keepA,SWeak,AWeak],by simp [HWeak,BWeak,SWeak,AWeak,ms]⟩⟩
      ·have gc:((celsD (mixU b l i)).drop (i*2)).take 2=[.bool true,S t]:=gc
       have mn:=mn rfl
       simp (config:={maxSteps:=1000000}) (disch:=((try simp only [awL]);omega)) only [QR,QS,QT,QU,QV,QW,QX,QY,QZ,Q0,Q1,Q2,lc,al,gc,e0',↓awU,awV,awF,Qa,Qb,Qc,Qd,forall_const,↓reduceIte,↓reduceDIte,↓Qe,Qf,Qg,Qh,Qi,Qj,Qk,Ql,Qm,Qn,Qo,Qp,Qq,Qr,Qs,implies_true,Qt,Qu,Qv,Qw,Qx,Qy,Qz,QA,QB,QC,QD,QE,QF,QG,QH,QI,QJ,QK,QL,QM,QN,QO,QP,QQ]
       first
       | exact ⟨i+1,⟨h,at1 rfl⟩,by simp only;omega,⟨[some 0,some 1,some 2,some 3],rfl,by simp,by simp [setsA,keepA,SWeak,AWeak],by simp [HWeak,BWeak,SWeak,AWeak,mn]⟩⟩
       | exact ⟨by rfl,i+1,⟨h,at1 rfl⟩,by simp only;omega,⟨[some 0,some 1,some 2,some 3],rfl,by simp,by simp [setsA,keepA,SWeak,AWeak],by simp [HWeak,BWeak,SWeak,AWeak,mn]⟩⟩
     ·have e:i=l.length:=by omega
      subst e
      rw [List.take_length] at ha
      rw [ha,if_pos rfl,if_pos rfl] at hr
      have me:=@mixU_end b l
      have ll:(l.map (apU b)).length=l.length:=by simp
      rw [me] at al ⊢
      have cu:cut (celsD (l.map (apU b))) 0 (l.length*2)=celsD (l.map (apU b)):=by unfold cut;rw [List.drop_zero,List.take_of_length_le (by omega)]
      subst hr
      unfold CelS
      rw [ll]
      simp (config:={maxSteps:=1000000}) (disch:=((try simp only [awL]);omega)) only [QR,QS,QT,QU,QV,QW,QX,QY,QZ,Q0,Q1,Q2,lc,al,cu,↓awU,awV,awF,Qa,Qb,Qc,Qd,forall_const,↓reduceIte,↓reduceDIte,↓Qe,Qf,Qg,Qh,Qi,Qj,Qk,Ql,Qm,Qn,Qo,Qp,Qq,Qr,Qs,implies_true,Qt,Qu,Qv,Qw,Qx,Qy,Qz,QA,QB,QC,QD,QE,QF,QG,QH,QI,QJ,QK,QL,QM,QN,QO,QP,QQ]
      first | done | rfl
  ·rw [if_neg e1,if_neg (by decide)] at hr
   subst hr
   simp (config:={maxSteps:=1000000}) (disch:=((try simp only [awL]);omega)) only [QR,QS,QT,QU,QV,QW,QX,QY,QZ,Q0,Q1,Q2,lc,e0',Tryz.f12,↓awU,awV,awF,Qa,Qb,Qc,Qd,forall_const,↓reduceIte,↓reduceDIte,↓Qe,Qf,Qg,Qh,Qi,Qj,Qk,Ql,Qm,Qn,Qo,Qp,Qq,Qr,Qs,implies_true,Qt,Qu,Qv,Qw,Qx,Qy,Qz,QA,QB,QC,QD,QE,QF,QG,QH,QI,QJ,QK,QL,QM,QN,QO,QP,QQ]
   refine CallC.of (known_spec hB b) (by rfl) ?_
   rw [decide_eq_false e1]
   simp (config:={maxSteps:=1000000}) (disch:=((try simp only [awL]);omega)) only [QR,QS,QT,QU,QV,QW,QX,QY,QZ,Q0,Q1,Q2,lc,↓awU,awV,awF,Qa,Qb,Qc,Qd,forall_const,↓reduceIte,↓reduceDIte,↓Qe,Qf,Qg,Qh,Qi,Qj,Qk,Ql,Qm,Qn,Qo,Qp,Qq,Qr,Qs,implies_true,Qt,Qu,Qv,Qw,Qx,Qy,Qz,QA,QB,QC,QD,QE,QF,QG,QH,QI,QJ,QK,QL,QM,QN,QO,QP,QQ]
   first | done | rfl
end Go.Proofs.YtkcghbpghjdgpaaGreatDoor
namespace Go.Proofs.YtkcghbpghjdgpaaGreatDoor
open Go Go.Proofs Go.Abs
variable {G:Globals}
def unitsR:List Row:=[[[32,107,103],[103],[116]],[[107,109],[32,109],[99,109],[32,32,109,109]],[[32,115],[109,105,110],[104],[109,115]],[[37]],[[],[32,107,103],[109],[37]]]
def oddU (s:List UInt8):Row:=[[32]++s++[32],s++[120],[57,57,57,57,57,57,57,57,57,57,57,57,57,57,57,32,107,109],[48,46,48,48,48,48,48,48,48,48,49,109,109],[75,71]]
def txS (t:List Int) (row:Row) (k:Nat):List UInt8:=numM t k++row.getD (pk t (numK t k) row.length).toNat []
def txM (t:List Int) (row:Row) (k:Nat):List UInt8:=if pk t (numK t k+1) 9=0 then (oddU (txS t row k)).getD (pk t (numK t k+2) 5).toNat [] else txS t row k
def txK (t:List Int) (k:Nat):Nat:=if pk t (numK t k+1) 9=0 then numK t k+3 else numK t k+2
def muCel (t:List Int) (row:Row) (k:Nat):Cel:=if pk t (txK t k) 9=0 then ([],true) else (txM t row k,false)
def muL (t:List Int) (row:Row):Nat→Nat→List Cel × Nat
 | 0,k=>([],k)
 | n+1,k=>(muCel t row k::(muL t row n (txK t k+1)).1,(muL t row n (txK t k+1)).2)
def unR (t:List Int) (k:Nat):Row:=unitsR.getD (pk t k 5).toNat []
def madeU (t:List Int) (k:Nat):List Cel:=(muL t (unR t k) (pk t (k+1) 7).toNat (k+2)).1
def madeUK (t:List Int) (k:Nat):Nat:=(muL t (unR t k) (pk t (k+1) 7).toNat (k+2)).2
theorem unR_ok (t:List Int) (k:Nat):1≤(unR t k).length∧(unR t k).length≤4∧∀ s∈unR t k,s.length≤4:=by
 have h:∀ r∈unitsR,1≤r.length∧r.length≤4∧∀ s∈r,s.length≤4:=by decide
 have h2:=@pk_range t k 5 (by decide)
 exact h _ (memD (d:=[]) (show (pk t k 5).toNat<unitsR.length from by rw [show unitsR.length=5 from rfl];omega))
theorem txS_len (t:List Int) {row:Row} (hr:∀ s∈row,s.length≤4) (k:Nat):(txS t row k).length≤24:=by
 have h1:=numM_len t k
 have h2:=get_len hr (pk t (numK t k) row.length).toNat
 unfold txS
 rw [List.length_append];omega
theorem oddU_len {s:List UInt8} (h:s.length≤24):∀ x∈oddU s,x.length≤26:=by
 intro x hx
 unfold oddU at hx
 simp only [List.mem_cons,List.not_mem_nil,or_false] at hx
 rcases hx with e | e | e | e | e<;>subst e<;>simp<;>omega
theorem txM_len (t:List Int) {row:Row} (hr:∀ s∈row,s.length≤4) (k:Nat):(txM t row k).length≤26:=by
 have h1:=txS_len t hr k
 have h2:=get_len (oddU_len h1) (pk t (numK t k+2) 5).toNat
 unfold txM
 split<;>omega
theorem muL_ok (t:List Int) {row:Row} (hr:∀ s∈row,s.length≤4):∀ n k,(muL t row n k).1.length=n∧∀ x∈(muL t row n k).1,x.1.length≤26
 | 0,k=>⟨rfl,fun x h=>by cases h⟩
 | n+1,k=>by
   rw [muL]
   have ih:=muL_ok t hr n (txK t k+1)
   refine ⟨by rw [List.length_cons,ih.1],fun x hx=>?_⟩
   rcases List.mem_cons.1 hx with e | hx
   ·rw [e]
    have:=txM_len t hr k
    unfold muCel
    split
    ·simp
    ·exact this
   ·exact ih.2 x hx
theorem madeU_ok (t:List Int) (k:Nat):(madeU t k).length≤6∧∀ x∈madeU t k,x.1.length≤26:=by
 have h1:=muL_ok t (unR_ok t k).2.2 (pk t (k+1) 7).toNat (k+2)
 have h2:=@pk_range t (k+1) 7 (by decide)
 unfold madeU
 exact ⟨by omega,h1.2⟩
theorem madeU_okU (t:List Int) (k:Nat):okU (madeU t k):=⟨by have:=(madeU_ok t k).1;omega,fun x hx=>by have:=(madeU_ok t k).2 x hx;omega⟩
theorem row_unR:[D.sl 3 false (cut [D.str ⟨#[32,107,103]⟩,D.str ⟨#[103]⟩,D.str ⟨#[116]⟩] 0 3),D.sl 4 false (cut [D.str ⟨#[107,109]⟩,D.str ⟨#[32,109]⟩,D.str ⟨#[99,109]⟩,D.str ⟨#[32,32,109,109]⟩] 0 4),D.sl 4 false (cut [D.str ⟨#[32,115]⟩,D.str ⟨#[109,105,110]⟩,D.str ⟨#[104]⟩,D.str ⟨#[109,115]⟩] 0 4),D.sl 1 false [D.str ⟨#[37]⟩],D.sl 4 false (cut [D.str ⟨#[]⟩,D.str ⟨#[32,107,103]⟩,D.str ⟨#[109]⟩,D.str ⟨#[37]⟩] 0 4)]=rowsD unitsR:=rfl
theorem row_oddU (s:List UInt8):[D.str (bs (32::(s++[32]))),D.str (bs (s++[120])),D.str ⟨#[57,57,57,57,57,57,57,57,57,57,57,57,57,57,57,32,107,109]⟩,D.str ⟨#[48,46,48,48,48,48,48,48,48,48,49,109,109]⟩,D.str ⟨#[75,71]⟩]=strs (oddU s):=rfl
theorem celsD_setU {l:List Cel} {x y:Cel}:(celsD (l++[x])).take (l.length*2)++CelC y++(celsD (l++[x])).drop (l.length*2+2)=celsD (l++[y]):=by
 have e:celsD (l++[x])=celsD l++CelC x:=by simp [celsD]
 have e2:celsD (l++[y])=celsD l++CelC y:=by simp [celsD]
 have ll:=celsD_length l
 rw [e,e2,List.take_append_of_le_length (by omega),List.take_of_length_le (by omega),List.drop_append,List.drop_of_length_le (by omega),show l.length*2+2 - (celsD l).length=2 by omega]
 simp
theorem celsD_pushU (a:List Cel) (x:Cel):celsD a++[.bool x.2,S x.1]=celsD (a++[x]):=by simp [celsD]
set_option maxHeartbeats 16000000 in
set_option maxRecDepth 100000 in
theorem umade_spec (t:List Int) (k:Nat) (ht:OkM t) :
  Ctr Tryz.prog G 9 [.ptr 0 0] [DiceM t k] (.d (.agg [S [99],CelS (madeU t k) false])) [DiceM t (madeUK t k)]:=by
 obtain ⟨r,hr⟩:∃ r,r=madeU t k:=⟨_,rfl⟩
 obtain ⟨k2,hk⟩:∃ k2,k2=madeUK t k:=⟨_,rfl⟩
 rw [← hr,← hk]
 unfold madeU at hr
 unfold madeUK at hk
 have rok:=unR_ok t k
 unfold unR at hr hk rok
 refine Ctr.body (M:=M0) hmix Tryz.func9 rfl go9 ?_
 obtain ⟨ri,hc,hc2⟩:=pk_nat t k 5 (by decide)
 obtain ⟨m,hm,hm2⟩:=pk_nat t (k+1) 7 (by decide)
 rw [hc,hm,Int.toNat_natCast,Int.toNat_natCast] at hr hk
 rw [hc,Int.toNat_natCast] at rok
 have gr:=rowsD_getD (g:=unitsR) (i:=ri) (by rw [show unitsR.length=5 from rfl];omega)
 generalize unitsR.getD ri []=row at *
 have rl:=@strs_length row
 have ul:(rowsD unitsR).length=5:=rfl
 have hb0:ByteArray.empty=bs []:=rfl
 simp (config:={maxSteps:=1000000}) (disch:=((try simp only [awL]);omega)) only [QR,QS,QT,QU,QV,QW,QX,QY,QZ,Q0,Q1,Q2,Tryz.f9,↓awU,awV,awF,Qa,Qb,Qc,Qd,forall_const,↓reduceIte,↓reduceDIte,↓Qe,Qf,Qg,Qh,Qi,Qj,Qk,Ql,Qm,Qn,Qo,Qp,Qq,Qr,Qs,implies_true,Qt,Qu,Qv,Qw,Qx,Qy,Qz,QA,QB,QC,QD,QE,QF,QG,QH,QI,QJ,QK,QL,QM,QN,QO,QP,QQ]
 rw [row_unR]
 refine CallC.by (pick_spec t k 5 ht (by decide) (by decide)) (by rfl) (by rfl) (Nat.le_refl _) ?_
 rw [hc]
 simp (config:={maxSteps:=1000000}) (disch:=((try simp only [awL]);omega)) only [QR,QS,QT,QU,QV,QW,QX,QY,QZ,Q0,Q1,Q2,gr,ul,rl,rowsD_unf,↓awU,awV,awF,Qa,Qb,Qc,Qd,forall_const,↓reduceIte,↓reduceDIte,↓Qe,Qf,Qg,Qh,Qi,Qj,Qk,Ql,Qm,Qn,Qo,Qp,Qq,Qr,Qs,implies_true,Qt,Qu,Qv,Qw,Qx,Qy,Qz,QA,QB,QC,QD,QE,QF,QG,QH,QI,QJ,QK,QL,QM,QN,QO,QP,QQ]
 refine CallC.by (pick_spec t (k+1) 7 ht (by decide) (by decide)) (by rfl) (by rfl) (Nat.le_refl _) ?_
 rw [hm]
 simp (config:={maxSteps:=1000000}) (disch:=((try simp only [awL]);omega)) only [QR,QS,QT,QU,QV,QW,QX,QY,QZ,Q0,Q1,Q2,rl,↓awU,awV,awF,Qa,Qb,Qc,Qd,forall_const,↓reduceIte,↓reduceDIte,↓Qe,Qf,Qg,Qh,Qi,Qj,Qk,Ql,Qm,Qn,Qo,Qp,Qq,Qr,Qs,implies_true,Qt,Qu,Qv,Qw,Qx,Qy,Qz,QA,QB,QC,QD,QE,QF,QG,QH,QI,QJ,QK,QL,QM,QN,QO,QP,QQ]
 refine LoopC.fr 29 (α:=List Cel × Nat × Nat) (fun x=>x.2.1) (fun x=>[(5,.d (.int .i64 (x.2.1:Nat)))]) (fun x=>[DiceM t x.2.2,.box [.d (.str ByteArray.empty),.d (.sl 0 true [])],.box [.d (S [99]),.lsl 3 2 0 x.1.length],.row false (celsD x.1)])
  (fun x=>x.1.length+x.2.1≤6∧r=x.1++(muL t row x.2.1 x.2.2).1∧k2=(muL t row x.2.1 x.2.2).2) ([],m,k+2) ⟨by simp only [List.length_nil];omega,hr,hk⟩ ?_ ?_
 ·exact ⟨[some 0,some 1,some 2,none],rfl,by simp,by simp [setsA,keepA,SWeak,AWeak],by simp [HWeak,BWeak,SWeak,AWeak,celsD]⟩
 ·rintro ⟨acc,n,p⟩ ⟨h1,h2,h3⟩
  simp only at h1 h2 h3
  have al:=celsD_length acc
  simp only [awK,Nat.reduceMod,Nat.reduceDiv,reduceIte]
  match n with
  | 0 =>
   simp only [muL,List.append_nil] at h2 h3
   subst h2 h3
   have cu:cut (celsD r) 0 (r.length*2)=celsD r:=by unfold cut;rw [List.drop_zero,List.take_of_length_le (by omega)]
   simp (config:={maxSteps:=1000000}) (disch:=((try simp only [awL]);omega)) only [QR,QS,QT,QU,QV,QW,QX,QY,QZ,Q0,Q1,Q2,al,cu,↓awU,awV,awF,Qa,Qb,Qc,Qd,forall_const,↓reduceIte,↓reduceDIte,↓Qe,Qf,Qg,Qh,Qi,Qj,Qk,Ql,Qm,Qn,Qo,Qp,Qq,Qr,Qs,implies_true,Qt,Qu,Qv,Qw,Qx,Qy,Qz,QA,QB,QC,QD,QE,QF,QG,QH,QI,QJ,QK,QL,QM,QN,QO,QP,QQ]
   refine ⟨[some 0],rfl,by simp,by simp [HWeak,BWeak,SWeak,AWeak],.inr ⟨_,rfl,?_,rfl⟩⟩
   simp (config:={maxSteps:=1000000}) (disch:=((try simp only [awL]);omega)) only [QR,QS,QT,QU,QV,QW,QX,QY,QZ,Q0,Q1,Q2,cu,↓awU,awV,awF,Qa,Qb,Qc,Qd,forall_const,↓reduceIte,↓reduceDIte,↓Qe,Qf,Qg,Qh,Qi,Qj,Qk,Ql,Qm,Qn,Qo,Qp,Qq,Qr,Qs,implies_true,Qt,Qu,Qv,Qw,Qx,Qy,Qz,QA,QB,QC,QD,QE,QF,QG,QH,QI,QJ,QK,QL,QM,QN,QO,QP,QQ]
   try rfl
  | n+1 =>
   simp only [muL] at h2 h3
   unfold muCel txM txS txK at h2
   unfold txK at h3
   simp (config:={maxSteps:=1000000}) (disch:=((try simp only [awL]);omega)) only [QR,QS,QT,QU,QV,QW,QX,QY,QZ,Q0,Q1,Q2,rl,↓awU,awV,awF,Qa,Qb,Qc,Qd,forall_const,↓reduceIte,↓reduceDIte,↓Qe,Qf,Qg,Qh,Qi,Qj,Qk,Ql,Qm,Qn,Qo,Qp,Qq,Qr,Qs,implies_true,Qt,Qu,Qv,Qw,Qx,Qy,Qz,QA,QB,QC,QD,QE,QF,QG,QH,QI,QJ,QK,QL,QM,QN,QO,QP,QQ]
   refine CallC.by (number_spec t p ht) (by rfl) (by rfl) (Nat.le_refl _) ?_
   have nl:=(numM_len t p).2
   generalize numM t p=nn at *
   generalize numK t p=p1 at *
   simp (config:={maxSteps:=1000000}) (disch:=((try simp only [awL]);omega)) only [QR,QS,QT,QU,QV,QW,QX,QY,QZ,Q0,Q1,Q2,rl,↓awU,awV,awF,Qa,Qb,Qc,Qd,forall_const,↓reduceIte,↓reduceDIte,↓Qe,Qf,Qg,Qh,Qi,Qj,Qk,Ql,Qm,Qn,Qo,Qp,Qq,Qr,Qs,implies_true,Qt,Qu,Qv,Qw,Qx,Qy,Qz,QA,QB,QC,QD,QE,QF,QG,QH,QI,QJ,QK,QL,QM,QN,QO,QP,QQ]
   refine CallC.by (pick_spec t p1 row.length ht (by omega) (by omega)) (by rfl) (by rfl) (Nat.le_refl _) ?_
   obtain ⟨ui,hu,hu2⟩:=pk_nat t p1 row.length (by omega)
   rw [hu] at h2 ⊢
   rw [Int.toNat_natCast] at h2
   have gu:=strs_getD (l:=row) (i:=ui) (by omega)
   have ull:=get_len rok.2.2 ui
   generalize row.getD ui []=uu at *
   simp (config:={maxSteps:=1000000}) (disch:=((try simp only [awL]);omega)) only [QR,QS,QT,QU,QV,QW,QX,QY,QZ,Q0,Q1,Q2,rl,gu,↓awU,awV,awF,Qa,Qb,Qc,Qd,forall_const,↓reduceIte,↓reduceDIte,↓Qe,Qf,Qg,Qh,Qi,Qj,Qk,Ql,Qm,Qn,Qo,Qp,Qq,Qr,Qs,implies_true,Qt,Qu,Qv,Qw,Qx,Qy,Qz,QA,QB,QC,QD,QE,QF,QG,QH,QI,QJ,QK,QL,QM,QN,QO,QP,QQ]
   generalize hs:nn++uu=s at *
   have sl:s.length≤24:=by rw [← hs,List.length_append];omega
   refine CallC.by (pick_spec t (p1+1) 9 ht (by decide) (by decide)) (by rfl) (by rfl) (Nat.le_refl _) ?_
   by_cases e9:pk t (p1+1) 9=0
   ·simp only [if_pos e9] at h2 h3
    rw [e9]
    obtain ⟨oi,ho,ho2⟩:=pk_nat t (p1+2) 5 (by decide)
    rw [ho,Int.toNat_natCast] at h2
    have go:=strs_getD (l:=oddU s) (i:=oi) (by rw [show (oddU s).length=5 from rfl];omega)
    have ol:=@strs_length (oddU s)
    have ol5:(oddU s).length=5:=rfl
    have ogl:=get_len (oddU_len sl) oi
    generalize (oddU s).getD oi []=x at *
    simp (config:={maxSteps:=1000000}) (disch:=((try simp only [awL]);omega)) only [QR,QS,QT,QU,QV,QW,QX,QY,QZ,Q0,Q1,Q2,↓awU,awV,awF,Qa,Qb,Qc,Qd,forall_const,↓reduceIte,↓reduceDIte,↓Qe,Qf,Qg,Qh,Qi,Qj,Qk,Ql,Qm,Qn,Qo,Qp,Qq,Qr,Qs,implies_true,Qt,Qu,Qv,Qw,Qx,Qy,Qz,QA,QB,QC,QD,QE,QF,QG,QH,QI,QJ,QK,QL,QM,QN,QO,QP,QQ]
    rw [row_oddU s]
    refine CallC.by (pick_spec t (p1+1+1) 5 ht (by decide) (by decide)) (by rfl) (by rfl) (Nat.le_refl _) ?_
    rw [show p1+1+1=p1+2 from rfl,ho]
    simp (config:={maxSteps:=1000000}) (disch:=((try simp only [awL]);omega)) only [QR,QS,QT,QU,QV,QW,QX,QY,QZ,Q0,Q1,Q2,ol,ol5,go,↓awU,awV,awF,Qa,Qb,Qc,Qd,forall_const,↓reduceIte,↓reduceDIte,↓Qe,Qf,Qg,Qh,Qi,Qj,Qk,Ql,Qm,Qn,Qo,Qp,Qq,Qr,Qs,implies_true,Qt,Qu,Qv,Qw,Qx,Qy,Qz,QA,QB,QC,QD,QE,QF,QG,QH,QI,QJ,QK,QL,QM,QN,QO,QP,QQ]
    have sp:=celsD_pushU acc (x,false)
    have tl:(acc++[(x,false)]).length=acc.length+1:=by simp
    have st:=@celsD_setU acc (x,false) ([],true)
    simp only at sp
    have cu2:cut [D.bool false,D.str (bs x)] 0 2=[D.bool false,D.str (bs x)]:=rfl
    simp (config:={maxSteps:=1000000}) (disch:=((try simp only [awL]);omega)) only [QR,QS,QT,QU,QV,QW,QX,QY,QZ,Q0,Q1,Q2,al,cu2,sp,List.length_cons,List.length_nil,↓awU,awV,awF,Qa,Qb,Qc,Qd,forall_const,↓reduceIte,↓reduceDIte,↓Qe,Qf,Qg,Qh,Qi,Qj,Qk,Ql,Qm,Qn,Qo,Qp,Qq,Qr,Qs,implies_true,Qt,Qu,Qv,Qw,Qx,Qy,Qz,QA,QB,QC,QD,QE,QF,QG,QH,QI,QJ,QK,QL,QM,QN,QO,QP,QQ]
    try refine ⟨by rfl,?_⟩
    refine CallC.by (pick_spec t (p1+3) 9 ht (by decide) (by decide)) (by rfl) (by rfl) (Nat.le_refl _) ?_
    by_cases q:pk t (p1+3) 9=0
    ·rw [if_pos q] at h2
     rw [q]
     have h4:r=(acc++[([],true)])++(muL t row n ((p1+3)+1)).1:=by rw [h2];simp
     have tl2:(acc++[(([],true):Cel)]).length=acc.length+1:=by simp
     generalize acc++[(x,false)]=acc1 at *
     generalize acc++[(([],true):Cel)]=acc2 at *
     simp (config:={maxSteps:=1000000}) (disch:=((try simp only [awL]);omega)) only [QR,QS,QT,QU,QV,QW,QX,QY,QZ,Q0,Q1,Q2,al,tl,↓awU,awV,awF,Qa,Qb,Qc,Qd,forall_const,↓reduceIte,↓reduceDIte,↓Qe,Qf,Qg,Qh,Qi,Qj,Qk,Ql,Qm,Qn,Qo,Qp,Qq,Qr,Qs,implies_true,Qt,Qu,Qv,Qw,Qx,Qy,Qz,QA,QB,QC,QD,QE,QF,QG,QH,QI,QJ,QK,QL,QM,QN,QO,QP,QQ]
     have st2:List.take (acc.length*2) (celsD acc1)++[D.bool true,D.str ByteArray.empty]++List.drop (acc.length*2+2) (celsD acc1)=celsD acc2:=st
     rw [st2]
     exact ⟨by rw [celsD_length];omega,(acc2,n,(p1+3)+1),⟨by simp only;omega,h4,h3⟩,by simp only;omega,⟨[some 0,some 1,some 2,some 6],rfl,by simp,by simp [setsA,keepA,SWeak,AWeak],by simp [HWeak,BWeak,SWeak,AWeak,tl2]⟩⟩
    ·rw [if_neg q] at h2
     have q0:(pk t (p1+3) 9=0)=False:=eq_false q
     have h4:r=(acc++[(x,false)])++(muL t row n ((p1+3)+1)).1:=by rw [h2];simp
     generalize acc++[(x,false)]=acc2 at *
     simp (config:={maxSteps:=1000000}) (disch:=((try simp only [awL]);omega)) only [QR,QS,QT,QU,QV,QW,QX,QY,QZ,Q0,Q1,Q2,al,q0,↓awU,awV,awF,Qa,Qb,Qc,Qd,forall_const,↓reduceIte,↓reduceDIte,↓Qe,Qf,Qg,Qh,Qi,Qj,Qk,Ql,Qm,Qn,Qo,Qp,Qq,Qr,Qs,implies_true,Qt,Qu,Qv,Qw,Qx,Qy,Qz,QA,QB,QC,QD,QE,QF,QG,QH,QI,QJ,QK,QL,QM,QN,QO,QP,QQ]
     first
     | exact ⟨(acc2,n,(p1+3)+1),⟨by simp only;omega,h4,h3⟩,by simp only;omega,⟨[some 0,some 1,some 2,some 6],rfl,by simp,by simp [setsA,keepA,SWeak,AWeak],by simp [HWeak,BWeak,SWeak,AWeak,tl]⟩⟩
   ·have e90:(pk t (p1+1) 9=0)=False:=eq_false e9
    simp only [if_neg e9] at h2 h3
    simp (config:={maxSteps:=1000000}) (disch:=((try simp only [awL]);omega)) only [QR,QS,QT,QU,QV,QW,QX,QY,QZ,Q0,Q1,Q2,e90,↓awU,awV,awF,Qa,Qb,Qc,Qd,forall_const,↓reduceIte,↓reduceDIte,↓Qe,Qf,Qg,Qh,Qi,Qj,Qk,Ql,Qm,Qn,Qo,Qp,Qq,Qr,Qs,implies_true,Qt,Qu,Qv,Qw,Qx,Qy,Qz,QA,QB,QC,QD,QE,QF,QG,QH,QI,QJ,QK,QL,QM,QN,QO,QP,QQ]
    have sp:=celsD_pushU acc (s,false)
    have tl:(acc++[(s,false)]).length=acc.length+1:=by simp
    have st:=@celsD_setU acc (s,false) ([],true)
    simp only at sp
    have cu2:cut [D.bool false,D.str (bs s)] 0 2=[D.bool false,D.str (bs s)]:=rfl
    simp (config:={maxSteps:=1000000}) (disch:=((try simp only [awL]);omega)) only [QR,QS,QT,QU,QV,QW,QX,QY,QZ,Q0,Q1,Q2,al,cu2,sp,List.length_cons,List.length_nil,↓awU,awV,awF,Qa,Qb,Qc,Qd,forall_const,↓reduceIte,↓reduceDIte,↓Qe,Qf,Qg,Qh,Qi,Qj,Qk,Ql,Qm,Qn,Qo,Qp,Qq,Qr,Qs,implies_true,Qt,Qu,Qv,Qw,Qx,Qy,Qz,QA,QB,QC,QD,QE,QF,QG,QH,QI,QJ,QK,QL,QM,QN,QO,QP,QQ]
    try refine ⟨by rfl,?_⟩
    refine CallC.by (pick_spec t (p1+2) 9 ht (by decide) (by decide)) (by rfl) (by rfl) (Nat.le_refl _) ?_
    by_cases q:pk t (p1+2) 9=0
    ·rw [if_pos q] at h2
     rw [q]
     have h4:r=(acc++[([],true)])++(muL t row n ((p1+2)+1)).1:=by rw [h2];simp
     have tl2:(acc++[(([],true):Cel)]).length=acc.length+1:=by simp
     generalize acc++[(s,false)]=acc1 at *
     generalize acc++[(([],true):Cel)]=acc2 at *
     simp (config:={maxSteps:=1000000}) (disch:=((try simp only [awL]);omega)) only [QR,QS,QT,QU,QV,QW,QX,QY,QZ,Q0,Q1,Q2,al,tl,↓awU,awV,awF,Qa,Qb,Qc,Qd,forall_const,↓reduceIte,↓reduceDIte,↓Qe,Qf,Qg,Qh,Qi,Qj,Qk,Ql,Qm,Qn,Qo,Qp,Qq,Qr,Qs,implies_true,Qt,Qu,Qv,Qw,Qx,Qy,Qz,QA,QB,QC,QD,QE,QF,QG,QH,QI,QJ,QK,QL,QM,QN,QO,QP,QQ]
     have st2:List.take (acc.length*2) (celsD acc1)++[D.bool true,D.str ByteArray.empty]++List.drop (acc.length*2+2) (celsD acc1)=celsD acc2:=st
     rw [st2]
     exact ⟨by rw [celsD_length];omega,(acc2,n,(p1+2)+1),⟨by simp only;omega,h4,h3⟩,by simp only;omega,⟨[some 0,some 1,some 2,some 5],rfl,by simp,by simp [setsA,keepA,SWeak,AWeak],by simp [HWeak,BWeak,SWeak,AWeak,tl2]⟩⟩
    ·rw [if_neg q] at h2
     have q0:(pk t (p1+2) 9=0)=False:=eq_false q
     have h4:r=(acc++[(s,false)])++(muL t row n ((p1+2)+1)).1:=by rw [h2];simp
     generalize acc++[(s,false)]=acc2 at *
     simp (config:={maxSteps:=1000000}) (disch:=((try simp only [awL]);omega)) only [QR,QS,QT,QU,QV,QW,QX,QY,QZ,Q0,Q1,Q2,al,q0,↓awU,awV,awF,Qa,Qb,Qc,Qd,forall_const,↓reduceIte,↓reduceDIte,↓Qe,Qf,Qg,Qh,Qi,Qj,Qk,Ql,Qm,Qn,Qo,Qp,Qq,Qr,Qs,implies_true,Qt,Qu,Qv,Qw,Qx,Qy,Qz,QA,QB,QC,QD,QE,QF,QG,QH,QI,QJ,QK,QL,QM,QN,QO,QP,QQ]
     first
     | exact ⟨(acc2,n,(p1+2)+1),⟨by simp only;omega,h4,h3⟩,by simp only;omega,⟨[some 0,some 1,some 2,some 5],rfl,by simp,by simp [setsA,keepA,SWeak,AWeak],by simp [HWeak,BWeak,SWeak,AWeak,tl]⟩⟩
end Go.Proofs.YtkcghbpghjdgpaaGreatDoor
namespace Go.Proofs.YtkcghbpghjdgpaaGreatDoor
open Go Go.Proofs Go.Abs
variable {G:Globals}
def baseU (l:List Cel):List UInt8:=takeU (toU (optsU l))
theorem utakeO_spec (l:List Cel):Ctr Tryz.prog G 10 [.d (.sl 4 false (optC (optsU l)))] [] (.d (S (baseU l))) []:=by
 have h:=utake_spec (G:=G) (toU (optsU l)) false (by rw [toU_len];show 4≤1000000;decide)
 rw [ouC_to,toU_len] at h
 exact h
def goodO (o:Opt):Bool:=decide (0<o.fr) && decide (o.ag=0)
def okB (l:List Cel) (b:List UInt8):Bool:=goodO (optU l b)
def exU:List Cel:=[([50,46,53,32,107,109],false),([51,48,48,32,109],false),([52,99,109],false)]
theorem exU_ok:okU exU:=⟨by decide,by decide⟩
theorem exU_base:baseU exU=[109]:=by decide +kernel
theorem exU_e:uapE [109] exU=0:=by decide +kernel
theorem exU_l:uapL [109] exU=[([50,53,48,48],false),([51,48,48],false),([48,46,48,52],false)]:=by decide +kernel
set_option maxHeartbeats 16000000 in
set_option maxRecDepth 100000 in
theorem usane_spec (hG:Num.HG G) (hU:HU G) (hB:HB G):Ctr Tryz.prog G 7 [] [] (.d (.bool true)) []:=by
 refine Ctr.pure (M:=M0) hmix Tryz.func7 rfl go7 ?_
 have o1:=uoptions_spec hG hU hB [] exU false exU_ok
 have t1:=utakeO_spec (G:=G) exU
 rw [exU_base] at t1
 have a1:=uapply_spec hG hU hB [] exU false exU_ok [109]
 unfold uapR at a1
 rw [exU_e,exU_l,if_pos rfl] at a1
 have a1:Ctr Tryz.prog G 12 [.d (.agg [S [],CelS exU false]),.d (S [109])] [] (.d (.tup [.agg [S [],.sl 3 false [.bool false,S [50,53,48,48],.bool false,S [51,48,48],.bool false,S [48,46,48,52]]],.int .i64 0])) []:=a1
 have k1:=known_spec hB [107,103]
 have k2:=known_spec hB [103]
 rw [show decide (([107,103]:List UInt8)∈basesL)=true from rfl] at k1
 rw [show decide (([103]:List UInt8)∈basesL)=false from rfl] at k2
 simp (config:={maxSteps:=1000000}) (disch:=((try simp only [awL]);omega)) only [QR,QS,QT,QU,QV,QW,QX,QY,QZ,Q0,Q1,Q2,Tryz.f7,↓awU,awV,awF,Qa,Qb,Qc,Qd,forall_const,↓reduceIte,↓reduceDIte,↓Qe,Qf,Qg,Qh,Qi,Qj,Qk,Ql,Qm,Qn,Qo,Qp,Qq,Qr,Qs,implies_true,Qt,Qu,Qv,Qw,Qx,Qy,Qz,QA,QB,QC,QD,QE,QF,QG,QH,QI,QJ,QK,QL,QM,QN,QO,QP,QQ]
 refine CallC.frozenE o1 (by rfl) ?_
 generalize hO:optC (optsU exU)=O at *
 simp (config:={maxSteps:=1000000}) (disch:=((try simp only [awL]);omega)) only [QR,QS,QT,QU,QV,QW,QX,QY,QZ,Q0,Q1,Q2,↓awU,awV,awF,Qa,Qb,Qc,Qd,forall_const,↓reduceIte,↓reduceDIte,↓Qe,Qf,Qg,Qh,Qi,Qj,Qk,Ql,Qm,Qn,Qo,Qp,Qq,Qr,Qs,implies_true,Qt,Qu,Qv,Qw,Qx,Qy,Qz,QA,QB,QC,QD,QE,QF,QG,QH,QI,QJ,QK,QL,QM,QN,QO,QP,QQ]
 refine CallC.of t1 (by rfl) ?_
 simp (config:={maxSteps:=1000000}) (disch:=((try simp only [awL]);omega)) only [QR,QS,QT,QU,QV,QW,QX,QY,QZ,Q0,Q1,Q2,↓awU,awV,awF,Qa,Qb,Qc,Qd,forall_const,↓reduceIte,↓reduceDIte,↓Qe,Qf,Qg,Qh,Qi,Qj,Qk,Ql,Qm,Qn,Qo,Qp,Qq,Qr,Qs,implies_true,Qt,Qu,Qv,Qw,Qx,Qy,Qz,QA,QB,QC,QD,QE,QF,QG,QH,QI,QJ,QK,QL,QM,QN,QO,QP,QQ]
 refine CallC.frozenE a1 (by rfl) ?_
 simp (config:={maxSteps:=1000000}) (disch:=((try simp only [awL]);omega)) only [QR,QS,QT,QU,QV,QW,QX,QY,QZ,Q0,Q1,Q2,↓awU,awV,awF,Qa,Qb,Qc,Qd,forall_const,↓reduceIte,↓reduceDIte,↓Qe,Qf,Qg,Qh,Qi,Qj,Qk,Ql,Qm,Qn,Qo,Qp,Qq,Qr,Qs,implies_true,Qt,Qu,Qv,Qw,Qx,Qy,Qz,QA,QB,QC,QD,QE,QF,QG,QH,QI,QJ,QK,QL,QM,QN,QO,QP,QQ]
 refine ⟨by rfl,?_⟩
 refine CallC.of k1 (by rfl) ?_
 simp (config:={maxSteps:=1000000}) (disch:=((try simp only [awL]);omega)) only [QR,QS,QT,QU,QV,QW,QX,QY,QZ,Q0,Q1,Q2,↓awU,awV,awF,Qa,Qb,Qc,Qd,forall_const,↓reduceIte,↓reduceDIte,↓Qe,Qf,Qg,Qh,Qi,Qj,Qk,Ql,Qm,Qn,Qo,Qp,Qq,Qr,Qs,implies_true,Qt,Qu,Qv,Qw,Qx,Qy,Qz,QA,QB,QC,QD,QE,QF,QG,QH,QI,QJ,QK,QL,QM,QN,QO,QP,QQ]
 refine CallC.of k2 (by rfl) ?_
 simp (config:={maxSteps:=1000000}) (disch:=((try simp only [awL]);omega)) only [QR,QS,QT,QU,QV,QW,QX,QY,QZ,Q0,Q1,Q2,↓awU,awV,awF,Qa,Qb,Qc,Qd,forall_const,↓reduceIte,↓reduceDIte,↓Qe,Qf,Qg,Qh,Qi,Qj,Qk,Ql,Qm,Qn,Qo,Qp,Qq,Qr,Qs,implies_true,Qt,Qu,Qv,Qw,Qx,Qy,Qz,QA,QB,QC,QD,QE,QF,QG,QH,QI,QJ,QK,QL,QM,QN,QO,QP,QQ]
 first | done | rfl | decide
end Go.Proofs.YtkcghbpghjdgpaaGreatDoor
namespace Go.Proofs.YtkcghbpghjdgpaaGreatDoor
open Go Go.Proofs Go.Abs
variable {G:Globals}
theorem cutA (L:List D) (n:Nat) (h:L.length≤n):cut L 0 n=L:=by unfold cut;rw [List.drop_zero,List.take_of_length_le h]
end Go.Proofs.YtkcghbpghjdgpaaGreatDoor
namespace Go.Proofs.YtkcghbpghjdgpaaGreatDoor
open Go Go.Proofs Go.Abs
namespace Decs
abbrev dg (b:UInt8):Bool:=Num.dig10.contains b
theorem cutL_num (c:UInt8):∀ s:List UInt8,cutL c s=Num.cutL c s
 | []=>rfl
 | b::l=>by rw [cutL,Num.cutL,cutL_num c l]
theorem cutR_num (c:UInt8):∀ s:List UInt8,cutR c s=Num.cutR c s
 | []=>rfl
 | b::l=>by rw [cutR,Num.cutR,cutR_num c l]
theorem dg_ne {b:UInt8} (h:dg b=true):b≠46∧b≠45∧b≠43∧b≠32∧b≠47:=by
 have:=Num.dig_range h
 refine ⟨?_,?_,?_,?_,?_⟩<;>rintro rfl<;>revert this<;>decide
structure Dig2 (F B:List UInt8):Prop where
 f1:1≤F.length
 fd:∀ b∈F,dg b=true
 bd:∀ b∈B,dg b=true
structure Dec (F B:List UInt8):Prop where
 f1:1≤F.length
 f2:F.length≤15
 fd:∀ b∈F,dg b=true
 b2:B.length≤9
 bd:∀ b∈B,dg b=true
theorem Dec.two {F B:List UInt8} (h:Dec F B):Dig2 F B:=⟨h.f1,h.fd,h.bd⟩
def pt (F B:List UInt8):List UInt8:=F++(if B=[] then [] else 46::B)
theorem cutL_pt {F:List UInt8} (h:∀ b∈F,dg b=true) (X:List UInt8):Num.cutL 46 (F++46::X)=F∧Num.cutR 46 (F++46::X)=X:=by
 induction F with
 | nil=>simp [Num.cutL,Num.cutR]
 | cons b l ih =>
  have hb:=(dg_ne (h b (List.mem_cons_self ..))).1
  have:=ih (fun c hc=>h c (List.mem_cons_of_mem _ hc))
  rw [List.cons_append,Num.cutL,Num.cutR,if_neg hb,if_neg hb,this.1,this.2]
  exact ⟨rfl,rfl⟩
theorem cut_none {F:List UInt8} (h:∀ b∈F,dg b=true):(46:UInt8)∉F∧Num.cutL 46 F=F∧Num.cutR 46 F=[]:=by
 have hn:(46:UInt8)∉F:=fun hm=>(dg_ne (h _ hm)).1 rfl
 exact ⟨hn,((Num.cut_index 46 F).2 hn).2⟩
theorem pt_cut {F B:List UInt8} (h:Dig2 F B):Num.cutL 46 (pt F B)=F∧Num.cutR 46 (pt F B)=B∧(46∈pt F B↔B≠[]):=by
 unfold pt
 by_cases e:B=[]
 ·rw [if_pos e,List.append_nil]
  have:=cut_none h.fd
  exact ⟨this.2.1,by rw [this.2.2,e],⟨fun q=>absurd q this.1,fun q=>absurd e q⟩⟩
 ·rw [if_neg e]
  have:=cutL_pt h.fd B
  exact ⟨this.1,this.2,⟨fun _=>e,fun _=>by simp⟩⟩
theorem pt_head {F B:List UInt8} (h:Dig2 F B):∃ b l,pt F B=b::l∧dg b=true:=by
 obtain ⟨b,l,e⟩:∃ b l,F=b::l:=by
  match F,h.f1 with
  | b::l,_=>exact ⟨b,l,rfl⟩
 refine ⟨b,l++(if B=[] then [] else 46::B),by unfold pt;rw [e];rfl,h.fd b (by rw [e];exact List.mem_cons_self ..)⟩
def sg (c:Option UInt8) (o:List UInt8):List UInt8:=match c with | none=>o | some c=>c::o
theorem hasP_ne {b c:UInt8} {l:List UInt8} (h:b≠c):Num.hasP (b::l) [c]=false:=by
 unfold Num.hasP
 exact decide_eq_false (by simpa using h)
theorem hasP_eq {c:UInt8} {l:List UInt8}:Num.hasP (c::l) [c]=true:=by
 unfold Num.hasP
 exact decide_eq_true (by simp)
theorem body_sg {F B:List UInt8} (h:Dig2 F B) {c:Option UInt8} (hc:c=none∨c=some 45∨c=some 43):Num.decBody (sg c (pt F B))=pt F B∧Num.decNeg (sg c (pt F B))=decide (c=some 45)∧Num.trimL [43,45] (sg c (pt F B))=pt F B∧((sg c (pt F B)).getD 0 0=45↔c=some 45):=by
 obtain ⟨b,l,e,hb⟩:=pt_head h
 have hn:=dg_ne hb
 have tb:Num.trimL [43,45] (b::l)=b::l:=by
  unfold Num.trimL
  rw [List.dropWhile_cons,if_neg (by simp [hn.2.1,hn.2.2.1])]
 rw [e]
 rcases hc with rfl | rfl | rfl
 ·unfold sg Num.decBody Num.decNeg
  simp only
  rw [hasP_ne hn.2.1,hasP_ne hn.2.2.1]
  refine ⟨by simp,by simp,tb,?_⟩
  simp [hn.2.1]
 ·unfold sg Num.decBody Num.decNeg
  simp only
  rw [hasP_eq]
  refine ⟨by simp,by simp,?_,by simp⟩
  unfold Num.trimL at tb ⊢
  rw [List.dropWhile_cons,if_pos (by decide)]
  exact tb
 ·unfold sg Num.decBody Num.decNeg
  simp only
  rw [hasP_ne (show (43:UInt8)≠45 by decide),hasP_eq]
  refine ⟨by simp,by simp,?_,by simp⟩
  unfold Num.trimL at tb ⊢
  rw [List.dropWhile_cons,if_pos (by decide)]
  exact tb
theorem parts_sg {F B:List UInt8} (h:Dig2 F B) {c:Option UInt8} (hc:c=none∨c=some 45∨c=some 43):Num.decF (sg c (pt F B))=F∧Num.decB (sg c (pt F B))=B:=by
 obtain ⟨h1,_,_⟩:=body_sg h hc
 obtain ⟨p1,p2,p3⟩:=pt_cut h
 exact ⟨by unfold Num.decF;rw [h1,p1],by unfold Num.decB;rw [h1,p2]⟩
theorem cut_back {s:List UInt8} (h:(46:UInt8)∈s):s=Num.cutL 46 s++46::Num.cutR 46 s:=by
 induction s with
 | nil=>cases h
 | cons b l ih =>
  rw [Num.cutL,Num.cutR]
  by_cases e:b=46
  ·rw [if_pos e,if_pos e,e];rfl
  ·rw [if_neg e,if_neg e]
   rcases List.mem_cons.1 h with h | h
   ·exact absurd h.symm e
   ·rw [List.cons_append,← ih h]
theorem dec_of {t:List UInt8} (h:Num.decOk t=true):∃ c F B,t=sg c (pt F B)∧Dec F B∧(c=none∨c=some 45∨c=some 43):=by
 have hf:=h
 unfold Num.decOk at h
 rw [Bool.and_eq_true,Bool.or_eq_true] at h
 obtain ⟨h1,h2⟩:=h
 unfold Num.digB at h1
 rw [Bool.and_eq_true,decide_eq_true_eq] at h1
 obtain ⟨⟨l1,l2⟩,ad⟩:=h1
 have fd:=List.all_eq_true.1 ad
 have key:∃ B,Num.decBody t=pt (Num.decF t) B∧Dec (Num.decF t) B:=by
  by_cases e:(46:UInt8)∈Num.decBody t
  ·rcases h2 with h2 | h2
   ·rw [decide_eq_true e] at h2;cases h2
   ·unfold Num.digB at h2
    rw [Bool.and_eq_true,decide_eq_true_eq] at h2
    obtain ⟨⟨m1,m2⟩,bd⟩:=h2
    have bd:=List.all_eq_true.1 bd
    refine ⟨Num.decB t,?_,⟨l1,by omega,fd,by omega,bd⟩⟩
    have hne:Num.decB t≠[]:=by intro q;rw [q] at m1;simp at m1
    have:=cut_back e
    unfold pt
    rw [if_neg hne]
    exact this
  ·refine ⟨[],?_,⟨l1,by omega,fd,by simp,fun b hb=>by cases hb⟩⟩
   unfold pt Num.decF
   rw [if_pos rfl,List.append_nil,((Num.cut_index 46 (Num.decBody t)).2 e).2.1]
 obtain ⟨B,hb,hd⟩:=key
 unfold Num.decBody at hb
 rcases t with _ | ⟨a,l⟩
 ·have:Num.decF []=[]:=rfl
  rw [this] at l1;simp at l1
 ·by_cases q:a=45
  ·subst q
   rw [hasP_eq,if_pos rfl] at hb
   exact ⟨some 45,_,B,by rw [← hb];rfl,hd,.inr (.inl rfl)⟩
  ·rw [hasP_ne q,if_neg Bool.false_ne_true] at hb
   by_cases q2:a=43
   ·subst q2
    rw [hasP_eq,if_pos rfl] at hb
    exact ⟨some 43,_,B,by rw [← hb];rfl,hd,.inr (.inr rfl)⟩
   ·rw [hasP_ne q2,if_neg Bool.false_ne_true] at hb
    exact ⟨none,_,B,by rw [← hb];rfl,hd,.inl rfl⟩
def cF (F:List UInt8):List UInt8:=if Lib.trimLeftB F 48=[] then [48] else Lib.trimLeftB F 48
def cB (B:List UInt8):List UInt8:=Lib.trimRightB B 48
theorem canO_pt {F B:List UInt8}:canO (Lib.trimLeftB F 48) (Lib.trimRightB B 48)=pt (cF F) (cB B):=rfl
theorem canD_sg {F B:List UInt8} (h:Dec F B) {c:Option UInt8} (hc:c=none∨c=some 45∨c=some 43) :
  canD (sg c (pt F B))=sg (if c=some 45∧pt (cF F) (cB B)≠[48] then some 45 else none) (pt (cF F) (cB B)):=by
 obtain ⟨h1,h2,h3,h4⟩:=body_sg h.two hc
 obtain ⟨p1,p2,p3⟩:=pt_cut h.two
 unfold canD canS
 rw [cutL_num,cutR_num,h3,p1,p2,canO_pt]
 by_cases e:c=some 45
 ·rw [decide_eq_true (h4.2 e)]
  by_cases q:pt (cF F) (cB B)=[48]
  ·rw [if_neg (fun x=>x.2 q),if_neg (fun x=>x.2 q)];rfl
  ·rw [if_pos ⟨rfl,q⟩,if_pos ⟨e,q⟩];rfl
 ·rw [decide_eq_false (fun q=>e (h4.1 q)),if_neg (fun x=>by cases x.1),if_neg (fun x=>e x.1)];rfl
theorem canSg (c:Option UInt8) (p:Prop) [Decidable p]:(if p then some (45:UInt8) else none)=none∨(if p then some (45:UInt8) else none)=some 45∨(if p then some (45:UInt8) else none)=some 43:=by
 split
 ·exact .inr (.inl rfl)
 ·exact .inl rfl
theorem dropW (c:UInt8):∀ l:List UInt8,∃ k,l=List.replicate k c++l.dropWhile (· == c)
 | []=>⟨0,rfl⟩
 | b::l=>by
   by_cases e:b=c
   ·obtain ⟨k,hk⟩:=dropW c l
    refine ⟨k+1,?_⟩
    rw [List.dropWhile_cons,if_pos (by simpa using e),List.replicate_succ,List.cons_append,← hk,e]
   ·exact ⟨0,by rw [List.dropWhile_cons,if_neg (by simpa using e)];rfl⟩
end Decs
end Go.Proofs.YtkcghbpghjdgpaaGreatDoor
namespace Go.Proofs.YtkcghbpghjdgpaaGreatDoor
open Go Go.Proofs Go.Abs
variable {G:Globals}
end Go.Proofs.YtkcghbpghjdgpaaGreatDoor
namespace Go.Proofs.YtkcghbpghjdgpaaGreatDoor.Num
open Go Go.Proofs Go.Abs
variable {G:Globals}
structure RB where
 neg:Bool
 l:List Nat
def RB.ok (x:RB):Bool:=decide (x.l.length≤256∧(x.l=[]∧x.neg=false∨x.l≠[]∧x.l.getD (x.l.length - 1) 0≠0))
def RB.int (x:RB):Int:=if x.neg then -(val x.l:Int) else val x.l
structure RB.Dg (x:RB):Prop where
 dig:Dig x.l
 len:x.l.length≤1000
theorem RB.of (n:Int) (h:sz n≤1000):RB.Dg ⟨decide (n<0),toW n.natAbs⟩:=⟨dig_toW _,h⟩
end Go.Proofs.YtkcghbpghjdgpaaGreatDoor.Num
namespace Go.Proofs.YtkcghbpghjdgpaaGreatDoor.Num
open Go Go.Proofs Go.Abs
variable {G:Globals}
set_option maxHeartbeats 2000000 in
set_option maxRecDepth 100000 in
theorem rdivBig_spec (a b:Int) (ha:sz a≤256) (hb:sz b≤256):Ctr Tryz.prog G 52 [.d (Big a),.d (Big b)] [] (.d (.tup [Big (if b=0 then 0 else a.tdiv b),Big (if b=0 then 0 else a.tmod b),.int .i64 (if b=0 then 8 else 0)])) []:=by
 have ha':=ha
 have hb':=hb
 simp only [sz] at ha' hb'
 refine Ctr.pure (M:=M0) hmix Tryz.func52 rfl go52 ?_
 simp (config:={maxSteps:=1000000}) (disch:=((try simp only [awL]);omega)) only [Tryz.f52,↓awU,awV,awF,Qa,Qb,Qc,Qd,forall_const,↓reduceIte,↓reduceDIte,↓Qe,Qf,Qg,Qh,Qi,Qj,Qk,Ql,Qm,Qn,Qo,Qp,Qq,Qr,Qs,implies_true,Qt,Qu,Qv,Qw,Qx,Qy,Qz,QA,QB,QC,QD,QE,QF,QG,QH,QI,QJ,QK,QL,QM,QN,QO,QP,QQ]
 refine CallC.pure (rvalidBig_spec a) ?_
 rw [decide_eq_true ha]
 simp (config:={maxSteps:=1000000}) (disch:=((try simp only [awL]);omega)) only [↓awU,awV,awF,Qa,Qb,Qc,Qd,forall_const,↓reduceIte,↓reduceDIte,↓Qe,Qf,Qg,Qh,Qi,Qj,Qk,Ql,Qm,Qn,Qo,Qp,Qq,Qr,Qs,implies_true,Qt,Qu,Qv,Qw,Qx,Qy,Qz,QA,QB,QC,QD,QE,QF,QG,QH,QI,QJ,QK,QL,QM,QN,QO,QP,QQ]
 refine CallC.pure (rvalidBig_spec b) ?_
 rw [decide_eq_true hb]
 simp (config:={maxSteps:=1000000}) (disch:=((try simp only [awL]);omega)) only [↓awU,awV,awF,Qa,Qb,Qc,Qd,forall_const,↓reduceIte,↓reduceDIte,↓Qe,Qf,Qg,Qh,Qi,Qj,Qk,Ql,Qm,Qn,Qo,Qp,Qq,Qr,Qs,implies_true,Qt,Qu,Qv,Qw,Qx,Qy,Qz,QA,QB,QC,QD,QE,QF,QG,QH,QI,QJ,QK,QL,QM,QN,QO,QP,QQ]
 by_cases h0:b=0
 ·rw [if_pos h0,if_pos h0,if_pos h0,Big_zero]
  have e:(toW b.natAbs).length=0:=by rw [h0];show (toW 0).length=0;rw [toW_zero];rfl
  simp (config:={maxSteps:=1000000}) (disch:=((try simp only [awL]);omega)) only [e,↓awU,awV,awF,Qa,Qb,Qc,Qd,forall_const,↓reduceIte,↓reduceDIte,↓Qe,Qf,Qg,Qh,Qi,Qj,Qk,Ql,Qm,Qn,Qo,Qp,Qq,Qr,Qs,implies_true,Qt,Qu,Qv,Qw,Qx,Qy,Qz,QA,QB,QC,QD,QE,QF,QG,QH,QI,QJ,QK,QL,QM,QN,QO,QP,QQ]
 ·have e:=(@sz_pos b.natAbs).2 (by omega)
  rw [if_neg h0,if_neg h0,if_neg h0]
  have l1:(toW (a.natAbs / b.natAbs)).length≤(toW a.natAbs).length:=toW_len_mono (Nat.div_le_self _ _)
  have l2:(toW (a.natAbs % b.natAbs)).length≤(toW a.natAbs).length:=toW_len_mono (Nat.mod_le _ _)
  simp (config:={maxSteps:=1000000}) (disch:=((try simp only [awL]);omega)) only [↓awU,awV,awF,Qa,Qb,Qc,Qd,forall_const,↓reduceIte,↓reduceDIte,↓Qe,Qf,Qg,Qh,Qi,Qj,Qk,Ql,Qm,Qn,Qo,Qp,Qq,Qr,Qs,implies_true,Qt,Qu,Qv,Qw,Qx,Qy,Qz,QA,QB,QC,QD,QE,QF,QG,QH,QI,QJ,QK,QL,QM,QN,QO,QP,QQ]
  refine CallC.pure (div_spec a.natAbs b.natAbs (by omega) (by omega) (by omega)) ?_
  simp (config:={maxSteps:=1000000}) (disch:=((try simp only [awL]);omega)) only [↓awU,awV,awF,Qa,Qb,Qc,Qd,forall_const,↓reduceIte,↓reduceDIte,↓Qe,Qf,Qg,Qh,Qi,Qj,Qk,Ql,Qm,Qn,Qo,Qp,Qq,Qr,Qs,implies_true,Qt,Qu,Qv,Qw,Qx,Qy,Qz,QA,QB,QC,QD,QE,QF,QG,QH,QI,QJ,QK,QL,QM,QN,QO,QP,QQ]
  refine CallC.pure (rbig_spec _ _ (dig_toW _) (by omega)) ?_
  simp (config:={maxSteps:=1000000}) (disch:=((try simp only [awL]);omega)) only [↓awU,awV,awF,Qa,Qb,Qc,Qd,forall_const,↓reduceIte,↓reduceDIte,↓Qe,Qf,Qg,Qh,Qi,Qj,Qk,Ql,Qm,Qn,Qo,Qp,Qq,Qr,Qs,implies_true,Qt,Qu,Qv,Qw,Qx,Qy,Qz,QA,QB,QC,QD,QE,QF,QG,QH,QI,QJ,QK,QL,QM,QN,QO,QP,QQ]
  refine CallC.pure (rbig_spec _ _ (dig_toW _) (by omega)) ?_
  rw [val_toW,val_toW,← tdiv_sign,← tmod_sign]
  simp (config:={maxSteps:=1000000}) (disch:=((try simp only [awL]);omega)) only [↓awU,awV,awF,Qa,Qb,Qc,Qd,forall_const,↓reduceIte,↓reduceDIte,↓Qe,Qf,Qg,Qh,Qi,Qj,Qk,Ql,Qm,Qn,Qo,Qp,Qq,Qr,Qs,implies_true,Qt,Qu,Qv,Qw,Qx,Qy,Qz,QA,QB,QC,QD,QE,QF,QG,QH,QI,QJ,QK,QL,QM,QN,QO,QP,QQ]
  rfl
end Go.Proofs.YtkcghbpghjdgpaaGreatDoor.Num
namespace Go.Proofs.YtkcghbpghjdgpaaGreatDoor.Num
open Go Go.Proofs Go.Abs
variable {G:Globals}
end Go.Proofs.YtkcghbpghjdgpaaGreatDoor.Num
namespace Go.Proofs.YtkcghbpghjdgpaaGreatDoor.Num
open Go Go.Proofs Go.Abs
variable {G:Globals}
set_option maxRecDepth 100000 in
theorem rtrim_ref (o:List Nat) (n:Nat) (hd:Dig o) (hn:n≤o.length) (hl:o.length<2 ^ 60) :
  Ctr Tryz.prog G 96 [.lsl 0 1 0 n] [.row false (nats .u32 o)] (.lsl 0 1 0 (toW (val (o.take n))).length) [.row false (nats .u32 o)]:=by
 refine Ctr.body (M:=M0) hmix Tryz.func96 rfl go96 ?_
 simp (config:={maxSteps:=1000000}) (disch:=((try simp only [awL]);omega)) only [Tryz.f96,↓awU,awV,awF,Qa,Qb,Qc,Qd,forall_const,↓reduceIte,↓reduceDIte,↓Qe,Qf,Qg,Qh,Qi,Qj,Qk,Ql,Qm,Qn,Qo,Qp,Qq,Qr,Qs,implies_true,Qt,Qu,Qv,Qw,Qx,Qy,Qz,QA,QB,QC,QD,QE,QF,QG,QH,QI,QJ,QK,QL,QM,QN,QO,QP,QQ]
 refine LoopC.fr 0 (α:=Nat) (fun k=>k) (fun k=>[(0,.lsl 0 1 0 k)]) (fun _=>[.row false (nats .u32 o)]) (fun k=>k≤n∧val (o.take k)=val (o.take n)) n ⟨Nat.le_refl _,rfl⟩ ?_ ?_
 ·exact ⟨[some 0],rfl,by simp,by simp [setsA,keepA,SWeak,AWeak],by simp [HWeak,BWeak,SWeak,AWeak]⟩
 ·rintro k ⟨hk,hv⟩
  simp only [awK,Nat.reduceMod,Nat.reduceDiv,reduceIte]
  rcases k with _ | k
  ·simp (config:={maxSteps:=1000000}) (disch:=((try simp only [awL]);omega)) only [↓awU,awV,awF,Qa,Qb,Qc,Qd,forall_const,↓reduceIte,↓reduceDIte,↓Qe,Qf,Qg,Qh,Qi,Qj,Qk,Ql,Qm,Qn,Qo,Qp,Qq,Qr,Qs,implies_true,Qt,Qu,Qv,Qw,Qx,Qy,Qz,QA,QB,QC,QD,QE,QF,QG,QH,QI,QJ,QK,QL,QM,QN,QO,QP,QQ]
   have:toW (val (o.take n))=[]:=by rw [← hv];exact toW_zero
   rw [this]
   exact ⟨[some 0],rfl,by simp,by simp [HWeak,BWeak,SWeak,AWeak],.inl (by simp [AWeak,SWeak])⟩
  ·simp (config:={maxSteps:=1000000}) (disch:=((try simp only [awL]);omega)) only [↓awU,awV,awF,Qa,Qb,Qc,Qd,forall_const,↓reduceIte,↓reduceDIte,↓Qe,Qf,Qg,Qh,Qi,Qj,Qk,Ql,Qm,Qn,Qo,Qp,Qq,Qr,Qs,implies_true,Qt,Qu,Qv,Qw,Qx,Qy,Qz,QA,QB,QC,QD,QE,QF,QG,QH,QI,QJ,QK,QL,QM,QN,QO,QP,QQ]
   refine ⟨fun h=>⟨k,⟨by omega,?_⟩,Nat.lt_succ_self _,⟨[some 0],rfl,by simp,by simp [setsA,keepA,SWeak,AWeak],by simp [HWeak,BWeak,SWeak,AWeak]⟩⟩,fun h=>?_⟩
   ·rw [← hv,take_val o k,show o.getD k 0=0 by omega];simp
   ·have:=toW_take hd (k:=k+1) (by omega) (.inr (by simpa using h))
    rw [hv] at this
    rw [this]
    have e:(o.take (k+1)).length=k+1:=by simp;omega
    rw [e]
    exact ⟨[some 0],rfl,by simp,by simp [HWeak,BWeak,SWeak,AWeak],.inl (by simp [AWeak,SWeak])⟩
set_option maxRecDepth 100000 in
theorem trim_prefix:∀ {q:List Nat},Dig q→toW (val q)=q.take (toW (val q)).length
 | [],_=>by show toW 0=_;rw [toW_zero];simp
 | d::l,h=>by
   have hd:d<B:=h d (List.mem_cons_self ..)
   have ih:=trim_prefix (q:=l) fun x hx=>h x (List.mem_cons_of_mem _ hx)
   by_cases h0:val (d::l)=0
   ·rw [h0,toW_zero];rfl
   ·have e:toW (val (d::l))=d::toW (val l):=by
     rw [toW_pos h0]
     simp only [val]
     rw [Nat.add_mul_mod_self_left,Nat.mod_eq_of_lt hd,Nat.add_mul_div_left _ _ (by decide:0<B),Nat.div_eq_of_lt hd,Nat.zero_add]
    rw [e,List.length_cons,List.take_succ_cons,← ih]
def dtx (n:Nat):List UInt8:=(dgs n).reverse.map fun z=>UInt8.ofNat z.toNat
set_option maxRecDepth 100000 in
theorem dtx_zero:dtx 0=[]:=by rw [dtx,dgs_zero];rfl
set_option maxRecDepth 100000 in
theorem dtx_pos {n:Nat} (h:n≠0):dtx n=dtx (n / 10)++[UInt8.ofNat (48+n % 10)]:=by
 rw [dtx,dgs_pos h,List.reverse_cons,List.map_append];rfl
set_option maxRecDepth 100000 in
theorem dtx_len (n:Nat):(dtx n).length≤10*(toW n).length:=by
 have:=dgs_bound n
 rw [dtx,List.length_map,List.length_reverse];exact this
set_option maxRecDepth 100000 in
theorem decS_dtx (n:Nat):decS n=if n=0 then [48] else dtx n:=rfl
abbrev MT:Muts:=fun f=>Nat.beq f 96
set_option maxRecDepth 100000 in
theorem set_mid {α:Type} {a q e:List α} {k:Nat} {x y:α} (h:a.length=k):(a++x::(q++e)).set k y=a++y::(q++e):=by
 subst h;simp
set_option maxRecDepth 100000 in
theorem take_row {l:List Nat} {k:Nat} {q e:List Nat} (h:k<l.length):l.take (k+1)++(q++e)=l.take k++l.getD k 0::(q++e):=by
 rw [List.take_add_one,List.getElem?_eq_getElem h,List.getD_eq_getElem?_getD,List.getElem?_eq_getElem h,List.append_assoc];rfl
set_option maxHeartbeats 4000000 in
set_option maxRecDepth 100000 in
theorem rtextBig_spec (n:Int) (hz:sz n≤256):Ctr Tryz.prog G 53 [.d (Big n)] [] (.d (S (textB n))) []:=by
 rw [textB,if_pos hz]
 refine Ctr.pure (M:=MT) hmix Tryz.func53 rfl go53 ?_
 simp (config:={maxSteps:=1000000}) (disch:=((try simp only [awL]);omega)) only [MT,Nat.beq_eq,QR,QS,QT,QU,QV,QW,QX,QY,QZ,Q0,Q1,Q2,Tryz.f53,↓awU,awV,awF,Qa,Qb,Qc,Qd,forall_const,↓reduceIte,↓reduceDIte,↓Qe,Qf,Qg,Qh,Qi,Qj,Qk,Ql,Qm,Qn,Qo,Qp,Qq,Qr,Qs,implies_true,Qt,Qu,Qv,Qw,Qx,Qy,Qz,QA,QB,QC,QD,QE,QF,QG,QH,QI,QJ,QK,QL,QM,QN,QO,QP,QQ]
 refine CallC.pure (rvalidBig_spec n) ?_
 rw [decide_eq_true hz]
 simp only [sz] at hz
 have dl:=dtx_len n.natAbs
 simp (config:={maxSteps:=1000000}) (disch:=((try simp only [awL]);omega)) only [MT,Nat.beq_eq,QR,QS,QT,QU,QV,QW,QX,QY,QZ,Q0,Q1,Q2,↓awU,awV,awF,Qa,Qb,Qc,Qd,forall_const,↓reduceIte,↓reduceDIte,↓Qe,Qf,Qg,Qh,Qi,Qj,Qk,Ql,Qm,Qn,Qo,Qp,Qq,Qr,Qs,implies_true,Qt,Qu,Qv,Qw,Qx,Qy,Qz,QA,QB,QC,QD,QE,QF,QG,QH,QI,QJ,QK,QL,QM,QN,QO,QP,QQ]
 refine LoopC.fr 2 (α:=Nat × List Nat × List UInt8) (fun a=>a.1) (fun a=>[(3,.lsl 1 1 0 (toW a.1).length),(4,.d (S a.2.2))])
  (fun a=>[.box [.d (.bool (decide (n<0))),.d (W (toW n.natAbs))],.row false (nats .u32 (toW a.1++a.2.1))])
  (fun a=>dtx a.1++a.2.2=dtx n.natAbs∧Dig a.2.1∧(toW a.1++a.2.1).length≤256) (n.natAbs,[],[]) ⟨by simp,by simp [Dig],by simpa using hz⟩ ?_ ?_
 ·exact ⟨[some 0,some 2],rfl,by simp,by simp [setsA,keepA,SWeak,AWeak],by simp [HWeak,BWeak,SWeak,AWeak]⟩
 ·rintro ⟨m,ex,s⟩ ⟨hs,hd,hlen⟩
  simp only at hs hd hlen
  have hsl:=congrArg List.length hs
  rw [List.length_append] at hsl
  rw [List.length_append] at hlen
  simp only [awK,Nat.reduceMod,Nat.reduceDiv,reduceIte]
  by_cases m0:m=0
  ·subst m0
   rw [dtx_zero,List.nil_append] at hs
   rw [toW_zero]
   subst hs
   by_cases n0:n=0
   ·have e1:dtx n.natAbs=[]:=by rw [n0];exact dtx_zero
    have e2:decS n.natAbs=[48]:=by rw [n0];rfl
    rw [e1,e2,if_neg (by omega)]
    simp (config:={maxSteps:=1000000}) (disch:=((try simp only [awL]);omega)) only [MT,Nat.beq_eq,QR,QS,QT,QU,QV,QW,QX,QY,QZ,Q0,Q1,Q2,↓awU,awV,awF,Qa,Qb,Qc,Qd,forall_const,↓reduceIte,↓reduceDIte,↓Qe,Qf,Qg,Qh,Qi,Qj,Qk,Ql,Qm,Qn,Qo,Qp,Qq,Qr,Qs,implies_true,Qt,Qu,Qv,Qw,Qx,Qy,Qz,QA,QB,QC,QD,QE,QF,QG,QH,QI,QJ,QK,QL,QM,QN,QO,QP,QQ]
    try rfl
   ·have e1:¬ dtx n.natAbs=[]:=by rw [dtx_pos (by omega)];simp
    have e2:decS n.natAbs=dtx n.natAbs:=by rw [decS_dtx,if_neg (by omega)]
    rw [e2]
    by_cases hn:n<0
    ·rw [if_pos hn]
     simp (config:={maxSteps:=1000000}) (disch:=((try simp only [awL]);omega)) only [MT,Nat.beq_eq,QR,QS,QT,QU,QV,QW,QX,QY,QZ,Q0,Q1,Q2,e1,↓awU,awV,awF,Qa,Qb,Qc,Qd,forall_const,↓reduceIte,↓reduceDIte,↓Qe,Qf,Qg,Qh,Qi,Qj,Qk,Ql,Qm,Qn,Qo,Qp,Qq,Qr,Qs,implies_true,Qt,Qu,Qv,Qw,Qx,Qy,Qz,QA,QB,QC,QD,QE,QF,QG,QH,QI,QJ,QK,QL,QM,QN,QO,QP,QQ]
     try rfl
    ·rw [if_neg hn]
     simp (config:={maxSteps:=1000000}) (disch:=((try simp only [awL]);omega)) only [MT,Nat.beq_eq,QR,QS,QT,QU,QV,QW,QX,QY,QZ,Q0,Q1,Q2,e1,↓awU,awV,awF,Qa,Qb,Qc,Qd,forall_const,↓reduceIte,↓reduceDIte,↓Qe,Qf,Qg,Qh,Qi,Qj,Qk,Ql,Qm,Qn,Qo,Qp,Qq,Qr,Qs,implies_true,Qt,Qu,Qv,Qw,Qx,Qy,Qz,QA,QB,QC,QD,QE,QF,QG,QH,QI,QJ,QK,QL,QM,QN,QO,QP,QQ]
     try rfl
  ·have hl:0<(toW m).length:=by rw [Nat.pos_iff_ne_zero,ne_eq,List.length_eq_zero_iff,toW_nil];exact m0
   have da:=dig_toW m
   have va:=val_toW m
   simp (config:={maxSteps:=1000000}) (disch:=((try simp only [awL]);omega)) only [MT,Nat.beq_eq,QR,QS,QT,QU,QV,QW,QX,QY,QZ,Q0,Q1,Q2,↓awU,awV,awF,Qa,Qb,Qc,Qd,forall_const,↓reduceIte,↓reduceDIte,↓Qe,Qf,Qg,Qh,Qi,Qj,Qk,Ql,Qm,Qn,Qo,Qp,Qq,Qr,Qs,implies_true,Qt,Qu,Qv,Qw,Qx,Qy,Qz,QA,QB,QC,QD,QE,QF,QG,QH,QI,QJ,QK,QL,QM,QN,QO,QP,QQ]
   refine LoopC.fr 26 (α:=Nat × List Nat × Nat) (fun x=>x.1) (fun x=>[(5,.d (.int .u64 x.2.2)),(6,.d (.int .i64 ((x.1:Int) - 1)))])
    (fun x=>[.box [.d (.bool (decide (n<0))),.d (W (toW n.natAbs))],.row false (nats .u32 ((toW m).take x.1++(x.2.1++ex)))])
    (fun x=>x.1≤(toW m).length∧x.2.1.length+x.1=(toW m).length∧Dig x.2.1∧x.2.2<10∧val ((toW m).drop x.1)=val x.2.1*10+x.2.2) ((toW m).length,[],0) ⟨by simp,by simp,by simp [Dig],Nat.zero_lt_succ _,by simp [val]⟩ ?_ ?_
   ·refine ⟨[some 0,some 1],rfl,by simp,by simp [setsA,keepA,SWeak,AWeak],?_⟩
    simp [HWeak,BWeak,SWeak,AWeak]
   ·rintro ⟨k,q,c⟩ ⟨hk,hq,hdq,hc,hv⟩
    simp only at hk hq hdq hc hv
    rcases k with _ | k
    ·rw [List.drop_zero,va] at hv
     simp only [Nat.add_zero] at hq
     have hq10:val q=m / 10:=by omega
     have hc10:c=m % 10:=by omega
     have tq:(q++ex).take (toW m).length=q:=by rw [← hq,List.take_left'];rfl
     have tp:=trim_prefix hdq
     have hdx:Dig (q++ex):=fun d hd'=>(List.mem_append.1 hd').elim (hdq d) (hd d)
     have hrow2:q++ex=toW (m / 10)++(q.drop (toW (val q)).length++ex):=by
      rw [← hq10,← List.append_assoc,tp,List.length_take,Nat.min_eq_left (by rw [tp,List.length_take];omega),List.take_append_drop]
     have hle:(toW (val q)).length≤q.length:=by rw [tp,List.length_take];omega
     simp only [awK,Nat.reduceMod,Nat.reduceDiv,reduceIte]
     simp (config:={maxSteps:=1000000}) (disch:=((try simp only [awL]);omega)) only [MT,Nat.beq_eq,QR,QS,QT,QU,QV,QW,QX,QY,QZ,Q0,Q1,Q2,↓awU,awV,awF,Qa,Qb,Qc,Qd,forall_const,↓reduceIte,↓reduceDIte,↓Qe,Qf,Qg,Qh,Qi,Qj,Qk,Ql,Qm,Qn,Qo,Qp,Qq,Qr,Qs,implies_true,Qt,Qu,Qv,Qw,Qx,Qy,Qz,QA,QB,QC,QD,QE,QF,QG,QH,QI,QJ,QK,QL,QM,QN,QO,QP,QQ]
     refine CallC.by (rtrim_ref (q++ex) (toW m).length hdx (by rw [List.length_append];omega) (by rw [List.length_append];omega)) (by rfl) (by rfl) (Nat.le_refl _) ?_
     rw [tq]
     have st1:strOfNums [48+(c:Int)]=bs [UInt8.ofNat (48+c)]:=by
      rw [strOfNums_bs,List.map_cons,List.map_nil,show (48+(c:Int)).toNat=48+c by omega]
     have hd1:dtx (m / 10)++UInt8.ofNat (48+c)::s=dtx n.natAbs:=by
      rw [← hs,dtx_pos m0,← hc10,List.append_assoc];rfl
     simp (config:={maxSteps:=1000000}) (disch:=((try simp only [awL]);omega)) only [MT,Nat.beq_eq,QR,QS,QT,QU,QV,QW,QX,QY,QZ,Q0,Q1,Q2,st1,List.cons_append,List.nil_append,↓awU,awV,awF,Qa,Qb,Qc,Qd,forall_const,↓reduceIte,↓reduceDIte,↓Qe,Qf,Qg,Qh,Qi,Qj,Qk,Ql,Qm,Qn,Qo,Qp,Qq,Qr,Qs,implies_true,Qt,Qu,Qv,Qw,Qx,Qy,Qz,QA,QB,QC,QD,QE,QF,QG,QH,QI,QJ,QK,QL,QM,QN,QO,QP,QQ]
     have hl3:=congrArg List.length hrow2
     rw [List.length_append,List.length_append] at hl3
     refine ⟨by rfl,(m / 10,q.drop (toW (val q)).length++ex,UInt8.ofNat (48+c)::s),⟨hd1,fun d hd'=>?_,by simp only;omega⟩,by simp only;omega,?_⟩
     ·rcases List.mem_append.1 hd' with h | h
      ·exact hdq d (List.mem_of_mem_drop h)
      ·exact hd d h
     ·simp only
      rw [← hrow2,← hq10]
      exact ⟨[some 0,some 1],rfl,by simp,by simp [setsA,keepA,SWeak,AWeak],by simp [HWeak,BWeak,SWeak,AWeak]⟩
    ·have hst:=short_step (d:=10) (by omega) hv
     have hx:=da.getD k
     simp only [B] at hx
     have ho:=or64 (h:=c) (x:=(toW m).getD k 0) (by omega) hx
     have tl:((toW m).take k).length=k:=by rw [List.length_take];omega
     have hrow:=@take_row (toW m) k q ex (by omega)
     have hdv:=divmod_step (d:=10) hc (da.getD k)
     simp only [B] at hst hdv
     obtain ⟨x,hxe⟩:∃ x,(toW m).getD k 0=x:=⟨_,rfl⟩
     rw [hxe] at ho hrow hst hdv hx
     obtain ⟨A,hA⟩:∃ A,(toW m).take k=A:=⟨_,rfl⟩
     have hg:(A++x::(q++ex)).getD k 0=x:=by rw [← tl,hA];simp [List.getD_eq_getElem?_getD]
     obtain ⟨v,hve⟩:∃ v,c*4294967296+x=v:=⟨_,rfl⟩
     rw [hve] at ho hst hdv
     have e1:(v:Int).tmod 10=((v % 10:Nat):Int):=by rw [Int.tmod_eq_emod_of_nonneg (by omega)];rfl
     have e2:(v:Int).tdiv 10=((v / 10:Nat):Int):=by rw [Int.tdiv_eq_ediv_of_nonneg (by omega)];rfl
     have hset:(A++x::(q++ex)).set k (v / 10)=A++(v / 10)::(q++ex):=set_mid (by rw [← hA];exact tl)
     simp only [awK,Nat.reduceMod,Nat.reduceDiv,reduceIte]
     rw [hrow,hA]
     rw [hA] at tl
     simp (config:={maxSteps:=1000000}) (disch:=((try simp only [awL]);omega)) only [MT,Nat.beq_eq,QR,QS,QT,QU,QV,QW,QX,QY,QZ,Q0,Q1,Q2,hg,ho,e1,e2,hset,tl,↓awU,awV,awF,Qa,Qb,Qc,Qd,forall_const,↓reduceIte,↓reduceDIte,↓Qe,Qf,Qg,Qh,Qi,Qj,Qk,Ql,Qm,Qn,Qo,Qp,Qq,Qr,Qs,implies_true,Qt,Qu,Qv,Qw,Qx,Qy,Qz,QA,QB,QC,QD,QE,QF,QG,QH,QI,QJ,QK,QL,QM,QN,QO,QP,QQ]
     have el:(v / 10::q).length+k=(toW m).length:=by rw [List.length_cons];omega
     refine ⟨(k,v / 10::q,v % 10),⟨by simp only;omega,el,fun d hd'=>?_,Nat.mod_lt _ (by decide),hst⟩,by simp only;omega,?_⟩
     ·rcases List.mem_cons.1 hd' with rfl | h
      ·simpa only [B] using hdv
      ·exact hdq d h
     ·simp only [List.cons_append]
      rw [hA]
      exact ⟨[some 0,some 1],rfl,by simp,by simp [setsA,keepA,SWeak,AWeak],by simp [HWeak,BWeak,SWeak,AWeak]⟩
end Go.Proofs.YtkcghbpghjdgpaaGreatDoor.Num
namespace Go.Proofs.YtkcghbpghjdgpaaGreatDoor.Num
open Go Go.Proofs Go.Abs
variable {G:Globals}
end Go.Proofs.YtkcghbpghjdgpaaGreatDoor.Num
namespace Go.Proofs.YtkcghbpghjdgpaaGreatDoor.Num
open Go Go.Proofs Go.Abs
variable {G:Globals}
structure RF where
 n:RB
 d:RB
def okI (p q:Int):Bool:=decide (0<q∧Nat.gcd p.natAbs q.natAbs=1)
end Go.Proofs.YtkcghbpghjdgpaaGreatDoor.Num
namespace Go.Proofs.YtkcghbpghjdgpaaGreatDoor.Num
open Go Go.Proofs Go.Abs
variable {G:Globals}
end Go.Proofs.YtkcghbpghjdgpaaGreatDoor.Num
namespace Go.Proofs.YtkcghbpghjdgpaaGreatDoor.Num
open Go Go.Proofs Go.Abs
variable {G:Globals}
structure RF.Dg (x:RF):Prop where
 n:x.n.Dg
 d:x.d.Dg
def RF.ok (x:RF):Bool:=(x.n.ok && x.d.ok) && okI x.n.int x.d.int
def RF.rat (x:RF):Rat:=Rat.divInt x.n.int x.d.int
end Go.Proofs.YtkcghbpghjdgpaaGreatDoor.Num
namespace Go.Proofs.YtkcghbpghjdgpaaGreatDoor.Num
open Go Go.Proofs Go.Abs
variable {G:Globals}
def cF (x y:RF):Int:=if x.ok && y.ok then cmpQ x.rat y.rat else 0
end Go.Proofs.YtkcghbpghjdgpaaGreatDoor.Num
namespace Go.Proofs.YtkcghbpghjdgpaaGreatDoor
open Go Go.Proofs Go.Abs
variable {G:Globals}
theorem dgit_dg {n:Nat} (h:n<10):Decs.dg (UInt8.ofNat (48+n))=true:=by
 have:∀ n:Fin 10,Decs.dg (UInt8.ofNat (48+n.val))=true:=by decide
 exact this ⟨n,h⟩
theorem dgs_dg (n:Nat):∀ z∈Num.dgs n,Decs.dg (UInt8.ofNat z.toNat)=true:=by
 induction n using Nat.strongRecOn with
 | _ n ih =>
  by_cases h:n=0
  ·subst h;rw [Num.dgs_zero];intro z hz;cases hz
  ·rw [Num.dgs_pos h]
   intro z hz
   rcases List.mem_cons.1 hz with rfl | hz
   ·rw [Int.toNat_natCast];exact dgit_dg (by omega)
   ·exact ih (n / 10) (by omega) z hz
theorem decS_dg (n:Nat):(∀ b∈Num.decS n,Decs.dg b=true)∧1≤(Num.decS n).length:=by
 unfold Num.decS
 split
 ·exact ⟨fun b hb=>by rw [List.mem_singleton.1 hb];decide,by simp⟩
 ·rename_i h
  refine ⟨fun b hb=>?_,?_⟩
  ·obtain ⟨z,hz,rfl⟩:=List.mem_map.1 hb
   exact dgs_dg n z (List.mem_reverse.1 hz)
  ·rw [List.length_map,List.length_reverse,Num.dgs_pos h];simp
theorem textB_sg {z:Int} (hz:Num.sz z≤256):Num.textB z=Decs.sg (if z<0 then some 45 else none) (Num.decS z.natAbs):=by
 unfold Num.textB
 rw [if_pos hz]
 split<;>rfl
theorem sgc (z:Int):(if z<0 then some (45:UInt8) else none)=none∨(if z<0 then some (45:UInt8) else none)=some 45∨(if z<0 then some (45:UInt8) else none)=some 43:=Decs.canSg none _
theorem pt_nil (F:List UInt8):Decs.pt F []=F:=by unfold Decs.pt;rw [if_pos rfl,List.append_nil]
theorem whole_two (n:Nat):Decs.Dig2 (Num.decS n) []:=⟨(decS_dg n).2,(decS_dg n).1,fun b hb=>by cases hb⟩
theorem rat_int {x:Rat} (h:x.den=1):x=Rat.divInt x.num 1:=by
 conv=>lhs;rw [← Rat.num_divInt_den x,h]
 rfl
theorem unP_text {z:Int} (hz:Num.sz z≤256):unP (Num.textB z)=Num.decS z.natAbs∧Num.hasP (Num.textB z) [45]=decide (z<0):=by
 rw [textB_sg hz]
 have h:=whole_two z.natAbs
 obtain ⟨b,l,e,hb⟩:=Decs.pt_head h
 rw [pt_nil] at e
 unfold unP
 by_cases q:z<0
 ·rw [if_pos q,decide_eq_true q]
  show (if Num.hasP (45::Num.decS z.natAbs) [45]=true then _ else _)=_∧Num.hasP (45::Num.decS z.natAbs) [45]=true
  rw [Decs.hasP_eq]
  exact ⟨rfl,rfl⟩
 ·rw [if_neg q,decide_eq_false q]
  show (if Num.hasP (Num.decS z.natAbs) [45]=true then _ else _)=_∧Num.hasP (Num.decS z.natAbs) [45]=false
  rw [e,Decs.hasP_ne (Decs.dg_ne hb).2.1]
  exact ⟨rfl,rfl⟩
end Go.Proofs.YtkcghbpghjdgpaaGreatDoor
namespace Go.Proofs.YtkcghbpghjdgpaaGreatDoor
open Go Go.Proofs Go.Abs
variable {G:Globals}
theorem cF_drop {b:UInt8} {l:List UInt8} (h:b=48):Decs.cF (b::l)=Decs.cF l:=by
 have e:Lib.trimLeftB (b::l) 48=Lib.trimLeftB l 48:=by
  unfold Lib.trimLeftB
  rw [List.dropWhile_cons,if_pos (by simpa using h)]
 unfold Decs.cF
 rw [e]
theorem cF_end {b:UInt8} {l:List UInt8} (h:l=[]∨b≠48):Decs.cF (b::l)=b::l:=by
 by_cases e:b=48
 ·rcases h with h | h
  ·subst h e;rfl
  ·exact absurd e h
 ·have e2:Lib.trimLeftB (b::l) 48=b::l:=by
   unfold Lib.trimLeftB
   rw [List.dropWhile_cons,if_neg (by simpa using e)]
  unfold Decs.cF
  rw [e2,if_neg (List.cons_ne_nil _ _)]
theorem cB_snoc {l:List UInt8} {b:UInt8} (h:b=48):Decs.cB (l++[b])=Decs.cB l:=by
 unfold Decs.cB Lib.trimRightB
 rw [List.reverse_append,List.reverse_singleton,List.singleton_append,List.dropWhile_cons,if_pos (by simpa using h)]
theorem cB_end {l:List UInt8} {b:UInt8} (h:b≠48):Decs.cB (l++[b])=l++[b]:=by
 unfold Decs.cB Lib.trimRightB
 rw [List.reverse_append,List.reverse_singleton,List.singleton_append,List.dropWhile_cons,if_neg (by simpa using h),List.reverse_cons,List.reverse_reverse]
theorem last_split {y:List UInt8} (h:0<y.length):y=y.take (y.length - 1)++[y.getD (y.length - 1) 0]:=by
 have h1:=List.take_append_drop (y.length - 1) y
 rw [Num.drop_cons' (show y.length - 1<y.length by omega),List.drop_of_length_le (by omega)] at h1
 exact h1.symm
set_option maxHeartbeats 8000000 in
set_option maxRecDepth 100000 in
theorem rnumber_spec (neg:Bool) (d p:List UInt8) (hd0:0<d.length) (hd:d.length≤1000) (hp:p.length≤1000) :
  Ctr Tryz.prog G 98 [.d (.bool neg),.d (S d),.d (S p)] [] (.d (S (canS neg (Decs.pt (Decs.cF d) (Decs.cB p))))) []:=by
 obtain ⟨r,hr⟩:∃ r,r=canS neg (Decs.pt (Decs.cF d) (Decs.cB p)):=⟨_,rfl⟩
 rw [← hr]
 refine Ctr.pure (M:=M0) hmix Tryz.func98 rfl go98 ?_
 simp (config:={maxSteps:=1000000}) (disch:=((try simp only [awL]);omega)) only [QR,QS,QT,QU,QV,QW,QX,QY,QZ,Q0,Q1,Q2,Tryz.f98,↓awU,awV,awF,Qa,Qb,Qc,Qd,forall_const,↓reduceIte,↓reduceDIte,↓Qe,Qf,Qg,Qh,Qi,Qj,Qk,Ql,Qm,Qn,Qo,Qp,Qq,Qr,Qs,implies_true,Qt,Qu,Qv,Qw,Qx,Qy,Qz,QA,QB,QC,QD,QE,QF,QG,QH,QI,QJ,QK,QL,QM,QN,QO,QP,QQ]
 refine LoopC.fx 5 (α:=List UInt8) (β:=Unit) (fun x=>x.length) (fun x=>[(1,.d (S x))]) (fun _=>[]) (fun x=>0<x.length∧x.length≤1000∧Decs.cF d=Decs.cF x)
  5 (fun _=>[(1,.d (S (Decs.cF d)))]) (fun _=>[]) (fun _=>True) d ⟨hd0,hd,rfl⟩ ?_ ?_ ?_
 ·exact ⟨[],rfl,by simp,by simp [setsA,keepA,SWeak,AWeak],by simp [HWeak,BWeak,SWeak,AWeak]⟩
 ·rintro x ⟨h0,h1,h2⟩
  rcases x with _ | ⟨b,l⟩
  ·simp at h0
  ·have gb:(b::l).getD 0 0=b:=rfl
   have dl:(b::l).drop 1=l:=rfl
   rw [List.length_cons] at h1
   simp only [awK,Nat.reduceMod,Nat.reduceDiv,reduceIte]
   by_cases e1:0<l.length
   ·by_cases e2:b=48
    ·have e2':((b.toNat:Int)=48)=True:=eq_true (by rw [e2];rfl)
     simp (config:={maxSteps:=1000000}) (disch:=((try simp only [awL]);omega)) only [QR,QS,QT,QU,QV,QW,QX,QY,QZ,Q0,Q1,Q2,List.length_cons,gb,dl,e2',↓awU,awV,awF,Qa,Qb,Qc,Qd,forall_const,↓reduceIte,↓reduceDIte,↓Qe,Qf,Qg,Qh,Qi,Qj,Qk,Ql,Qm,Qn,Qo,Qp,Qq,Qr,Qs,implies_true,Qt,Qu,Qv,Qw,Qx,Qy,Qz,QA,QB,QC,QD,QE,QF,QG,QH,QI,QJ,QK,QL,QM,QN,QO,QP,QQ]
     exact ⟨l,⟨e1,by omega,by rw [h2,cF_drop e2]⟩,by simp only [List.length_cons];omega,⟨[],rfl,by simp,by simp [setsA,keepA,SWeak,AWeak],by simp [HWeak,BWeak,SWeak,AWeak]⟩⟩
    ·have e2':((b.toNat:Int)=48)=False:=eq_false (fun q=>e2 (UInt8.toNat_inj.1 (by show b.toNat=48;omega)))
     rw [cF_end (.inr e2)] at h2
     simp (config:={maxSteps:=1000000}) (disch:=((try simp only [awL]);omega)) only [QR,QS,QT,QU,QV,QW,QX,QY,QZ,Q0,Q1,Q2,List.length_cons,gb,e2',↓awU,awV,awF,Qa,Qb,Qc,Qd,forall_const,↓reduceIte,↓reduceDIte,↓Qe,Qf,Qg,Qh,Qi,Qj,Qk,Ql,Qm,Qn,Qo,Qp,Qq,Qr,Qs,implies_true,Qt,Qu,Qv,Qw,Qx,Qy,Qz,QA,QB,QC,QD,QE,QF,QG,QH,QI,QJ,QK,QL,QM,QN,QO,QP,QQ]
     exact ⟨(),trivial,⟨[],rfl,by simp,by simp [setsA,keepA,SWeak,AWeak,h2],by simp [HWeak,BWeak,SWeak,AWeak]⟩⟩
   ·have ln:l=[]:=List.length_eq_zero_iff.1 (by omega)
    rw [cF_end (.inl ln)] at h2
    simp (config:={maxSteps:=1000000}) (disch:=((try simp only [awL]);omega)) only [QR,QS,QT,QU,QV,QW,QX,QY,QZ,Q0,Q1,Q2,List.length_cons,↓awU,awV,awF,Qa,Qb,Qc,Qd,forall_const,↓reduceIte,↓reduceDIte,↓Qe,Qf,Qg,Qh,Qi,Qj,Qk,Ql,Qm,Qn,Qo,Qp,Qq,Qr,Qs,implies_true,Qt,Qu,Qv,Qw,Qx,Qy,Qz,QA,QB,QC,QD,QE,QF,QG,QH,QI,QJ,QK,QL,QM,QN,QO,QP,QQ]
    exact ⟨(),trivial,⟨[],rfl,by simp,by simp [setsA,keepA,SWeak,AWeak,h2],by simp [HWeak,BWeak,SWeak,AWeak]⟩⟩
 ·rintro ⟨⟩ -
  have fl:(Decs.cF d).length≤1000:=by
   have:(Lib.trimLeftB d 48).length≤d.length:=(List.dropWhile_sublist _).length_le
   unfold Decs.cF
   split
   ·simp
   ·omega
  generalize Decs.cF d=f at *
  simp only [awK,Nat.reduceMod,Nat.reduceDiv,reduceIte]
  refine LoopC.fx 3 (α:=List UInt8) (β:=Unit) (fun y=>y.length) (fun y=>[(2,.d (S y))]) (fun _=>[]) (fun y=>y.length≤1000∧Decs.cB p=Decs.cB y)
   3 (fun _=>[(2,.d (S (Decs.cB p)))]) (fun _=>[]) (fun _=>True) p ⟨hp,rfl⟩ ?_ ?_ ?_
  ·exact ⟨[],rfl,by simp,by simp [setsA,keepA,SWeak,AWeak],by simp [HWeak,BWeak,SWeak,AWeak]⟩
  ·rintro y ⟨h1,h2⟩
   simp only [awK,Nat.reduceMod,Nat.reduceDiv,reduceIte]
   rcases Nat.eq_zero_or_pos y.length with e0 | e0
   ·have yn:=List.length_eq_zero_iff.1 e0
    subst yn
    have h2:Decs.cB p=[]:=h2
    simp (config:={maxSteps:=1000000}) (disch:=((try simp only [awL]);omega)) only [QR,QS,QT,QU,QV,QW,QX,QY,QZ,Q0,Q1,Q2,List.length_nil,↓awU,awV,awF,Qa,Qb,Qc,Qd,forall_const,↓reduceIte,↓reduceDIte,↓Qe,Qf,Qg,Qh,Qi,Qj,Qk,Ql,Qm,Qn,Qo,Qp,Qq,Qr,Qs,implies_true,Qt,Qu,Qv,Qw,Qx,Qy,Qz,QA,QB,QC,QD,QE,QF,QG,QH,QI,QJ,QK,QL,QM,QN,QO,QP,QQ]
    exact ⟨(),trivial,⟨[],rfl,by simp,by simp [setsA,keepA,SWeak,AWeak,h2],by simp [HWeak,BWeak,SWeak,AWeak]⟩⟩
   ·obtain ⟨b,hb⟩:∃ b,b=y.getD (y.length - 1) 0:=⟨_,rfl⟩
    obtain ⟨z,hz⟩:∃ z,z=y.take (y.length - 1):=⟨_,rfl⟩
    have sp:=last_split e0
    rw [← hb,← hz] at sp
    have zl:z.length+1=y.length:=by rw [hz,List.length_take];omega
    have ei:(((y.length:Int) - 1).toNat)=y.length - 1:=by omega
    by_cases e2:b=48
    ·have e2':(((y.getD (y.length - 1) 0).toNat:Int)=48)=True:=eq_true (by rw [← hb,e2];rfl)
     rw [sp,cB_snoc e2] at h2
     simp (config:={maxSteps:=1000000}) (disch:=((try simp only [awL]);omega)) only [QR,QS,QT,QU,QV,QW,QX,QY,QZ,Q0,Q1,Q2,ei,e2',← hz,↓awU,awV,awF,Qa,Qb,Qc,Qd,forall_const,↓reduceIte,↓reduceDIte,↓Qe,Qf,Qg,Qh,Qi,Qj,Qk,Ql,Qm,Qn,Qo,Qp,Qq,Qr,Qs,implies_true,Qt,Qu,Qv,Qw,Qx,Qy,Qz,QA,QB,QC,QD,QE,QF,QG,QH,QI,QJ,QK,QL,QM,QN,QO,QP,QQ]
     exact ⟨z,⟨by omega,h2⟩,by simp only;omega,⟨[],rfl,by simp,by simp [setsA,keepA,SWeak,AWeak],by simp [HWeak,BWeak,SWeak,AWeak]⟩⟩
    ·have e2':(((y.getD (y.length - 1) 0).toNat:Int)=48)=False:=eq_false (fun q=>e2 (UInt8.toNat_inj.1 (by show b.toNat=48;rw [hb];omega)))
     rw [sp,cB_end e2,← sp] at h2
     simp (config:={maxSteps:=1000000}) (disch:=((try simp only [awL]);omega)) only [QR,QS,QT,QU,QV,QW,QX,QY,QZ,Q0,Q1,Q2,ei,e2',↓awU,awV,awF,Qa,Qb,Qc,Qd,forall_const,↓reduceIte,↓reduceDIte,↓Qe,Qf,Qg,Qh,Qi,Qj,Qk,Ql,Qm,Qn,Qo,Qp,Qq,Qr,Qs,implies_true,Qt,Qu,Qv,Qw,Qx,Qy,Qz,QA,QB,QC,QD,QE,QF,QG,QH,QI,QJ,QK,QL,QM,QN,QO,QP,QQ]
     exact ⟨(),trivial,⟨[],rfl,by simp,by simp [setsA,keepA,SWeak,AWeak,h2],by simp [HWeak,BWeak,SWeak,AWeak]⟩⟩
  ·rintro ⟨⟩ -
   have bl:(Decs.cB p).length≤1000:=Nat.le_trans (trimRB_le p 48) hp
   generalize Decs.cB p=b at *
   unfold canS Decs.pt at hr
   simp only [awK,Nat.reduceMod,Nat.reduceDiv,reduceIte]
   by_cases e1:b=[]
   ·have e1':(b=[])=True:=eq_true e1
    rw [if_pos e1,List.append_nil] at hr
    cases neg
    ·rw [if_neg (fun q=>by cases q.1)] at hr
     subst hr
     simp (config:={maxSteps:=1000000}) (disch:=((try simp only [awL]);omega)) only [QR,QS,QT,QU,QV,QW,QX,QY,QZ,Q0,Q1,Q2,aseq_normal,aseq_ret,e1',↓awU,awV,awF,Qa,Qb,Qc,Qd,forall_const,↓reduceIte,↓reduceDIte,↓Qe,Qf,Qg,Qh,Qi,Qj,Qk,Ql,Qm,Qn,Qo,Qp,Qq,Qr,Qs,implies_true,Qt,Qu,Qv,Qw,Qx,Qy,Qz,QA,QB,QC,QD,QE,QF,QG,QH,QI,QJ,QK,QL,QM,QN,QO,QP,QQ]
     first | done | rfl
    ·by_cases e3:f=[48]
     ·have e3':(f=[48])=True:=eq_true e3
      rw [if_neg (fun q=>q.2 e3)] at hr
      subst hr
      simp (config:={maxSteps:=1000000}) (disch:=((try simp only [awL]);omega)) only [QR,QS,QT,QU,QV,QW,QX,QY,QZ,Q0,Q1,Q2,aseq_normal,aseq_ret,e1',e3',↓awU,awV,awF,Qa,Qb,Qc,Qd,forall_const,↓reduceIte,↓reduceDIte,↓Qe,Qf,Qg,Qh,Qi,Qj,Qk,Ql,Qm,Qn,Qo,Qp,Qq,Qr,Qs,implies_true,Qt,Qu,Qv,Qw,Qx,Qy,Qz,QA,QB,QC,QD,QE,QF,QG,QH,QI,QJ,QK,QL,QM,QN,QO,QP,QQ]
      first | done | rfl
     ·have e3':(f=[48])=False:=eq_false e3
      rw [if_pos ⟨rfl,e3⟩] at hr
      subst hr
      simp (config:={maxSteps:=1000000}) (disch:=((try simp only [awL]);omega)) only [QR,QS,QT,QU,QV,QW,QX,QY,QZ,Q0,Q1,Q2,aseq_normal,aseq_ret,e1',e3',↓awU,awV,awF,Qa,Qb,Qc,Qd,forall_const,↓reduceIte,↓reduceDIte,↓Qe,Qf,Qg,Qh,Qi,Qj,Qk,Ql,Qm,Qn,Qo,Qp,Qq,Qr,Qs,implies_true,Qt,Qu,Qv,Qw,Qx,Qy,Qz,QA,QB,QC,QD,QE,QF,QG,QH,QI,QJ,QK,QL,QM,QN,QO,QP,QQ]
      first | done | rfl
   ·have e1':(b=[])=False:=eq_false e1
    rw [if_neg e1] at hr
    cases neg
    ·rw [if_neg (fun q=>by cases q.1)] at hr
     subst hr
     simp (config:={maxSteps:=1000000}) (disch:=((try simp only [awL]);omega)) only [QR,QS,QT,QU,QV,QW,QX,QY,QZ,Q0,Q1,Q2,aseq_normal,aseq_ret,e1',↓awU,awV,awF,Qa,Qb,Qc,Qd,forall_const,↓reduceIte,↓reduceDIte,↓Qe,Qf,Qg,Qh,Qi,Qj,Qk,Ql,Qm,Qn,Qo,Qp,Qq,Qr,Qs,implies_true,Qt,Qu,Qv,Qw,Qx,Qy,Qz,QA,QB,QC,QD,QE,QF,QG,QH,QI,QJ,QK,QL,QM,QN,QO,QP,QQ]
     first | done | rfl
    ·by_cases e3:f++46::b=[48]
     ·have e3':(f++46::b=[48])=True:=eq_true e3
      rw [if_neg (fun q=>q.2 e3)] at hr
      subst hr
      simp (config:={maxSteps:=1000000}) (disch:=((try simp only [awL]);omega)) only [QR,QS,QT,QU,QV,QW,QX,QY,QZ,Q0,Q1,Q2,aseq_normal,aseq_ret,e1',e3',↓awU,awV,awF,Qa,Qb,Qc,Qd,forall_const,↓reduceIte,↓reduceDIte,↓Qe,Qf,Qg,Qh,Qi,Qj,Qk,Ql,Qm,Qn,Qo,Qp,Qq,Qr,Qs,implies_true,Qt,Qu,Qv,Qw,Qx,Qy,Qz,QA,QB,QC,QD,QE,QF,QG,QH,QI,QJ,QK,QL,QM,QN,QO,QP,QQ]
      first | done | rfl
     ·have e3':(f++46::b=[48])=False:=eq_false e3
      rw [if_pos ⟨rfl,e3⟩] at hr
      subst hr
      simp (config:={maxSteps:=1000000}) (disch:=((try simp only [awL]);omega)) only [QR,QS,QT,QU,QV,QW,QX,QY,QZ,Q0,Q1,Q2,aseq_normal,aseq_ret,e1',e3',↓awU,awV,awF,Qa,Qb,Qc,Qd,forall_const,↓reduceIte,↓reduceDIte,↓Qe,Qf,Qg,Qh,Qi,Qj,Qk,Ql,Qm,Qn,Qo,Qp,Qq,Qr,Qs,implies_true,Qt,Qu,Qv,Qw,Qx,Qy,Qz,QA,QB,QC,QD,QE,QF,QG,QH,QI,QJ,QK,QL,QM,QN,QO,QP,QQ]
      first | done | rfl
theorem canD_parts {t:List UInt8} (h:Num.decOk t=true):canS (Num.decNeg t) (Decs.pt (Decs.cF (Num.decF t)) (Decs.cB (Num.decB t)))=canD t:=by
 obtain ⟨c,F,B,rfl,hd,hc⟩:=Decs.dec_of h
 obtain ⟨_,h2,_⟩:=Decs.body_sg hd.two hc
 obtain ⟨h3,h4⟩:=Decs.parts_sg hd.two hc
 rw [Decs.canD_sg hd hc,h2,h3,h4]
 unfold canS
 by_cases e:c=some 45
 ·rw [decide_eq_true e]
  by_cases q:Decs.pt (Decs.cF F) (Decs.cB B)=[48]
  ·rw [if_neg (fun x=>x.2 q),if_neg (fun x=>x.2 q)];rfl
  ·rw [if_pos ⟨rfl,q⟩,if_pos ⟨e,q⟩];rfl
 ·rw [decide_eq_false e,if_neg (fun x=>by cases x.1),if_neg (fun x=>e x.1)];rfl
set_option maxHeartbeats 8000000 in
set_option maxRecDepth 100000 in
theorem rcanon4_spec (s:List UInt8) (hs:s.length≤9223372036854775807):Ctr Tryz.prog G 54 [.d (.int .i64 4),.d (S s)] [] (.d (TB (canT s))) []:=by
 obtain ⟨r,hr⟩:∃ r,r=canT s:=⟨_,rfl⟩
 rw [← hr]
 unfold canT at hr
 have tl:=trimB_len s
 refine Ctr.pure (M:=M0) hmix Tryz.func54 rfl go54 ?_
 simp (config:={maxSteps:=1000000}) (disch:=((try simp only [awL]);omega)) only [QR,QS,QT,QU,QV,QW,QX,QY,QZ,Q0,Q1,Q2,Tryz.f54,↓awU,awV,awF,Qa,Qb,Qc,Qd,forall_const,↓reduceIte,↓reduceDIte,↓Qe,Qf,Qg,Qh,Qi,Qj,Qk,Ql,Qm,Qn,Qo,Qp,Qq,Qr,Qs,implies_true,Qt,Qu,Qv,Qw,Qx,Qy,Qz,QA,QB,QC,QD,QE,QF,QG,QH,QI,QJ,QK,QL,QM,QN,QO,QP,QQ]
 refine CallC.of (rtrim_spec s (by omega)) (by rfl) ?_
 generalize Lib.trimB s 32=t at *
 simp (config:={maxSteps:=1000000}) (disch:=((try simp only [awL]);omega)) only [QR,QS,QT,QU,QV,QW,QX,QY,QZ,Q0,Q1,Q2,↓awU,awV,awF,Qa,Qb,Qc,Qd,forall_const,↓reduceIte,↓reduceDIte,↓Qe,Qf,Qg,Qh,Qi,Qj,Qk,Ql,Qm,Qn,Qo,Qp,Qq,Qr,Qs,implies_true,Qt,Qu,Qv,Qw,Qx,Qy,Qz,QA,QB,QC,QD,QE,QF,QG,QH,QI,QJ,QK,QL,QM,QN,QO,QP,QQ]
 have pp:=Num.rparts_spec (G:=G) t (by omega)
 unfold Num.partsD at pp
 rw [show Num.okB (Num.decBody t)=Num.decOk t from rfl,show Num.cutL 46 (Num.decBody t)=Num.decF t from rfl,show Num.cutR 46 (Num.decBody t)=Num.decB t from rfl] at pp
 refine CallC.of pp (by rfl) ?_
 cases ok:Num.decOk t
 ·rw [ok,if_neg Bool.false_ne_true] at hr
  rw [if_neg Bool.false_ne_true,if_neg Bool.false_ne_true]
  subst hr
  simp (config:={maxSteps:=1000000}) (disch:=((try simp only [awL]);omega)) only [QR,QS,QT,QU,QV,QW,QX,QY,QZ,Q0,Q1,Q2,↓awU,awV,awF,Qa,Qb,Qc,Qd,forall_const,↓reduceIte,↓reduceDIte,↓Qe,Qf,Qg,Qh,Qi,Qj,Qk,Ql,Qm,Qn,Qo,Qp,Qq,Qr,Qs,implies_true,Qt,Qu,Qv,Qw,Qx,Qy,Qz,QA,QB,QC,QD,QE,QF,QG,QH,QI,QJ,QK,QL,QM,QN,QO,QP,QQ]
  first | done | rfl
 ·rw [ok,if_pos rfl,← canD_parts ok] at hr
  rw [if_pos rfl,if_pos rfl,Bool.true_and]
  obtain ⟨q1,q2,q3⟩:=Num.decOk_facts ok
  have f1:0<(Num.decF t).length:=by
   unfold Num.decOk Num.digB at ok
   rw [Bool.and_eq_true,Bool.and_eq_true,decide_eq_true_eq] at ok
   omega
  rw [List.length_append] at q2
  generalize Num.decF t=F at *
  generalize Num.decB t=B at *
  generalize Num.decNeg t=neg at *
  simp (config:={maxSteps:=1000000}) (disch:=((try simp only [awL]);omega)) only [QR,QS,QT,QU,QV,QW,QX,QY,QZ,Q0,Q1,Q2,↓awU,awV,awF,Qa,Qb,Qc,Qd,forall_const,↓reduceIte,↓reduceDIte,↓Qe,Qf,Qg,Qh,Qi,Qj,Qk,Ql,Qm,Qn,Qo,Qp,Qq,Qr,Qs,implies_true,Qt,Qu,Qv,Qw,Qx,Qy,Qz,QA,QB,QC,QD,QE,QF,QG,QH,QI,QJ,QK,QL,QM,QN,QO,QP,QQ]
  refine CallC.of (rnumber_spec neg F B f1 (by omega) (by omega)) (by rfl) ?_
  subst hr
  simp (config:={maxSteps:=1000000}) (disch:=((try simp only [awL]);omega)) only [QR,QS,QT,QU,QV,QW,QX,QY,QZ,Q0,Q1,Q2,↓awU,awV,awF,Qa,Qb,Qc,Qd,forall_const,↓reduceIte,↓reduceDIte,↓Qe,Qf,Qg,Qh,Qi,Qj,Qk,Ql,Qm,Qn,Qo,Qp,Qq,Qr,Qs,implies_true,Qt,Qu,Qv,Qw,Qx,Qy,Qz,QA,QB,QC,QD,QE,QF,QG,QH,QI,QJ,QK,QL,QM,QN,QO,QP,QQ]
  first | done | rfl
end Go.Proofs.YtkcghbpghjdgpaaGreatDoor
namespace Go.Proofs.YtkcghbpghjdgpaaGreatDoor
open Go Go.Proofs Go.Abs
variable {G:Globals}
theorem unsD_unf {l:List Un}:(unsD l).map unf0=unsD l:=by
 induction l with
 | nil=>rfl
 | cons x l ih =>
  have e:unsD (x::l)=S x.1::S x.2.1::.int .i64 x.2.2.1::.int .i64 x.2.2.2::unsD l:=rfl
  rw [e,List.map_cons,List.map_cons,List.map_cons,List.map_cons,ih];rfl
theorem cloneUn_spec (l:List Un) (full:Bool) (hl:l.length<2 ^ 40):Ctr Tryz.prog G 45 [.d (.sl l.length full (unsD l))] [] (.d (.sl l.length false (unsD l))) []:=by
 refine Ctr.of_body Tryz.func45 rfl go45 rfl ?_
 have sl:=unsD_length l
 refine Tri.seq (Tri.of_awp (M:=M0) hmix _ _ _ _ ?_)
 simp (config:={maxSteps:=1000000}) (disch:=((try simp only [awL]);omega)) only [QR,QS,QT,QU,QV,QW,QX,QY,QZ,Q0,Q1,Q2,aseq_normal,Tryz.f45,↓awU,awV,awF,Qa,Qb,Qc,Qd,forall_const,↓reduceIte,↓reduceDIte,↓Qe,Qf,Qg,Qh,Qi,Qj,Qk,Ql,Qm,Qn,Qo,Qp,Qq,Qr,Qs,implies_true,Qt,Qu,Qv,Qw,Qx,Qy,Qz,QA,QB,QC,QD,QE,QF,QG,QH,QI,QJ,QK,QL,QM,QN,QO,QP,QQ]
 refine Tri.seq (Tri.seq (Tri.nilRegion (e:=51) (by kernel_rfl) rfl ?_ ?_))
 ·simp
 intro b hb
 simp only [aseq_normal]
 refine Tri.of_awp (M:=M0) hmix _ _ _ _ ?_
 cases b
 ·simp (config:={maxSteps:=1000000}) (disch:=((try simp only [awL]);omega)) only [QR,QS,QT,QU,QV,QW,QX,QY,QZ,Q0,Q1,Q2,aseq_normal,Tryz.f45,aseq_ret,↓awU,awV,awF,Qa,Qb,Qc,Qd,forall_const,↓reduceIte,↓reduceDIte,↓Qe,Qf,Qg,Qh,Qi,Qj,Qk,Ql,Qm,Qn,Qo,Qp,Qq,Qr,Qs,implies_true,Qt,Qu,Qv,Qw,Qx,Qy,Qz,QA,QB,QC,QD,QE,QF,QG,QH,QI,QJ,QK,QL,QM,QN,QO,QP,QQ]
  refine Tri.of_awp (M:=M0) hmix _ _ _ _ ?_
  simp (config:={maxSteps:=1000000}) (disch:=((try simp only [awL]);omega)) only [QR,QS,QT,QU,QV,QW,QX,QY,QZ,Q0,Q1,Q2,sl,aseq_normal,Tryz.f45,aseq_ret,↓awU,awV,awF,Qa,Qb,Qc,Qd,forall_const,↓reduceIte,↓reduceDIte,↓Qe,Qf,Qg,Qh,Qi,Qj,Qk,Ql,Qm,Qn,Qo,Qp,Qq,Qr,Qs,implies_true,Qt,Qu,Qv,Qw,Qx,Qy,Qz,QA,QB,QC,QD,QE,QF,QG,QH,QI,QJ,QK,QL,QM,QN,QO,QP,QQ]
  have cu:cut (unsD l) 0 (l.length*4)=unsD l:=cutA _ _ (by omega)
  refine ⟨[],rfl,List.nodup_nil,trivial,.inr ⟨.sl l.length false (unsD l),?_,?_,rfl⟩⟩
  ·simp [sealA,cu]
  ·simp only [unf_sl,unsD_unf]
 ·simp (config:={maxSteps:=1000000}) (disch:=((try simp only [awL]);omega)) only [QR,QS,QT,QU,QV,QW,QX,QY,QZ,Q0,Q1,Q2,aseq_normal,Tryz.f45,aseq_ret,↓awU,awV,awF,Qa,Qb,Qc,Qd,forall_const,↓reduceIte,↓reduceDIte,↓Qe,Qf,Qg,Qh,Qi,Qj,Qk,Ql,Qm,Qn,Qo,Qp,Qq,Qr,Qs,implies_true,Qt,Qu,Qv,Qw,Qx,Qy,Qz,QA,QB,QC,QD,QE,QF,QG,QH,QI,QJ,QK,QL,QM,QN,QO,QP,QQ]
  have h0:l=[]:=List.length_eq_zero_iff.1 (hb rfl)
  subst h0
  exact ⟨[],rfl,List.nodup_nil,trivial,.inr ⟨.sl 0 true [],rfl,rfl,rfl⟩⟩
theorem units_spec (hU:HU G):Ctr Tryz.prog G 16 [] [] (.d (.sl 12 false (unsD uL))) []:=by
 refine Ctr.pure (M:=M0) hmix Tryz.func16 rfl go16 ?_
 have hU':G 1=some [.sl 12 false (unsD uL)]:=hU
 simp (config:={maxSteps:=1000000}) (disch:=((try simp only [awL]);omega)) only [QR,QS,QT,QU,QV,QW,QX,QY,QZ,Q0,Q1,Q2,hU',uL_one,uL_unf,Tryz.f16,↓awU,awV,awF,Qa,Qb,Qc,Qd,forall_const,↓reduceIte,↓reduceDIte,↓Qe,Qf,Qg,Qh,Qi,Qj,Qk,Ql,Qm,Qn,Qo,Qp,Qq,Qr,Qs,implies_true,Qt,Qu,Qv,Qw,Qx,Qy,Qz,QA,QB,QC,QD,QE,QF,QG,QH,QI,QJ,QK,QL,QM,QN,QO,QP,QQ]
 refine CallC.of (cloneUn_spec uL false (by decide)) (by rfl) ?_
 simp (config:={maxSteps:=1000000}) (disch:=((try simp only [awL]);omega)) only [QR,QS,QT,QU,QV,QW,QX,QY,QZ,Q0,Q1,Q2,↓awU,awV,awF,Qa,Qb,Qc,Qd,forall_const,↓reduceIte,↓reduceDIte,↓Qe,Qf,Qg,Qh,Qi,Qj,Qk,Ql,Qm,Qn,Qo,Qp,Qq,Qr,Qs,implies_true,Qt,Qu,Qv,Qw,Qx,Qy,Qz,QA,QB,QC,QD,QE,QF,QG,QH,QI,QJ,QK,QL,QM,QN,QO,QP,QQ]
 first | done | rfl
theorem rmulW_spec {x y:Rat} (h1:Num.FV x) (h2:Num.FV y) (h3:Num.FV (x*y)):Ctr Tryz.prog G 30 [.d (Num.Frac x),.d (Num.Frac y)] [] (.d (.tup [Num.Frac (x*y),.int .i64 0])) []:=by
 have:=Num.rmulF_spec (G:=G) x y h1 h2
 unfold Num.Res at this
 rw [if_pos h3,if_pos h3] at this
 exact this
theorem rofN_spec (a b:Int) (h1:-9223372036854775808≤a) (h2:a≤9223372036854775807) (h3:-9223372036854775808≤b) (h4:b≤9223372036854775807) (h:b≠0):Ctr Tryz.prog G 29 [.d (.int .i64 a),.d (.int .i64 b)] [] (.d (.tup [Num.Frac (Rat.divInt a b),.int .i64 0])) []:=by
 have:=Num.rof_spec (G:=G) a b h1 h2 h3 h4
 rw [if_neg h,if_neg h] at this
 exact this
theorem fw_un {u:Un} (h:u∈uL):Num.Fw 2 (Rat.divInt u.2.2.1 u.2.2.2)∧Num.Fw 2 (Rat.divInt u.2.2.2 u.2.2.1):=by
 obtain ⟨h1,h2,h3,h4⟩:=uL_ok u h
 exact ⟨Num.Fw_divInt (k:=2) (by omega) (Num.sz_int (by omega) (by omega)) (Num.sz_int (by omega) (by omega)),Num.Fw_divInt (k:=2) (by omega) (Num.sz_int (by omega) (by omega)) (Num.sz_int (by omega) (by omega))⟩
abbrev FB (x:Rat):ABlk:=.box [.d (.bool (decide (x.num<0))),.d (Num.W (Num.toW x.num.natAbs)),.d (.bool false),.d (Num.W (Num.toW x.den))]
end Go.Proofs.YtkcghbpghjdgpaaGreatDoor
namespace Go.Proofs.YtkcghbpghjdgpaaGreatDoor
open Go Go.Proofs Go.Abs
variable {G:Globals}
set_option maxHeartbeats 4000000 in
set_option maxRecDepth 100000 in
theorem runits_spec:Ctr Tryz.prog G 17 [] [] (.d (.sl 12 false (unsD uL))) []:=by
 refine Ctr.pure (M:=M0) hmix Tryz.func17 rfl go17 ?_
 simp (config:={maxSteps:=1000000}) (disch:=((try simp only [awL]);omega)) only [QR,QS,QT,QU,QV,QW,QX,QY,QZ,Q0,Q1,Q2,Tryz.f17,↓awU,awV,awF,Qa,Qb,Qc,Qd,forall_const,↓reduceIte,↓reduceDIte,↓Qe,Qf,Qg,Qh,Qi,Qj,Qk,Ql,Qm,Qn,Qo,Qp,Qq,Qr,Qs,implies_true,Qt,Qu,Qv,Qw,Qx,Qy,Qz,QA,QB,QC,QD,QE,QF,QG,QH,QI,QJ,QK,QL,QM,QN,QO,QP,QQ]
 first | done | rfl | exact ⟨by rfl,by rfl⟩
theorem rbases_spec:Ctr Tryz.prog G 61 [] [] (.d (Ss basesL false)) []:=by
 refine Ctr.pure (M:=M0) hmix Tryz.func61 rfl go61 ?_
 simp (config:={maxSteps:=1000000}) (disch:=((try simp only [awL]);omega)) only [QR,QS,QT,QU,QV,QW,QX,QY,QZ,Q0,Q1,Q2,Tryz.f61,↓awU,awV,awF,Qa,Qb,Qc,Qd,forall_const,↓reduceIte,↓reduceDIte,↓Qe,Qf,Qg,Qh,Qi,Qj,Qk,Ql,Qm,Qn,Qo,Qp,Qq,Qr,Qs,implies_true,Qt,Qu,Qv,Qw,Qx,Qy,Qz,QA,QB,QC,QD,QE,QF,QG,QH,QI,QJ,QK,QL,QM,QN,QO,QP,QQ]
 first | done | rfl | exact ⟨by rfl,by rfl⟩
theorem suffix_iff (t n:List UInt8):Lib.hasSuffix t n=decide (n.length≤t.length∧t.drop (t.length - n.length)=n):=by
 unfold Lib.hasSuffix
 by_cases h:n.isSuffixOf t=true
 ·rw [h]
  have:=List.isSuffixOf_iff_suffix.1 h
  exact (decide_eq_true ⟨this.length_le,(List.suffix_iff_eq_drop.1 this).symm⟩).symm
 ·rw [Bool.not_eq_true] at h
  rw [h]
  refine (decide_eq_false fun q=>?_).symm
  have:n <:+ t:=List.suffix_iff_eq_drop.2 q.2.symm
  rw [List.isSuffixOf_iff_suffix.2 this] at h
  cases h
theorem trimB_head {s:List UInt8} {b:UInt8} {l:List UInt8} (h:Lib.trimB s 32=b::l):b≠32:=by
 unfold Lib.trimB Lib.trimLeftB at h
 have:=List.head?_dropWhile_not (p:=(· == (32:UInt8))) (l:=Lib.trimRightB s 32)
 rw [h] at this
 intro e
 simp [e] at this
theorem right_blanks (y:List UInt8):∃ k,y=Lib.trimRightB y 32++List.replicate k 32:=by
 obtain ⟨k,hk⟩:=Decs.dropW 32 y.reverse
 refine ⟨k,?_⟩
 have:=congrArg List.reverse hk
 rw [List.reverse_reverse,List.reverse_append,List.reverse_replicate] at this
 exact this
theorem trim_front (s:List UInt8) (k:Nat):Lib.trimB ((Lib.trimB s 32).take k) 32=Lib.trimRightB ((Lib.trimB s 32).take k) 32:=by
 obtain ⟨z,hz⟩:=right_blanks ((Lib.trimB s 32).take k)
 show Lib.trimLeftB (Lib.trimRightB ((Lib.trimB s 32).take k) 32) 32=_
 generalize hy:Lib.trimRightB ((Lib.trimB s 32).take k) 32=y at *
 rcases y with _ | ⟨b,l⟩
 ·rfl
 ·have hb:b≠32:=by
   rcases e:Lib.trimB s 32 with _ | ⟨c,m⟩
   ·rw [e] at hz;simp at hz
   ·rw [e] at hz
    rcases k with _ | k
    ·simp at hz
    ·rw [List.take_succ_cons,List.cons_append] at hz
     injection hz with h1 h2
     rw [← h1]
     exact trimB_head e
  unfold Lib.trimLeftB
  rw [List.dropWhile_cons,if_neg (by simpa using hb)]
theorem uL_names:∀ u∈uL,u.1.length≤3:=by decide
set_option maxHeartbeats 16000000 in
set_option maxRecDepth 100000 in
theorem rsplit_spec (s:List UInt8) (hs:s.length≤9223372036854775807):Ctr Tryz.prog G 23 [.d (S s)] [] (.d (splR s)) []:=by
 obtain ⟨r,hr⟩:∃ r,r=splR s:=⟨_,rfl⟩
 rw [← hr]
 unfold splR splN splU splX at hr
 refine Ctr.pure (M:=M0) hmix Tryz.func23 rfl go23 ?_
 have tl:=trimB_len s
 have tf:=trim_front s
 simp (config:={maxSteps:=1000000}) (disch:=((try simp only [awL]);omega)) only [QR,QS,QT,QU,QV,QW,QX,QY,QZ,Q0,Q1,Q2,Tryz.f23,↓awU,awV,awF,Qa,Qb,Qc,Qd,forall_const,↓reduceIte,↓reduceDIte,↓Qe,Qf,Qg,Qh,Qi,Qj,Qk,Ql,Qm,Qn,Qo,Qp,Qq,Qr,Qs,implies_true,Qt,Qu,Qv,Qw,Qx,Qy,Qz,QA,QB,QC,QD,QE,QF,QG,QH,QI,QJ,QK,QL,QM,QN,QO,QP,QQ]
 refine CallC.of (rtrim_spec s (by omega)) (by rfl) ?_
 generalize Lib.trimB s 32=t at *
 simp (config:={maxSteps:=1000000}) (disch:=((try simp only [awL]);omega)) only [QR,QS,QT,QU,QV,QW,QX,QY,QZ,Q0,Q1,Q2,↓awU,awV,awF,Qa,Qb,Qc,Qd,forall_const,↓reduceIte,↓reduceDIte,↓Qe,Qf,Qg,Qh,Qi,Qj,Qk,Ql,Qm,Qn,Qo,Qp,Qq,Qr,Qs,implies_true,Qt,Qu,Qv,Qw,Qx,Qy,Qz,QA,QB,QC,QD,QE,QF,QG,QH,QI,QJ,QK,QL,QM,QN,QO,QP,QQ]
 refine CallC.of runits_spec (by rfl) ?_
 simp (config:={maxSteps:=1000000}) (disch:=((try simp only [awL]);omega)) only [QR,QS,QT,QU,QV,QW,QX,QY,QZ,Q0,Q1,Q2,↓awU,awV,awF,Qa,Qb,Qc,Qd,forall_const,↓reduceIte,↓reduceDIte,↓Qe,Qf,Qg,Qh,Qi,Qj,Qk,Ql,Qm,Qn,Qo,Qp,Qq,Qr,Qs,implies_true,Qt,Qu,Qv,Qw,Qx,Qy,Qz,QA,QB,QC,QD,QE,QF,QG,QH,QI,QJ,QK,QL,QM,QN,QO,QP,QQ]
 refine LoopC.fr 98344 (α:=Nat) (fun i=>12 - i) (fun i=>[(17,.d (.int .i64 (i:Nat)))])
  (fun _=>[.box [.d (.str ByteArray.empty),.d (.str ByteArray.empty),.d (.int .i64 0),.d (.int .i64 0)]]) (fun i=>i≤12∧uL.find? (hitU t)=(uL.drop i).find? (hitU t)) 0 ⟨by omega,rfl⟩ ?_ ?_
 ·exact ⟨[some 0],rfl,by simp,by simp [setsA,keepA,SWeak,AWeak],by simp [HWeak,BWeak,SWeak,AWeak]⟩
 ·rintro i ⟨hi,h2⟩
  rw [h2] at hr
  simp only [awK,Nat.reduceMod,Nat.reduceDiv,reduceIte]
  rcases Nat.lt_or_ge i 12 with h | h
  ·have gu:=unsD_get (l:=uL) (k:=i) h
   rw [find_at (d:=noUn) h] at hr h2
   have hn:=uL_names _ (memD (l:=uL) (d:=noUn) (show i<uL.length from h))
   generalize uL.getD i noUn=u at *
   obtain ⟨n,b,p,q⟩:=u
   simp only at hn
   have gu:((unsD uL).drop (i*4)).take 4=[S n,S b,.int .i64 p,.int .i64 q]:=gu
   have hh:hitU t (n,b,p,q)=(Lib.hasSuffix t n && Num.decOk (frontU t n)):=rfl
   rw [hh] at hr h2
   have sf:=suffix_iff t n
   by_cases e1:n.length≤t.length
   ·have ei:(((t.length:Int) - n.length).toNat)=t.length - n.length:=by omega
    by_cases e2:t.drop (t.length - n.length)=n
    ·have e2':(t.drop (t.length - n.length)=n)=True:=eq_true e2
     rw [decide_eq_true ⟨e1,e2⟩] at sf
     rw [sf,Bool.true_and] at hr h2
     have fr:frontU t n=Lib.trimRightB (t.take (t.length - n.length)) 32:=by
      unfold frontU Lib.trimSuffix
      rw [sf,if_pos rfl]
     have tf2:=tf (t.length - n.length)
     rw [← fr] at tf2
     have tr:=rtrim_spec (G:=G) (t.take (t.length - n.length)) (by rw [List.length_take];omega)
     rw [tf2] at tr
     have fl:=frontU_len t n
     have pp:=Num.rparts_spec (G:=G) (frontU t n) (by omega)
     unfold Num.partsD at pp
     rw [show Num.okB (Num.decBody (frontU t n))=Num.decOk (frontU t n) from rfl] at pp
     simp (config:={maxSteps:=1000000}) (disch:=((try simp only [awL]);omega)) only [QR,QS,QT,QU,QV,QW,QX,QY,QZ,Q0,Q1,Q2,gu,uL_unf,ei,e2',↓awU,awV,awF,Qa,Qb,Qc,Qd,forall_const,↓reduceIte,↓reduceDIte,↓Qe,Qf,Qg,Qh,Qi,Qj,Qk,Ql,Qm,Qn,Qo,Qp,Qq,Qr,Qs,implies_true,Qt,Qu,Qv,Qw,Qx,Qy,Qz,QA,QB,QC,QD,QE,QF,QG,QH,QI,QJ,QK,QL,QM,QN,QO,QP,QQ]
     refine ⟨by rfl,?_⟩
     refine CallC.of tr (by rfl) ?_
     obtain ⟨f,hf⟩:∃ f,f=frontU t n:=⟨_,rfl⟩
     rw [← hf] at hr h2 fl pp ⊢
     simp (config:={maxSteps:=1000000}) (disch:=((try simp only [awL]);omega)) only [QR,QS,QT,QU,QV,QW,QX,QY,QZ,Q0,Q1,Q2,↓awU,awV,awF,Qa,Qb,Qc,Qd,forall_const,↓reduceIte,↓reduceDIte,↓Qe,Qf,Qg,Qh,Qi,Qj,Qk,Ql,Qm,Qn,Qo,Qp,Qq,Qr,Qs,implies_true,Qt,Qu,Qv,Qw,Qx,Qy,Qz,QA,QB,QC,QD,QE,QF,QG,QH,QI,QJ,QK,QL,QM,QN,QO,QP,QQ]
     refine CallC.of pp (by rfl) ?_
     cases ok:Num.decOk f
     ·rw [ok,if_neg Bool.false_ne_true] at hr h2
      rw [if_neg Bool.false_ne_true,if_neg Bool.false_ne_true]
      simp (config:={maxSteps:=1000000}) (disch:=((try simp only [awL]);omega)) only [QR,QS,QT,QU,QV,QW,QX,QY,QZ,Q0,Q1,Q2,↓awU,awV,awF,Qa,Qb,Qc,Qd,forall_const,↓reduceIte,↓reduceDIte,↓Qe,Qf,Qg,Qh,Qi,Qj,Qk,Ql,Qm,Qn,Qo,Qp,Qq,Qr,Qs,implies_true,Qt,Qu,Qv,Qw,Qx,Qy,Qz,QA,QB,QC,QD,QE,QF,QG,QH,QI,QJ,QK,QL,QM,QN,QO,QP,QQ]
      first
      | exact ⟨i+1,⟨h,h2⟩,by simp only;omega,⟨[some 0],rfl,by simp,by simp [setsA,keepA,SWeak,AWeak],by simp [HWeak,BWeak,SWeak,AWeak]⟩⟩
      | exact ⟨by rfl,i+1,⟨h,h2⟩,by simp only;omega,⟨[some 0],rfl,by simp,by simp [setsA,keepA,SWeak,AWeak],by simp [HWeak,BWeak,SWeak,AWeak]⟩⟩
     ·rw [ok,if_pos rfl] at hr h2
      rw [if_pos rfl,if_pos rfl]
      simp only [Option.getD_some,Option.isSome_some] at hr
      subst hr
      generalize Num.cutL 46 (Num.decBody f)=F at *
      generalize Num.cutR 46 (Num.decBody f)=B at *
      generalize Num.decNeg f=ng at *
      simp (config:={maxSteps:=1000000}) (disch:=((try simp only [awL]);omega)) only [QR,QS,QT,QU,QV,QW,QX,QY,QZ,Q0,Q1,Q2,↓awU,awV,awF,Qa,Qb,Qc,Qd,forall_const,↓reduceIte,↓reduceDIte,↓Qe,Qf,Qg,Qh,Qi,Qj,Qk,Ql,Qm,Qn,Qo,Qp,Qq,Qr,Qs,implies_true,Qt,Qu,Qv,Qw,Qx,Qy,Qz,QA,QB,QC,QD,QE,QF,QG,QH,QI,QJ,QK,QL,QM,QN,QO,QP,QQ]
      exact ⟨by rfl,by rw [hf]⟩
    ·have e2':(t.drop (t.length - n.length)=n)=False:=eq_false e2
     rw [decide_eq_false (fun q=>e2 q.2)] at sf
     rw [sf,Bool.false_and,if_neg Bool.false_ne_true] at hr h2
     simp (config:={maxSteps:=1000000}) (disch:=((try simp only [awL]);omega)) only [QR,QS,QT,QU,QV,QW,QX,QY,QZ,Q0,Q1,Q2,gu,uL_unf,ei,e2',↓awU,awV,awF,Qa,Qb,Qc,Qd,forall_const,↓reduceIte,↓reduceDIte,↓Qe,Qf,Qg,Qh,Qi,Qj,Qk,Ql,Qm,Qn,Qo,Qp,Qq,Qr,Qs,implies_true,Qt,Qu,Qv,Qw,Qx,Qy,Qz,QA,QB,QC,QD,QE,QF,QG,QH,QI,QJ,QK,QL,QM,QN,QO,QP,QQ]
     first
     | exact ⟨i+1,⟨h,h2⟩,by simp only;omega,⟨[some 0],rfl,by simp,by simp [setsA,keepA,SWeak,AWeak],by simp [HWeak,BWeak,SWeak,AWeak]⟩⟩
     | exact ⟨by rfl,i+1,⟨h,h2⟩,by simp only;omega,⟨[some 0],rfl,by simp,by simp [setsA,keepA,SWeak,AWeak],by simp [HWeak,BWeak,SWeak,AWeak]⟩⟩
   ·rw [decide_eq_false (fun q=>e1 q.1)] at sf
    rw [sf,Bool.false_and,if_neg Bool.false_ne_true] at hr h2
    simp (config:={maxSteps:=1000000}) (disch:=((try simp only [awL]);omega)) only [QR,QS,QT,QU,QV,QW,QX,QY,QZ,Q0,Q1,Q2,gu,uL_unf,↓awU,awV,awF,Qa,Qb,Qc,Qd,forall_const,↓reduceIte,↓reduceDIte,↓Qe,Qf,Qg,Qh,Qi,Qj,Qk,Ql,Qm,Qn,Qo,Qp,Qq,Qr,Qs,implies_true,Qt,Qu,Qv,Qw,Qx,Qy,Qz,QA,QB,QC,QD,QE,QF,QG,QH,QI,QJ,QK,QL,QM,QN,QO,QP,QQ]
    first
    | exact ⟨i+1,⟨h,h2⟩,by simp only;omega,⟨[some 0],rfl,by simp,by simp [setsA,keepA,SWeak,AWeak],by simp [HWeak,BWeak,SWeak,AWeak]⟩⟩
    | exact ⟨by rfl,i+1,⟨h,h2⟩,by simp only;omega,⟨[some 0],rfl,by simp,by simp [setsA,keepA,SWeak,AWeak],by simp [HWeak,BWeak,SWeak,AWeak]⟩⟩
  ·have e:i=12:=by omega
   subst e
   rw [show uL.drop 12=[] from rfl] at hr
   simp only [List.find?_nil,Option.getD_none,Option.isSome_none] at hr
   subst hr
   simp (config:={maxSteps:=1000000}) (disch:=((try simp only [awL]);omega)) only [QR,QS,QT,QU,QV,QW,QX,QY,QZ,Q0,Q1,Q2,uL_unf,↓awU,awV,awF,Qa,Qb,Qc,Qd,forall_const,↓reduceIte,↓reduceDIte,↓Qe,Qf,Qg,Qh,Qi,Qj,Qk,Ql,Qm,Qn,Qo,Qp,Qq,Qr,Qs,implies_true,Qt,Qu,Qv,Qw,Qx,Qy,Qz,QA,QB,QC,QD,QE,QF,QG,QH,QI,QJ,QK,QL,QM,QN,QO,QP,QQ]
   first | done | rfl
theorem scale_eq (x:Rat):x*scaleQ=Rat.divInt (x.num*1000000000) x.den:=by
 have h:x*scaleQ=Rat.divInt x.num x.den*Rat.divInt 1000000000 1:=by rw [Rat.num_divInt_den];rfl
 rw [h,Rat.divInt_mul_divInt,Int.mul_one]
theorem divInt_one (q:Int):(Rat.divInt q 1).den=1∧(Rat.divInt q 1).num=q:=by
 have:Rat.divInt q 1=(q:Rat):=Rat.num_divInt_den (q:Rat)
 rw [this]
 exact ⟨rfl,rfl⟩
theorem whole_z {x:Rat} (h:(x*scaleQ).den=1):x.num*1000000000=(x*scaleQ).num*x.den:=by
 have h1:=rat_int h
 rw [scale_eq] at h1
 have hd:(x.den:Int)≠0:=by have:=x.den_nz;omega
 have:=(Rat.divInt_eq_divInt_iff hd (by decide:(1:Int)≠0)).1 h1
 rw [Int.mul_one] at this
 rw [scale_eq]
 exact this
theorem whole_iff (x:Rat):(x*scaleQ).den=1↔(x.num*1000000000).tmod x.den=0:=by
 constructor
 ·intro h
  rw [whole_z h]
  exact Int.mul_tmod_left _ _
 ·intro h
  have hd:(x.den:Int)≠0:=by have:=x.den_nz;omega
  have e:=Int.mul_tdiv_add_tmod (x.num*1000000000) x.den
  rw [h,Int.add_zero] at e
  rw [scale_eq,← e]
  have:=Rat.divInt_mul_right (n:=(x.num*1000000000).tdiv x.den) (d:=1) (a:=x.den) hd
  rw [Int.one_mul,Int.mul_comm _ (x.den:Int)] at this
  rw [this]
  exact (divInt_one _).1
theorem whole_num {x:Rat} (h:(x*scaleQ).den=1):(x*scaleQ).num=(x.num*1000000000).tdiv x.den:=by
 have hd:(x.den:Int)≠0:=by have:=x.den_nz;omega
 rw [whole_z h,Int.mul_tdiv_cancel _ hd]
theorem padU_step {x:List UInt8} (h:x.length<10):padU (48::x)=padU x:=by
 unfold padU
 rw [List.length_cons,show 10 - x.length=(10 - (x.length+1))+1 by omega,List.replicate_succ',List.append_assoc]
 rfl
theorem padU_end {x:List UInt8} (h:10≤x.length):padU x=x:=by
 unfold padU
 rw [show 10 - x.length=0 by omega];rfl
theorem inL_step {u:Un} {i:Nat} (h:i<12):decide (u∈uL.take (i+1))=(decide (u∈uL.take i) || decide (uL.getD i noUn=u)):=by
 rw [List.take_add_one,getD_some (d:=noUn) (show i<uL.length from h)]
 by_cases e1:u∈uL.take i
 ·rw [decide_eq_true e1,Bool.true_or]
  exact decide_eq_true (List.mem_append.2 (.inl e1))
 ·rw [decide_eq_false e1,Bool.false_or]
  exact decide_eq_decide.2 ⟨fun q=>by
   rcases List.mem_append.1 q with q | q
   ·exact absurd q e1
   ·simpa using Eq.symm (by simpa using q),fun q=>List.mem_append.2 (.inr (by rw [← q];simp))⟩
set_option maxHeartbeats 16000000 in
set_option maxRecDepth 100000 in
theorem ruconv_spec (s:List UInt8) (hs:s.length≤9223372036854775807) (u:Un):Ctr Tryz.prog G 20 [.d (S s),.d (.agg (UnC u))] [] (.d (TB (convU s u))) []:=by
 obtain ⟨r,hr⟩:∃ r,r=convU s u:=⟨_,rfl⟩
 rw [← hr]
 unfold convU at hr
 refine Ctr.pure (M:=M0) hmix Tryz.func20 rfl go20 ?_
 have sp:=Num.rdecimal_spec (G:=G) s (by omega)
 cases ok:Num.decOk s
 ·rw [if_neg (fun h=>absurd (ok▸h.1) Bool.false_ne_true)] at hr
  rw [ok,if_neg Bool.false_ne_true] at sp
  subst hr
  simp (config:={maxSteps:=1000000}) (disch:=((try simp only [awL]);omega)) only [QR,QS,QT,QU,QV,QW,QX,QY,QZ,Q0,Q1,Q2,Tryz.f20,↓awU,awV,awF,Qa,Qb,Qc,Qd,forall_const,↓reduceIte,↓reduceDIte,↓Qe,Qf,Qg,Qh,Qi,Qj,Qk,Ql,Qm,Qn,Qo,Qp,Qq,Qr,Qs,implies_true,Qt,Qu,Qv,Qw,Qx,Qy,Qz,QA,QB,QC,QD,QE,QF,QG,QH,QI,QJ,QK,QL,QM,QN,QO,QP,QQ]
  refine CallC.of sp (by rfl) ?_
  simp (config:={maxSteps:=1000000}) (disch:=((try simp only [awL]);omega)) only [QR,QS,QT,QU,QV,QW,QX,QY,QZ,Q0,Q1,Q2,↓awU,awV,awF,Qa,Qb,Qc,Qd,forall_const,↓reduceIte,↓reduceDIte,↓Qe,Qf,Qg,Qh,Qi,Qj,Qk,Ql,Qm,Qn,Qo,Qp,Qq,Qr,Qs,implies_true,Qt,Qu,Qv,Qw,Qx,Qy,Qz,QA,QB,QC,QD,QE,QF,QG,QH,QI,QJ,QK,QL,QM,QN,QO,QP,QQ]
  refine CallC.of runits_spec (by rfl) ?_
  simp (config:={maxSteps:=1000000}) (disch:=((try simp only [awL]);omega)) only [QR,QS,QT,QU,QV,QW,QX,QY,QZ,Q0,Q1,Q2,↓awU,awV,awF,Qa,Qb,Qc,Qd,forall_const,↓reduceIte,↓reduceDIte,↓Qe,Qf,Qg,Qh,Qi,Qj,Qk,Ql,Qm,Qn,Qo,Qp,Qq,Qr,Qs,implies_true,Qt,Qu,Qv,Qw,Qx,Qy,Qz,QA,QB,QC,QD,QE,QF,QG,QH,QI,QJ,QK,QL,QM,QN,QO,QP,QQ]
  refine LoopC.fx 201326792 (α:=Nat) (β:=Unit) (fun i=>12 - i) (fun i=>[(8,.d (.bool (decide (u∈uL.take i)))),(28,.d (.int .i64 (i:Nat)))])
   (fun _=>[.box [.d (S u.1),.d (S u.2.1),.d (.int .i64 u.2.2.1),.d (.int .i64 u.2.2.2)],.box [.d (.bool false),.d (.sl 0 false []),.d (.bool false),.d (.sl 0 false [])]]) (fun i=>i≤12)
   200 (fun _=>[(8,.d (.bool (decide (u∈uL))))]) (fun _=>[.box [.d (S u.1),.d (S u.2.1),.d (.int .i64 u.2.2.1),.d (.int .i64 u.2.2.2)],.box [.d (.bool false),.d (.sl 0 false []),.d (.bool false),.d (.sl 0 false [])]]) (fun _=>True) 0 (Nat.zero_le _) ?_ ?_ ?_
  ·exact ⟨[some 0,some 1],rfl,by simp,by simp [setsA,keepA,SWeak,AWeak],by simp [HWeak,BWeak,SWeak,AWeak]⟩
  ·intro i hi
   simp only [awK,Nat.reduceMod,Nat.reduceDiv,reduceIte]
   rcases Nat.lt_or_ge i 12 with h | h
   ·have gu:=unsD_get (l:=uL) (k:=i) h
    have st:=inL_step (u:=u) h
    generalize uL.getD i noUn=x at *
    have gu:((unsD uL).drop (i*4)).take 4=[S x.1,S x.2.1,.int .i64 x.2.2.1,.int .i64 x.2.2.2]:=gu
    cases e1:decide (u∈uL.take i)
    ·rw [e1,Bool.false_or] at st
     have hd:(decide (x.1=u.1) && (decide (x.2.1=u.2.1) && (decide (x.2.2.1=u.2.2.1) && decide (x.2.2.2=u.2.2.2))))=decide (x=u):=by
      obtain ⟨x0,x1,x2,x3⟩:=x
      obtain ⟨u0,u1,u2,u3⟩:=u
      by_cases q:((x0,x1,x2,x3):Un)=(u0,u1,u2,u3)
      ·rw [decide_eq_true q];injection q with q1 q;injection q with q2 q;injection q with q3 q4;subst q1 q2 q3 q4;simp
      ·rw [decide_eq_false q]
       cases q5:(decide (x0=u0) && (decide (x1=u1) && (decide (x2=u2) && decide (x3=u3))))
       ·rfl
       ·simp only [Bool.and_eq_true,decide_eq_true_eq] at q5
        exact absurd (by rw [q5.1,q5.2.1,q5.2.2.1,q5.2.2.2]) q
     simp (config:={maxSteps:=1000000}) (disch:=((try simp only [awL]);omega)) only [QR,QS,QT,QU,QV,QW,QX,QY,QZ,Q0,Q1,Q2,gu,uL_unf,↓awU,awV,awF,Qa,Qb,Qc,Qd,forall_const,↓reduceIte,↓reduceDIte,↓Qe,Qf,Qg,Qh,Qi,Qj,Qk,Ql,Qm,Qn,Qo,Qp,Qq,Qr,Qs,implies_true,Qt,Qu,Qv,Qw,Qx,Qy,Qz,QA,QB,QC,QD,QE,QF,QG,QH,QI,QJ,QK,QL,QM,QN,QO,QP,QQ]
     rw [← hd] at st
     first
     | exact ⟨i+1,h,by simp only;omega,⟨[some 0,some 1],rfl,by simp,by simp [setsA,keepA,SWeak,AWeak,st],by simp [HWeak,BWeak,SWeak,AWeak]⟩⟩
     | exact ⟨by rfl,i+1,h,by simp only;omega,⟨[some 0,some 1],rfl,by simp,by simp [setsA,keepA,SWeak,AWeak,st],by simp [HWeak,BWeak,SWeak,AWeak]⟩⟩
    ·rw [e1,Bool.true_or] at st
     simp (config:={maxSteps:=1000000}) (disch:=((try simp only [awL]);omega)) only [QR,QS,QT,QU,QV,QW,QX,QY,QZ,Q0,Q1,Q2,gu,uL_unf,↓awU,awV,awF,Qa,Qb,Qc,Qd,forall_const,↓reduceIte,↓reduceDIte,↓Qe,Qf,Qg,Qh,Qi,Qj,Qk,Ql,Qm,Qn,Qo,Qp,Qq,Qr,Qs,implies_true,Qt,Qu,Qv,Qw,Qx,Qy,Qz,QA,QB,QC,QD,QE,QF,QG,QH,QI,QJ,QK,QL,QM,QN,QO,QP,QQ]
     first
     | exact ⟨i+1,h,by simp only;omega,⟨[some 0,some 1],rfl,by simp,by simp [setsA,keepA,SWeak,AWeak,st],by simp [HWeak,BWeak,SWeak,AWeak]⟩⟩
     | exact ⟨by rfl,i+1,h,by simp only;omega,⟨[some 0,some 1],rfl,by simp,by simp [setsA,keepA,SWeak,AWeak,st],by simp [HWeak,BWeak,SWeak,AWeak]⟩⟩
   ·have e:i=12:=by omega
    subst e
    rw [show uL.take 12=uL from rfl]
    simp (config:={maxSteps:=1000000}) (disch:=((try simp only [awL]);omega)) only [QR,QS,QT,QU,QV,QW,QX,QY,QZ,Q0,Q1,Q2,uL_unf,↓awU,awV,awF,Qa,Qb,Qc,Qd,forall_const,↓reduceIte,↓reduceDIte,↓Qe,Qf,Qg,Qh,Qi,Qj,Qk,Ql,Qm,Qn,Qo,Qp,Qq,Qr,Qs,implies_true,Qt,Qu,Qv,Qw,Qx,Qy,Qz,QA,QB,QC,QD,QE,QF,QG,QH,QI,QJ,QK,QL,QM,QN,QO,QP,QQ]
    exact ⟨(),trivial,⟨[some 0,some 1],rfl,by simp,by simp [setsA,keepA,SWeak,AWeak],by simp [HWeak,BWeak,SWeak,AWeak]⟩⟩
  ·rintro ⟨⟩ -
   simp only [awK,Nat.reduceMod,Nat.reduceDiv,reduceIte]
   simp (config:={maxSteps:=1000000}) (disch:=((try simp only [awL]);omega)) only [QR,QS,QT,QU,QV,QW,QX,QY,QZ,Q0,Q1,Q2,aseq_normal,aseq_ret,↓awU,awV,awF,Qa,Qb,Qc,Qd,forall_const,↓reduceIte,↓reduceDIte,↓Qe,Qf,Qg,Qh,Qi,Qj,Qk,Ql,Qm,Qn,Qo,Qp,Qq,Qr,Qs,implies_true,Qt,Qu,Qv,Qw,Qx,Qy,Qz,QA,QB,QC,QD,QE,QF,QG,QH,QI,QJ,QK,QL,QM,QN,QO,QP,QQ]
   first | done | rfl
 ·have fw:=decVal_fw ok
  rw [ok,if_pos rfl] at sp
  generalize Num.decVal s=f at *
  simp (config:={maxSteps:=1000000}) (disch:=((try simp only [awL]);omega)) only [QR,QS,QT,QU,QV,QW,QX,QY,QZ,Q0,Q1,Q2,Tryz.f20,↓awU,awV,awF,Qa,Qb,Qc,Qd,forall_const,↓reduceIte,↓reduceDIte,↓Qe,Qf,Qg,Qh,Qi,Qj,Qk,Ql,Qm,Qn,Qo,Qp,Qq,Qr,Qs,implies_true,Qt,Qu,Qv,Qw,Qx,Qy,Qz,QA,QB,QC,QD,QE,QF,QG,QH,QI,QJ,QK,QL,QM,QN,QO,QP,QQ]
  refine CallC.of sp (by rfl) ?_
  simp (config:={maxSteps:=1000000}) (disch:=((try simp only [awL]);omega)) only [QR,QS,QT,QU,QV,QW,QX,QY,QZ,Q0,Q1,Q2,↓awU,awV,awF,Qa,Qb,Qc,Qd,forall_const,↓reduceIte,↓reduceDIte,↓Qe,Qf,Qg,Qh,Qi,Qj,Qk,Ql,Qm,Qn,Qo,Qp,Qq,Qr,Qs,implies_true,Qt,Qu,Qv,Qw,Qx,Qy,Qz,QA,QB,QC,QD,QE,QF,QG,QH,QI,QJ,QK,QL,QM,QN,QO,QP,QQ]
  refine CallC.of runits_spec (by rfl) ?_
  simp (config:={maxSteps:=1000000}) (disch:=((try simp only [awL]);omega)) only [QR,QS,QT,QU,QV,QW,QX,QY,QZ,Q0,Q1,Q2,↓awU,awV,awF,Qa,Qb,Qc,Qd,forall_const,↓reduceIte,↓reduceDIte,↓Qe,Qf,Qg,Qh,Qi,Qj,Qk,Ql,Qm,Qn,Qo,Qp,Qq,Qr,Qs,implies_true,Qt,Qu,Qv,Qw,Qx,Qy,Qz,QA,QB,QC,QD,QE,QF,QG,QH,QI,QJ,QK,QL,QM,QN,QO,QP,QQ]
  refine LoopC.fx 201326792 (α:=Nat) (β:=Unit) (fun i=>12 - i) (fun i=>[(8,.d (.bool (decide (u∈uL.take i)))),(28,.d (.int .i64 (i:Nat)))])
   (fun _=>[.box [.d (S u.1),.d (S u.2.1),.d (.int .i64 u.2.2.1),.d (.int .i64 u.2.2.2)],FB f]) (fun i=>i≤12)
   200 (fun _=>[(8,.d (.bool (decide (u∈uL))))]) (fun _=>[.box [.d (S u.1),.d (S u.2.1),.d (.int .i64 u.2.2.1),.d (.int .i64 u.2.2.2)],FB f]) (fun _=>True) 0 (Nat.zero_le _) ?_ ?_ ?_
  ·exact ⟨[some 0,some 1],rfl,by simp,by simp [setsA,keepA,SWeak,AWeak],by simp [HWeak,BWeak,SWeak,AWeak]⟩
  ·intro i hi
   simp only [awK,Nat.reduceMod,Nat.reduceDiv,reduceIte]
   rcases Nat.lt_or_ge i 12 with h | h
   ·have gu:=unsD_get (l:=uL) (k:=i) h
    have st:=inL_step (u:=u) h
    generalize uL.getD i noUn=x at *
    have gu:((unsD uL).drop (i*4)).take 4=[S x.1,S x.2.1,.int .i64 x.2.2.1,.int .i64 x.2.2.2]:=gu
    cases e1:decide (u∈uL.take i)
    ·rw [e1,Bool.false_or] at st
     have hd:(decide (x.1=u.1) && (decide (x.2.1=u.2.1) && (decide (x.2.2.1=u.2.2.1) && decide (x.2.2.2=u.2.2.2))))=decide (x=u):=by
      obtain ⟨x0,x1,x2,x3⟩:=x
      obtain ⟨u0,u1,u2,u3⟩:=u
      by_cases q:((x0,x1,x2,x3):Un)=(u0,u1,u2,u3)
      ·rw [decide_eq_true q];injection q with q1 q;injection q with q2 q;injection q with q3 q4;subst q1 q2 q3 q4;simp
      ·rw [decide_eq_false q]
       cases q5:(decide (x0=u0) && (decide (x1=u1) && (decide (x2=u2) && decide (x3=u3))))
       ·rfl
       ·simp only [Bool.and_eq_true,decide_eq_true_eq] at q5
        exact absurd (by rw [q5.1,q5.2.1,q5.2.2.1,q5.2.2.2]) q
     simp (config:={maxSteps:=1000000}) (disch:=((try simp only [awL]);omega)) only [QR,QS,QT,QU,QV,QW,QX,QY,QZ,Q0,Q1,Q2,gu,uL_unf,↓awU,awV,awF,Qa,Qb,Qc,Qd,forall_const,↓reduceIte,↓reduceDIte,↓Qe,Qf,Qg,Qh,Qi,Qj,Qk,Ql,Qm,Qn,Qo,Qp,Qq,Qr,Qs,implies_true,Qt,Qu,Qv,Qw,Qx,Qy,Qz,QA,QB,QC,QD,QE,QF,QG,QH,QI,QJ,QK,QL,QM,QN,QO,QP,QQ]
     rw [← hd] at st
     first
     | exact ⟨i+1,h,by simp only;omega,⟨[some 0,some 1],rfl,by simp,by simp [setsA,keepA,SWeak,AWeak,st],by simp [HWeak,BWeak,SWeak,AWeak]⟩⟩
     | exact ⟨by rfl,i+1,h,by simp only;omega,⟨[some 0,some 1],rfl,by simp,by simp [setsA,keepA,SWeak,AWeak,st],by simp [HWeak,BWeak,SWeak,AWeak]⟩⟩
    ·rw [e1,Bool.true_or] at st
     simp (config:={maxSteps:=1000000}) (disch:=((try simp only [awL]);omega)) only [QR,QS,QT,QU,QV,QW,QX,QY,QZ,Q0,Q1,Q2,gu,uL_unf,↓awU,awV,awF,Qa,Qb,Qc,Qd,forall_const,↓reduceIte,↓reduceDIte,↓Qe,Qf,Qg,Qh,Qi,Qj,Qk,Ql,Qm,Qn,Qo,Qp,Qq,Qr,Qs,implies_true,Qt,Qu,Qv,Qw,Qx,Qy,Qz,QA,QB,QC,QD,QE,QF,QG,QH,QI,QJ,QK,QL,QM,QN,QO,QP,QQ]
     first
     | exact ⟨i+1,h,by simp only;omega,⟨[some 0,some 1],rfl,by simp,by simp [setsA,keepA,SWeak,AWeak,st],by simp [HWeak,BWeak,SWeak,AWeak]⟩⟩
     | exact ⟨by rfl,i+1,h,by simp only;omega,⟨[some 0,some 1],rfl,by simp,by simp [setsA,keepA,SWeak,AWeak,st],by simp [HWeak,BWeak,SWeak,AWeak]⟩⟩
   ·have e:i=12:=by omega
    subst e
    rw [show uL.take 12=uL from rfl]
    simp (config:={maxSteps:=1000000}) (disch:=((try simp only [awL]);omega)) only [QR,QS,QT,QU,QV,QW,QX,QY,QZ,Q0,Q1,Q2,uL_unf,↓awU,awV,awF,Qa,Qb,Qc,Qd,forall_const,↓reduceIte,↓reduceDIte,↓Qe,Qf,Qg,Qh,Qi,Qj,Qk,Ql,Qm,Qn,Qo,Qp,Qq,Qr,Qs,implies_true,Qt,Qu,Qv,Qw,Qx,Qy,Qz,QA,QB,QC,QD,QE,QF,QG,QH,QI,QJ,QK,QL,QM,QN,QO,QP,QQ]
    exact ⟨(),trivial,⟨[some 0,some 1],rfl,by simp,by simp [setsA,keepA,SWeak,AWeak],by simp [HWeak,BWeak,SWeak,AWeak]⟩⟩
  ·rintro ⟨⟩ -
   simp only [awK,Nat.reduceMod,Nat.reduceDiv,reduceIte]
   by_cases um:u∈uL
   ·rw [decide_eq_true um]
    rw [if_pos ⟨ok,um⟩] at hr
    obtain ⟨u1,u2,u3,u4⟩:=uL_ok u um
    have uf:=(fw_un um).1
    have pf:=Num.Fw_mul fw uf
    have of2:=rofN_spec (G:=G) u.2.2.1 u.2.2.2 (by omega) (by omega) (by omega) (by omega) (by omega)
    generalize Rat.divInt u.2.2.1 u.2.2.2=y at *
    have mu:=rmulW_spec (G:=G) (fw.fv (by decide)) (uf.fv (by decide)) (pf.fv (by decide))
    generalize f*y=X at *
    simp (config:={maxSteps:=1000000}) (disch:=((try simp only [awL]);omega)) only [QR,QS,QT,QU,QV,QW,QX,QY,QZ,Q0,Q1,Q2,aseq_normal,aseq_ret,↓awU,awV,awF,Qa,Qb,Qc,Qd,forall_const,↓reduceIte,↓reduceDIte,↓Qe,Qf,Qg,Qh,Qi,Qj,Qk,Ql,Qm,Qn,Qo,Qp,Qq,Qr,Qs,implies_true,Qt,Qu,Qv,Qw,Qx,Qy,Qz,QA,QB,QC,QD,QE,QF,QG,QH,QI,QJ,QK,QL,QM,QN,QO,QP,QQ]
    refine CallC.of of2 (by rfl) ?_
    simp (config:={maxSteps:=1000000}) (disch:=((try simp only [awL]);omega)) only [QR,QS,QT,QU,QV,QW,QX,QY,QZ,Q0,Q1,Q2,↓awU,awV,awF,Qa,Qb,Qc,Qd,forall_const,↓reduceIte,↓reduceDIte,↓Qe,Qf,Qg,Qh,Qi,Qj,Qk,Ql,Qm,Qn,Qo,Qp,Qq,Qr,Qs,implies_true,Qt,Qu,Qv,Qw,Qx,Qy,Qz,QA,QB,QC,QD,QE,QF,QG,QH,QI,QJ,QK,QL,QM,QN,QO,QP,QQ]
    refine CallC.of mu (by rfl) ?_
    simp (config:={maxSteps:=1000000}) (disch:=((try simp only [awL]);omega)) only [QR,QS,QT,QU,QV,QW,QX,QY,QZ,Q0,Q1,Q2,↓awU,awV,awF,Qa,Qb,Qc,Qd,forall_const,↓reduceIte,↓reduceDIte,↓Qe,Qf,Qg,Qh,Qi,Qj,Qk,Ql,Qm,Qn,Qo,Qp,Qq,Qr,Qs,implies_true,Qt,Qu,Qv,Qw,Qx,Qy,Qz,QA,QB,QC,QD,QE,QF,QG,QH,QI,QJ,QK,QL,QM,QN,QO,QP,QQ]
    refine CallC.of (Num.rfromInt_spec 1000000000 (by decide) (by decide)) (by rfl) ?_
    have nz:X.den≠0:=X.den_nz
    have pf1:=pf.1
    have pf2:Num.sz (X.den:Int)≤26:=by simpa [Num.sz] using pf.2
    have bsz:Num.sz 1000000000≤2:=Num.sz_int (by decide) (by decide)
    have nsz:=@Num.sz_mul X.num 1000000000
    have ti:=Num.rtimes_spec (G:=G) X.num 1000000000 (by omega) (by omega)
    have di:=Num.rdivBig_spec (G:=G) (X.num*1000000000) X.den (by omega) (by omega)
    rw [if_neg (by omega),if_neg (by omega),if_neg (by omega)] at di
    have wi:=whole_iff X
    have wn:=@whole_num X
    unfold decU dcT Num.textF at hr
    simp (config:={maxSteps:=1000000}) (disch:=((try simp only [awL]);omega)) only [QR,QS,QT,QU,QV,QW,QX,QY,QZ,Q0,Q1,Q2,↓awU,awV,awF,Qa,Qb,Qc,Qd,forall_const,↓reduceIte,↓reduceDIte,↓Qe,Qf,Qg,Qh,Qi,Qj,Qk,Ql,Qm,Qn,Qo,Qp,Qq,Qr,Qs,implies_true,Qt,Qu,Qv,Qw,Qx,Qy,Qz,QA,QB,QC,QD,QE,QF,QG,QH,QI,QJ,QK,QL,QM,QN,QO,QP,QQ]
    refine CallC.of ti (by rfl) ?_
    simp (config:={maxSteps:=1000000}) (disch:=((try simp only [awL]);omega)) only [QR,QS,QT,QU,QV,QW,QX,QY,QZ,Q0,Q1,Q2,↓awU,awV,awF,Qa,Qb,Qc,Qd,forall_const,↓reduceIte,↓reduceDIte,↓Qe,Qf,Qg,Qh,Qi,Qj,Qk,Ql,Qm,Qn,Qo,Qp,Qq,Qr,Qs,implies_true,Qt,Qu,Qv,Qw,Qx,Qy,Qz,QA,QB,QC,QD,QE,QF,QG,QH,QI,QJ,QK,QL,QM,QN,QO,QP,QQ]
    generalize hN:X.num*1000000000=N at *
    have bd:Num.Big (X.den:Int)=.agg [.bool false,Num.W (Num.toW X.den)]:=by rw [Num.Big,Num.bigL_nat]
    refine CallC.of di (by rw [bd]) ?_
    have xs:=Num.Fw_mul pf scale_fw
    have zs:=xs.1
    generalize X*scaleQ=Z at *
    by_cases e0:N.tmod X.den=0
    ·have dn:=wi.2 e0
     have wn:=wn dn
     rw [if_pos dn,if_neg Num.textB_slash,wn] at hr
     rw [wn] at zs
     rw [e0]
     generalize N.tdiv X.den=q at *
     have tz:Num.toW (0:Int).natAbs=[]:=Num.toW_zero
     have tb:=Num.rtextBig_spec (G:=G) q (by omega)
     obtain ⟨hu1,hu2⟩:=unP_text (z:=q) (by omega)
     have tl:=@Num.textB_len q
     have g0:(Num.textB q).getD 0 0=45↔q<0:=by
      rw [textB_sg (by omega)]
      have:=(Decs.body_sg (whole_two q.natAbs) (sgc q)).2.2.2
      rw [pt_nil] at this
      rw [this]
      by_cases e:q<0
      ·rw [if_pos e];simp [e]
      ·rw [if_neg e];simp [e]
     have t1:0<(Num.textB q).length:=by
      rw [textB_sg (by omega)]
      have:=(decS_dg q.natAbs).2
      unfold Decs.sg
      by_cases e:q<0
      ·rw [if_pos e];simp
      ·rw [if_neg e];exact this
     unfold outU at hr
     rw [hu2] at hr
     have hv:unP (Num.textB q)=(if decide (q<0)=true then (Num.textB q).drop 1 else Num.textB q):=by unfold unP;rw [hu2]
     rw [hv] at hr
     generalize Num.textB q=d at *
     simp (config:={maxSteps:=1000000}) (disch:=((try simp only [awL]);omega)) only [QR,QS,QT,QU,QV,QW,QX,QY,QZ,Q0,Q1,Q2,tz,List.length_nil,↓awU,awV,awF,Qa,Qb,Qc,Qd,forall_const,↓reduceIte,↓reduceDIte,↓Qe,Qf,Qg,Qh,Qi,Qj,Qk,Ql,Qm,Qn,Qo,Qp,Qq,Qr,Qs,implies_true,Qt,Qu,Qv,Qw,Qx,Qy,Qz,QA,QB,QC,QD,QE,QF,QG,QH,QI,QJ,QK,QL,QM,QN,QO,QP,QQ]
     refine ⟨by rfl,?_⟩
     refine CallC.of tb (by rfl) ?_
     by_cases e1:q<0
     ·have e1':(((d.getD 0 0).toNat:Int)=45)=True:=eq_true (by rw [g0.2 e1];rfl)
      rw [decide_eq_true e1,if_pos rfl,if_pos rfl] at hr
      simp (config:={maxSteps:=1000000}) (disch:=((try simp only [awL]);omega)) only [QR,QS,QT,QU,QV,QW,QX,QY,QZ,Q0,Q1,Q2,e1',↓awU,awV,awF,Qa,Qb,Qc,Qd,forall_const,↓reduceIte,↓reduceDIte,↓Qe,Qf,Qg,Qh,Qi,Qj,Qk,Ql,Qm,Qn,Qo,Qp,Qq,Qr,Qs,implies_true,Qt,Qu,Qv,Qw,Qx,Qy,Qz,QA,QB,QC,QD,QE,QF,QG,QH,QI,QJ,QK,QL,QM,QN,QO,QP,QQ]
      obtain ⟨v,hv⟩:∃ v,v=d.drop 1:=⟨_,rfl⟩
      rw [← hv] at hr ⊢
      have vl:v.length≤6000:=by rw [hv];simp;omega
      refine LoopC.fx 262144 (α:=List UInt8) (β:=Unit) (fun x=>10 - x.length) (fun x=>[(17,.d (S x))])
       (fun _=>[.dead]) (fun x=>x.length≤6000∧padU v=padU x)
       262144 (fun _=>[(17,.d (S (padU v)))]) (fun _=>[.dead]) (fun _=>True) v ⟨by omega,rfl⟩ ?_ ?_ ?_
      ·exact ⟨[some 0],rfl,by simp,by simp [setsA,keepA,SWeak,AWeak],by simp [HWeak,BWeak,SWeak,AWeak]⟩
      ·rintro x ⟨h1,h2⟩
       simp only [awK,Nat.reduceMod,Nat.reduceDiv,reduceIte]
       rcases Nat.lt_or_ge x.length 10 with h | h
       ·simp (config:={maxSteps:=1000000}) (disch:=((try simp only [awL]);omega)) only [QR,QS,QT,QU,QV,QW,QX,QY,QZ,Q0,Q1,Q2,↓awU,awV,awF,Qa,Qb,Qc,Qd,forall_const,↓reduceIte,↓reduceDIte,↓Qe,Qf,Qg,Qh,Qi,Qj,Qk,Ql,Qm,Qn,Qo,Qp,Qq,Qr,Qs,implies_true,Qt,Qu,Qv,Qw,Qx,Qy,Qz,QA,QB,QC,QD,QE,QF,QG,QH,QI,QJ,QK,QL,QM,QN,QO,QP,QQ]
        exact ⟨48::x,⟨by rw [List.length_cons];omega,by rw [h2,padU_step h]⟩,by simp only [List.length_cons];omega,⟨[some 0],rfl,by simp,by simp [setsA,keepA,SWeak,AWeak],by simp [HWeak,BWeak,SWeak,AWeak]⟩⟩
       ·rw [padU_end h] at h2
        simp (config:={maxSteps:=1000000}) (disch:=((try simp only [awL]);omega)) only [QR,QS,QT,QU,QV,QW,QX,QY,QZ,Q0,Q1,Q2,↓awU,awV,awF,Qa,Qb,Qc,Qd,forall_const,↓reduceIte,↓reduceDIte,↓Qe,Qf,Qg,Qh,Qi,Qj,Qk,Ql,Qm,Qn,Qo,Qp,Qq,Qr,Qs,implies_true,Qt,Qu,Qv,Qw,Qx,Qy,Qz,QA,QB,QC,QD,QE,QF,QG,QH,QI,QJ,QK,QL,QM,QN,QO,QP,QQ]
        exact ⟨(),trivial,⟨[some 0],rfl,by simp,by simp [setsA,keepA,SWeak,AWeak,h2],by simp [HWeak,BWeak,SWeak,AWeak]⟩⟩
      ·rintro ⟨⟩ -
       have pl:10≤(padU v).length∧(padU v).length≤6010:=by unfold padU;rw [List.length_append,List.length_replicate];omega
       generalize padU v=p at *
       unfold dotU at hr
       simp only [awK,Nat.reduceMod,Nat.reduceDiv,reduceIte]
       have ei:(((p.length:Int) - 9).toNat)=p.length - 9:=by omega
       simp (config:={maxSteps:=1000000}) (disch:=((try simp only [awL]);omega)) only [QR,QS,QT,QU,QV,QW,QX,QY,QZ,Q0,Q1,Q2,aseq_normal,aseq_ret,ei,↓awU,awV,awF,Qa,Qb,Qc,Qd,forall_const,↓reduceIte,↓reduceDIte,↓Qe,Qf,Qg,Qh,Qi,Qj,Qk,Ql,Qm,Qn,Qo,Qp,Qq,Qr,Qs,implies_true,Qt,Qu,Qv,Qw,Qx,Qy,Qz,QA,QB,QC,QD,QE,QF,QG,QH,QI,QJ,QK,QL,QM,QN,QO,QP,QQ]
       obtain ⟨o,ho⟩:∃ o,o=List.take (p.length - 9) p++[46]++List.drop (p.length - 9) p:=⟨_,rfl⟩
       rw [← ho] at hr ⊢
       have ol:o.length≤7000:=by rw [ho];simp;omega
       clear ho
       refine ⟨by rfl,?_⟩
       refine CallC.of (rcanon4_spec ([45]++o) (by simp;omega)) (by rfl) ?_
       rw [← hr]
       simp (config:={maxSteps:=1000000}) (disch:=((try simp only [awL]);omega)) only [QR,QS,QT,QU,QV,QW,QX,QY,QZ,Q0,Q1,Q2,↓awU,awV,awF,Qa,Qb,Qc,Qd,forall_const,↓reduceIte,↓reduceDIte,↓Qe,Qf,Qg,Qh,Qi,Qj,Qk,Ql,Qm,Qn,Qo,Qp,Qq,Qr,Qs,implies_true,Qt,Qu,Qv,Qw,Qx,Qy,Qz,QA,QB,QC,QD,QE,QF,QG,QH,QI,QJ,QK,QL,QM,QN,QO,QP,QQ]
       first | done | rfl
     ·have e1':(((d.getD 0 0).toNat:Int)=45)=False:=eq_false (fun z=>e1 (g0.1 (UInt8.toNat_inj.1 (by show (d.getD 0 0).toNat=45;omega))))
      rw [decide_eq_false e1,if_neg Bool.false_ne_true,if_neg Bool.false_ne_true] at hr
      simp (config:={maxSteps:=1000000}) (disch:=((try simp only [awL]);omega)) only [QR,QS,QT,QU,QV,QW,QX,QY,QZ,Q0,Q1,Q2,e1',↓awU,awV,awF,Qa,Qb,Qc,Qd,forall_const,↓reduceIte,↓reduceDIte,↓Qe,Qf,Qg,Qh,Qi,Qj,Qk,Ql,Qm,Qn,Qo,Qp,Qq,Qr,Qs,implies_true,Qt,Qu,Qv,Qw,Qx,Qy,Qz,QA,QB,QC,QD,QE,QF,QG,QH,QI,QJ,QK,QL,QM,QN,QO,QP,QQ]
      obtain ⟨v,hv⟩:∃ v,v=d:=⟨_,rfl⟩
      rw [← hv] at hr ⊢
      have vl:v.length≤6000:=by rw [hv];omega
      refine LoopC.fx 262144 (α:=List UInt8) (β:=Unit) (fun x=>10 - x.length) (fun x=>[(17,.d (S x))])
       (fun _=>[.dead]) (fun x=>x.length≤6000∧padU v=padU x)
       262144 (fun _=>[(17,.d (S (padU v)))]) (fun _=>[.dead]) (fun _=>True) v ⟨by omega,rfl⟩ ?_ ?_ ?_
      ·exact ⟨[some 0],rfl,by simp,by simp [setsA,keepA,SWeak,AWeak],by simp [HWeak,BWeak,SWeak,AWeak]⟩
      ·rintro x ⟨h1,h2⟩
       simp only [awK,Nat.reduceMod,Nat.reduceDiv,reduceIte]
       rcases Nat.lt_or_ge x.length 10 with h | h
       ·simp (config:={maxSteps:=1000000}) (disch:=((try simp only [awL]);omega)) only [QR,QS,QT,QU,QV,QW,QX,QY,QZ,Q0,Q1,Q2,↓awU,awV,awF,Qa,Qb,Qc,Qd,forall_const,↓reduceIte,↓reduceDIte,↓Qe,Qf,Qg,Qh,Qi,Qj,Qk,Ql,Qm,Qn,Qo,Qp,Qq,Qr,Qs,implies_true,Qt,Qu,Qv,Qw,Qx,Qy,Qz,QA,QB,QC,QD,QE,QF,QG,QH,QI,QJ,QK,QL,QM,QN,QO,QP,QQ]
        exact ⟨48::x,⟨by rw [List.length_cons];omega,by rw [h2,padU_step h]⟩,by simp only [List.length_cons];omega,⟨[some 0],rfl,by simp,by simp [setsA,keepA,SWeak,AWeak],by simp [HWeak,BWeak,SWeak,AWeak]⟩⟩
       ·rw [padU_end h] at h2
        simp (config:={maxSteps:=1000000}) (disch:=((try simp only [awL]);omega)) only [QR,QS,QT,QU,QV,QW,QX,QY,QZ,Q0,Q1,Q2,↓awU,awV,awF,Qa,Qb,Qc,Qd,forall_const,↓reduceIte,↓reduceDIte,↓Qe,Qf,Qg,Qh,Qi,Qj,Qk,Ql,Qm,Qn,Qo,Qp,Qq,Qr,Qs,implies_true,Qt,Qu,Qv,Qw,Qx,Qy,Qz,QA,QB,QC,QD,QE,QF,QG,QH,QI,QJ,QK,QL,QM,QN,QO,QP,QQ]
        exact ⟨(),trivial,⟨[some 0],rfl,by simp,by simp [setsA,keepA,SWeak,AWeak,h2],by simp [HWeak,BWeak,SWeak,AWeak]⟩⟩
      ·rintro ⟨⟩ -
       have pl:10≤(padU v).length∧(padU v).length≤6010:=by unfold padU;rw [List.length_append,List.length_replicate];omega
       generalize padU v=p at *
       unfold dotU at hr
       simp only [awK,Nat.reduceMod,Nat.reduceDiv,reduceIte]
       have ei:(((p.length:Int) - 9).toNat)=p.length - 9:=by omega
       simp (config:={maxSteps:=1000000}) (disch:=((try simp only [awL]);omega)) only [QR,QS,QT,QU,QV,QW,QX,QY,QZ,Q0,Q1,Q2,aseq_normal,aseq_ret,ei,↓awU,awV,awF,Qa,Qb,Qc,Qd,forall_const,↓reduceIte,↓reduceDIte,↓Qe,Qf,Qg,Qh,Qi,Qj,Qk,Ql,Qm,Qn,Qo,Qp,Qq,Qr,Qs,implies_true,Qt,Qu,Qv,Qw,Qx,Qy,Qz,QA,QB,QC,QD,QE,QF,QG,QH,QI,QJ,QK,QL,QM,QN,QO,QP,QQ]
       obtain ⟨o,ho⟩:∃ o,o=List.take (p.length - 9) p++[46]++List.drop (p.length - 9) p:=⟨_,rfl⟩
       rw [← ho] at hr ⊢
       have ol:o.length≤7000:=by rw [ho];simp;omega
       clear ho
       refine ⟨by rfl,?_⟩
       refine CallC.of (rcanon4_spec o (by omega)) (by rfl) ?_
       rw [← hr]
       simp (config:={maxSteps:=1000000}) (disch:=((try simp only [awL]);omega)) only [QR,QS,QT,QU,QV,QW,QX,QY,QZ,Q0,Q1,Q2,↓awU,awV,awF,Qa,Qb,Qc,Qd,forall_const,↓reduceIte,↓reduceDIte,↓Qe,Qf,Qg,Qh,Qi,Qj,Qk,Ql,Qm,Qn,Qo,Qp,Qq,Qr,Qs,implies_true,Qt,Qu,Qv,Qw,Qx,Qy,Qz,QA,QB,QC,QD,QE,QF,QG,QH,QI,QJ,QK,QL,QM,QN,QO,QP,QQ]
       first | done | rfl
    ·have dn:¬ Z.den=1:=fun z=>e0 (wi.1 z)
     rw [if_neg dn,if_pos (by simp)] at hr
     subst hr
     have wl:0<(Num.toW (N.tmod X.den).natAbs).length:=(Num.sz_pos).2 (by omega)
     generalize N.tmod X.den=rm at *
     simp (config:={maxSteps:=1000000}) (disch:=((try simp only [awL]);omega)) only [QR,QS,QT,QU,QV,QW,QX,QY,QZ,Q0,Q1,Q2,↓awU,awV,awF,Qa,Qb,Qc,Qd,forall_const,↓reduceIte,↓reduceDIte,↓Qe,Qf,Qg,Qh,Qi,Qj,Qk,Ql,Qm,Qn,Qo,Qp,Qq,Qr,Qs,implies_true,Qt,Qu,Qv,Qw,Qx,Qy,Qz,QA,QB,QC,QD,QE,QF,QG,QH,QI,QJ,QK,QL,QM,QN,QO,QP,QQ]
     first | done | rfl
   ·rw [decide_eq_false um]
    rw [if_neg (fun h=>um h.2)] at hr
    subst hr
    simp (config:={maxSteps:=1000000}) (disch:=((try simp only [awL]);omega)) only [QR,QS,QT,QU,QV,QW,QX,QY,QZ,Q0,Q1,Q2,aseq_normal,aseq_ret,↓awU,awV,awF,Qa,Qb,Qc,Qd,forall_const,↓reduceIte,↓reduceDIte,↓Qe,Qf,Qg,Qh,Qi,Qj,Qk,Ql,Qm,Qn,Qo,Qp,Qq,Qr,Qs,implies_true,Qt,Qu,Qv,Qw,Qx,Qy,Qz,QA,QB,QC,QD,QE,QF,QG,QH,QI,QJ,QK,QL,QM,QN,QO,QP,QQ]
    first | done | rfl
end Go.Proofs.YtkcghbpghjdgpaaGreatDoor
namespace Go.Proofs.YtkcghbpghjdgpaaGreatDoor
open Go Go.Proofs Go.Abs
variable {G:Globals}
set_option maxHeartbeats 16000000 in
set_option maxRecDepth 100000 in
theorem rbase_spec (s b:List UInt8) (hs:s.length≤9223372036854775807):Ctr Tryz.prog G 62 [.d (S b),.d (S s)] [] (.d (TB (basedU s b))) []:=by
 obtain ⟨r,hr⟩:∃ r,r=basedU s b:=⟨_,rfl⟩
 rw [← hr]
 unfold basedU at hr
 have sp:=rsplit_spec (G:=G) s (by omega)
 have nl:=splN_len s
 unfold splR at sp
 refine Ctr.pure (M:=M0) hmix Tryz.func62 rfl go62 ?_
 simp (config:={maxSteps:=1000000}) (disch:=((try simp only [awL]);omega)) only [QR,QS,QT,QU,QV,QW,QX,QY,QZ,Q0,Q1,Q2,Tryz.f62,↓awU,awV,awF,Qa,Qb,Qc,Qd,forall_const,↓reduceIte,↓reduceDIte,↓Qe,Qf,Qg,Qh,Qi,Qj,Qk,Ql,Qm,Qn,Qo,Qp,Qq,Qr,Qs,implies_true,Qt,Qu,Qv,Qw,Qx,Qy,Qz,QA,QB,QC,QD,QE,QF,QG,QH,QI,QJ,QK,QL,QM,QN,QO,QP,QQ]
 refine CallC.of sp (by rfl) ?_
 cases e:splU s with
 | none =>
  rw [e] at hr
  simp only at hr
  subst hr
  rw [Option.getD_none,Option.isSome_none]
  unfold noUn
  simp (config:={maxSteps:=1000000}) (disch:=((try simp only [awL]);omega)) only [QR,QS,QT,QU,QV,QW,QX,QY,QZ,Q0,Q1,Q2,↓awU,awV,awF,Qa,Qb,Qc,Qd,forall_const,↓reduceIte,↓reduceDIte,↓Qe,Qf,Qg,Qh,Qi,Qj,Qk,Ql,Qm,Qn,Qo,Qp,Qq,Qr,Qs,implies_true,Qt,Qu,Qv,Qw,Qx,Qy,Qz,QA,QB,QC,QD,QE,QF,QG,QH,QI,QJ,QK,QL,QM,QN,QO,QP,QQ]
  first | done | rfl
 | some u =>
  rw [e] at hr
  simp only at hr
  rw [Option.getD_some,Option.isSome_some]
  generalize splN s=n at *
  have cs:=ruconv_spec (G:=G) n (by omega) u
  obtain ⟨un,ub,up,uq⟩:=u
  simp only at hr
  by_cases e1:ub=b
  ·have e1':(ub=b)=True:=eq_true e1
   rw [if_pos e1] at hr
   rw [← hr] at cs
   simp (config:={maxSteps:=1000000}) (disch:=((try simp only [awL]);omega)) only [QR,QS,QT,QU,QV,QW,QX,QY,QZ,Q0,Q1,Q2,e1',↓awU,awV,awF,Qa,Qb,Qc,Qd,forall_const,↓reduceIte,↓reduceDIte,↓Qe,Qf,Qg,Qh,Qi,Qj,Qk,Ql,Qm,Qn,Qo,Qp,Qq,Qr,Qs,implies_true,Qt,Qu,Qv,Qw,Qx,Qy,Qz,QA,QB,QC,QD,QE,QF,QG,QH,QI,QJ,QK,QL,QM,QN,QO,QP,QQ]
   refine CallC.of cs (by rfl) ?_
   simp (config:={maxSteps:=1000000}) (disch:=((try simp only [awL]);omega)) only [QR,QS,QT,QU,QV,QW,QX,QY,QZ,Q0,Q1,Q2,↓awU,awV,awF,Qa,Qb,Qc,Qd,forall_const,↓reduceIte,↓reduceDIte,↓Qe,Qf,Qg,Qh,Qi,Qj,Qk,Ql,Qm,Qn,Qo,Qp,Qq,Qr,Qs,implies_true,Qt,Qu,Qv,Qw,Qx,Qy,Qz,QA,QB,QC,QD,QE,QF,QG,QH,QI,QJ,QK,QL,QM,QN,QO,QP,QQ]
   first | done | rfl
  ·have e1':(ub=b)=False:=eq_false e1
   rw [if_neg e1] at hr
   subst hr
   simp (config:={maxSteps:=1000000}) (disch:=((try simp only [awL]);omega)) only [QR,QS,QT,QU,QV,QW,QX,QY,QZ,Q0,Q1,Q2,e1',↓awU,awV,awF,Qa,Qb,Qc,Qd,forall_const,↓reduceIte,↓reduceDIte,↓Qe,Qf,Qg,Qh,Qi,Qj,Qk,Ql,Qm,Qn,Qo,Qp,Qq,Qr,Qs,implies_true,Qt,Qu,Qv,Qw,Qx,Qy,Qz,QA,QB,QC,QD,QE,QF,QG,QH,QI,QJ,QK,QL,QM,QN,QO,QP,QQ]
   first | done | rfl
theorem ruknown_spec (b:List UInt8):Ctr Tryz.prog G 28 [.d (S b)] [] (.d (.bool (decide (b∈basesL)))) []:=by
 refine Ctr.pure (M:=M0) hmix Tryz.func28 rfl go28 ?_
 simp (config:={maxSteps:=1000000}) (disch:=((try simp only [awL]);omega)) only [QR,QS,QT,QU,QV,QW,QX,QY,QZ,Q0,Q1,Q2,Tryz.f28,↓awU,awV,awF,Qa,Qb,Qc,Qd,forall_const,↓reduceIte,↓reduceDIte,↓Qe,Qf,Qg,Qh,Qi,Qj,Qk,Ql,Qm,Qn,Qo,Qp,Qq,Qr,Qs,implies_true,Qt,Qu,Qv,Qw,Qx,Qy,Qz,QA,QB,QC,QD,QE,QF,QG,QH,QI,QJ,QK,QL,QM,QN,QO,QP,QQ]
 refine CallC.of rbases_spec (by rfl) ?_
 simp (config:={maxSteps:=1000000}) (disch:=((try simp only [awL]);omega)) only [QR,QS,QT,QU,QV,QW,QX,QY,QZ,Q0,Q1,Q2,↓awU,awV,awF,Qa,Qb,Qc,Qd,forall_const,↓reduceIte,↓reduceDIte,↓Qe,Qf,Qg,Qh,Qi,Qj,Qk,Ql,Qm,Qn,Qo,Qp,Qq,Qr,Qs,implies_true,Qt,Qu,Qv,Qw,Qx,Qy,Qz,QA,QB,QC,QD,QE,QF,QG,QH,QI,QJ,QK,QL,QM,QN,QO,QP,QQ]
 refine CallC.of (has_spec basesL false b (by decide)) (by rfl) ?_
 simp (config:={maxSteps:=1000000}) (disch:=((try simp only [awL]);omega)) only [QR,QS,QT,QU,QV,QW,QX,QY,QZ,Q0,Q1,Q2,↓awU,awV,awF,Qa,Qb,Qc,Qd,forall_const,↓reduceIte,↓reduceDIte,↓Qe,Qf,Qg,Qh,Qi,Qj,Qk,Ql,Qm,Qn,Qo,Qp,Qq,Qr,Qs,implies_true,Qt,Qu,Qv,Qw,Qx,Qy,Qz,QA,QB,QC,QD,QE,QF,QG,QH,QI,QJ,QK,QL,QM,QN,QO,QP,QQ]
 first | done | rfl
set_option maxHeartbeats 16000000 in
set_option maxRecDepth 100000 in
theorem rutake_spec (l:List OU) (full:Bool) (hl:l.length≤1000000):Ctr Tryz.prog G 26 [.d (.sl l.length full (ouC l))] [] (.d (S (takeU l))) []:=by
 obtain ⟨r,hr⟩:∃ r,r=takeU l:=⟨_,rfl⟩
 rw [← hr]
 unfold takeU at hr
 have sl:=@ouC_length l
 refine Ctr.pure (M:=M0) hmix Tryz.func26 rfl go26 ?_
 simp (config:={maxSteps:=1000000}) (disch:=((try simp only [awL]);omega)) only [QR,QS,QT,QU,QV,QW,QX,QY,QZ,Q0,Q1,Q2,sl,Tryz.f26,↓awU,awV,awF,Qa,Qb,Qc,Qd,forall_const,↓reduceIte,↓reduceDIte,↓Qe,Qf,Qg,Qh,Qi,Qj,Qk,Ql,Qm,Qn,Qo,Qp,Qq,Qr,Qs,implies_true,Qt,Qu,Qv,Qw,Qx,Qy,Qz,QA,QB,QC,QD,QE,QF,QG,QH,QI,QJ,QK,QL,QM,QN,QO,QP,QQ]
 refine LoopC.fr 96 (α:=Nat) (fun i=>l.length - i) (fun i=>[(7,.d (.int .i64 (i:Nat)))]) (fun _=>[]) (fun i=>i≤l.length∧l.find? goodU=(l.drop i).find? goodU) 0 ⟨Nat.zero_le _,rfl⟩ ?_ ?_
 ·exact ⟨[],rfl,by simp,by simp [setsA,keepA,SWeak,AWeak],by simp [HWeak,BWeak,SWeak,AWeak]⟩
 ·rintro i ⟨h1,h2⟩
  rw [h2] at hr
  simp only [awK,Nat.reduceMod,Nat.reduceDiv,reduceIte]
  rcases Nat.lt_or_ge i l.length with h | h
  ·have g:=ouC_get h
   rw [find_at (d:=noOU) h] at hr h2
   generalize l.getD i noOU=o at *
   obtain ⟨t,a,b⟩:=o
   have g:((ouC l).drop (i*3)).take 3=[S t,.int .i64 a,.int .i64 b]:=g
   have gd:goodU (t,a,b)=(decide (0<a) && decide (b=0)):=rfl
   rw [gd] at hr h2
   by_cases e1:0<a
   ·by_cases e2:b=0
    ·rw [decide_eq_true e1,decide_eq_true e2,Bool.true_and,if_pos rfl] at hr
     simp only at hr
     subst hr
     simp (config:={maxSteps:=1000000}) (disch:=((try simp only [awL]);omega)) only [QR,QS,QT,QU,QV,QW,QX,QY,QZ,Q0,Q1,Q2,sl,g,↓awU,awV,awF,Qa,Qb,Qc,Qd,forall_const,↓reduceIte,↓reduceDIte,↓Qe,Qf,Qg,Qh,Qi,Qj,Qk,Ql,Qm,Qn,Qo,Qp,Qq,Qr,Qs,implies_true,Qt,Qu,Qv,Qw,Qx,Qy,Qz,QA,QB,QC,QD,QE,QF,QG,QH,QI,QJ,QK,QL,QM,QN,QO,QP,QQ]
     first | done | rfl | exact ⟨by rfl,by rfl⟩
    ·rw [decide_eq_false e2,Bool.and_false,if_neg Bool.false_ne_true] at h2
     simp (config:={maxSteps:=1000000}) (disch:=((try simp only [awL]);omega)) only [QR,QS,QT,QU,QV,QW,QX,QY,QZ,Q0,Q1,Q2,sl,g,↓awU,awV,awF,Qa,Qb,Qc,Qd,forall_const,↓reduceIte,↓reduceDIte,↓Qe,Qf,Qg,Qh,Qi,Qj,Qk,Ql,Qm,Qn,Qo,Qp,Qq,Qr,Qs,implies_true,Qt,Qu,Qv,Qw,Qx,Qy,Qz,QA,QB,QC,QD,QE,QF,QG,QH,QI,QJ,QK,QL,QM,QN,QO,QP,QQ]
     exact ⟨i+1,⟨h,h2⟩,by simp only;omega,⟨[],rfl,by simp,by simp [setsA,keepA,SWeak,AWeak],by simp [HWeak,BWeak,SWeak,AWeak]⟩⟩
   ·rw [decide_eq_false e1,Bool.false_and,if_neg Bool.false_ne_true] at h2
    simp (config:={maxSteps:=1000000}) (disch:=((try simp only [awL]);omega)) only [QR,QS,QT,QU,QV,QW,QX,QY,QZ,Q0,Q1,Q2,sl,g,↓awU,awV,awF,Qa,Qb,Qc,Qd,forall_const,↓reduceIte,↓reduceDIte,↓Qe,Qf,Qg,Qh,Qi,Qj,Qk,Ql,Qm,Qn,Qo,Qp,Qq,Qr,Qs,implies_true,Qt,Qu,Qv,Qw,Qx,Qy,Qz,QA,QB,QC,QD,QE,QF,QG,QH,QI,QJ,QK,QL,QM,QN,QO,QP,QQ]
    exact ⟨i+1,⟨h,h2⟩,by simp only;omega,⟨[],rfl,by simp,by simp [setsA,keepA,SWeak,AWeak],by simp [HWeak,BWeak,SWeak,AWeak]⟩⟩
  ·rw [List.drop_eq_nil_of_le h] at hr
   simp only [List.find?_nil] at hr
   subst hr
   simp (config:={maxSteps:=1000000}) (disch:=((try simp only [awL]);omega)) only [QR,QS,QT,QU,QV,QW,QX,QY,QZ,Q0,Q1,Q2,sl,↓awU,awV,awF,Qa,Qb,Qc,Qd,forall_const,↓reduceIte,↓reduceDIte,↓Qe,Qf,Qg,Qh,Qi,Qj,Qk,Ql,Qm,Qn,Qo,Qp,Qq,Qr,Qs,implies_true,Qt,Qu,Qv,Qw,Qx,Qy,Qz,QA,QB,QC,QD,QE,QF,QG,QH,QI,QJ,QK,QL,QM,QN,QO,QP,QQ]
   first | done | rfl
def preU (l:List Cel) (i:Nat):List Opt:=(basesL.take i).map (optU l)
theorem preU_len (l:List Cel) {i:Nat} (h:i≤4):(preU l i).length=i:=by
 unfold preU
 rw [List.length_map,List.length_take,show basesL.length=4 from rfl];omega
theorem preU_step (l:List Cel) {i:Nat} (h:i<4):preU l i++[optU l (basesL.getD i [])]=preU l (i+1):=by
 unfold preU
 rw [List.take_add_one,getD_some (d:=[]) (show i<basesL.length from h)]
 simp
set_option maxHeartbeats 16000000 in
set_option maxRecDepth 100000 in
theorem ruoptions_spec (nm:List UInt8) (l:List Cel) (full:Bool) (hl:okU l) :
  Ctr Tryz.prog G 25 [.d (.agg [S nm,CelS l full])] [] (.d (.sl 4 false (optC (optsU l)))) []:=by
 refine Ctr.pure (M:=M0) hmix Tryz.func25 rfl go25 ?_
 have lc:=celsD_length l
 have l1:=hl.1
 have bl4:basesL.length=4:=rfl
 simp (config:={maxSteps:=1000000}) (disch:=((try simp only [awL]);omega)) only [QR,QS,QT,QU,QV,QW,QX,QY,QZ,Q0,Q1,Q2,lc,Tryz.f25,↓awU,awV,awF,Qa,Qb,Qc,Qd,forall_const,↓reduceIte,↓reduceDIte,↓Qe,Qf,Qg,Qh,Qi,Qj,Qk,Ql,Qm,Qn,Qo,Qp,Qq,Qr,Qs,implies_true,Qt,Qu,Qv,Qw,Qx,Qy,Qz,QA,QB,QC,QD,QE,QF,QG,QH,QI,QJ,QK,QL,QM,QN,QO,QP,QQ]
 refine CallC.of rbases_spec (by rfl) ?_
 simp (config:={maxSteps:=1000000}) (disch:=((try simp only [awL]);omega)) only [QR,QS,QT,QU,QV,QW,QX,QY,QZ,Q0,Q1,Q2,lc,bL_unf,↓awU,awV,awF,Qa,Qb,Qc,Qd,forall_const,↓reduceIte,↓reduceDIte,↓Qe,Qf,Qg,Qh,Qi,Qj,Qk,Ql,Qm,Qn,Qo,Qp,Qq,Qr,Qs,implies_true,Qt,Qu,Qv,Qw,Qx,Qy,Qz,QA,QB,QC,QD,QE,QF,QG,QH,QI,QJ,QK,QL,QM,QN,QO,QP,QQ]
 try rw [show basesL.length=4 from rfl]
 refine LoopC.fr 6146 (α:=Nat) (fun i=>4 - i) (fun i=>[(3,.lsl 1 3 0 i),(13,.d (.int .i64 (i:Nat)))])
  (fun i=>[.box [.d (S nm),.d (CelS l full)],.row false (optC (preU l i))]) (fun i=>i≤4) 0 (Nat.zero_le _) ?_ ?_
 ·exact ⟨[some 0,none],rfl,by simp,by simp [setsA,keepA,SWeak,AWeak],by simp [HWeak,BWeak,SWeak,AWeak,preU,optC]⟩
 ·intro i hi
  have ol:=optC_length (preU l i)
  have pl:=preU_len l hi
  rw [pl] at ol
  simp only [awK,Nat.reduceMod,Nat.reduceDiv,reduceIte]
  rcases Nat.lt_or_ge i 4 with h | h
  ·have gb:=strs_getD (l:=basesL) (i:=i) h
   have st:=preU_step l h
   have op:=optC_push (preU l i) (optU l (basesL.getD i []))
   rw [st] at op
   generalize basesL.getD i []=b at *
   have op:optC (preU l i)++[S b,.int .i64 (l.countP (isU b):Nat),.int .i64 (l.countP (noU b):Nat)]=optC (preU l (i+1)):=op
   simp (config:={maxSteps:=1000000}) (disch:=((try simp only [awL]);omega)) only [QR,QS,QT,QU,QV,QW,QX,QY,QZ,Q0,Q1,Q2,gb,bL_unf,bl4,ol,lc,↓awU,awV,awF,Qa,Qb,Qc,Qd,forall_const,↓reduceIte,↓reduceDIte,↓Qe,Qf,Qg,Qh,Qi,Qj,Qk,Ql,Qm,Qn,Qo,Qp,Qq,Qr,Qs,implies_true,Qt,Qu,Qv,Qw,Qx,Qy,Qz,QA,QB,QC,QD,QE,QF,QG,QH,QI,QJ,QK,QL,QM,QN,QO,QP,QQ]
   refine LoopC.fr 3160170 (α:=Nat) (fun j=>l.length - j) (fun j=>[(22,.d (.int .i64 (j:Nat)))])
    (fun j=>[.box [.d (S nm),.d (CelS l full)],.row false (optC (preU l i)),.box [.d (S b),.d (.int .i64 ((l.take j).countP (isU b):Nat)),.d (.int .i64 ((l.take j).countP (noU b):Nat))]]) (fun j=>j≤l.length) 0 (Nat.zero_le _) ?_ ?_
   ·exact ⟨[some 0,some 1,some 2],rfl,by simp,by simp [setsA,keepA,SWeak,AWeak],by simp [HWeak,BWeak,SWeak,AWeak]⟩
   ·intro j hj
    have c1:=countP_le_n9 (isU b) (m:=1000000) l1 j
    have c2:=countP_le_n9 (noU b) (m:=1000000) l1 j
    simp only [awK,Nat.reduceMod,Nat.reduceDiv,reduceIte]
    rcases Nat.lt_or_ge j l.length with h3 | h3
    ·have gc:=celsD_get h3
     have gx:=hl.at h3
     have d1:=countP_step9 (isU b) h3
     have d2:=countP_step9 (noU b) h3
     generalize l.getD j noC=x at *
     obtain ⟨t,nul⟩:=x
     simp only at gx
     have gc:((celsD l).drop (j*2)).take 2=[.bool nul,S t]:=gc
     cases nul
     ·have q1:isU b (t,false)=(basedU t b).2:=by unfold isU;simp
      have q2:noU b (t,false)=!(basedU t b).2:=by unfold noU;simp
      rw [q1] at d1
      rw [q2] at d2
      simp (config:={maxSteps:=1000000}) (disch:=((try simp only [awL]);omega)) only [QR,QS,QT,QU,QV,QW,QX,QY,QZ,Q0,Q1,Q2,lc,gc,↓awU,awV,awF,Qa,Qb,Qc,Qd,forall_const,↓reduceIte,↓reduceDIte,↓Qe,Qf,Qg,Qh,Qi,Qj,Qk,Ql,Qm,Qn,Qo,Qp,Qq,Qr,Qs,implies_true,Qt,Qu,Qv,Qw,Qx,Qy,Qz,QA,QB,QC,QD,QE,QF,QG,QH,QI,QJ,QK,QL,QM,QN,QO,QP,QQ]
      refine CallC.of (rbase_spec t b gx) (by rfl) ?_
      generalize basedU t b=y at *
      obtain ⟨y1,y2⟩:=y
      simp only at d1 d2
      cases y2
      ·rw [if_neg Bool.false_ne_true,Nat.add_zero] at d1
       rw [Bool.not_false,if_pos rfl] at d2
       simp (config:={maxSteps:=1000000}) (disch:=((try simp only [awL]);omega)) only [QR,QS,QT,QU,QV,QW,QX,QY,QZ,Q0,Q1,Q2,↓awU,awV,awF,Qa,Qb,Qc,Qd,forall_const,↓reduceIte,↓reduceDIte,↓Qe,Qf,Qg,Qh,Qi,Qj,Qk,Ql,Qm,Qn,Qo,Qp,Qq,Qr,Qs,implies_true,Qt,Qu,Qv,Qw,Qx,Qy,Qz,QA,QB,QC,QD,QE,QF,QG,QH,QI,QJ,QK,QL,QM,QN,QO,QP,QQ]
       first
       | exact ⟨j+1,h3,by simp only;omega,⟨[some 0,some 1,some 2],rfl,by simp,by simp [setsA,keepA,SWeak,AWeak],by simp [HWeak,BWeak,SWeak,AWeak,d1,d2]⟩⟩
       | exact ⟨by rfl,j+1,h3,by simp only;omega,⟨[some 0,some 1,some 2],rfl,by simp,by simp [setsA,keepA,SWeak,AWeak],by simp [HWeak,BWeak,SWeak,AWeak,d1,d2]⟩⟩
      ·rw [if_pos rfl] at d1
       rw [Bool.not_true,if_neg Bool.false_ne_true,Nat.add_zero] at d2
       simp (config:={maxSteps:=1000000}) (disch:=((try simp only [awL]);omega)) only [QR,QS,QT,QU,QV,QW,QX,QY,QZ,Q0,Q1,Q2,↓awU,awV,awF,Qa,Qb,Qc,Qd,forall_const,↓reduceIte,↓reduceDIte,↓Qe,Qf,Qg,Qh,Qi,Qj,Qk,Ql,Qm,Qn,Qo,Qp,Qq,Qr,Qs,implies_true,Qt,Qu,Qv,Qw,Qx,Qy,Qz,QA,QB,QC,QD,QE,QF,QG,QH,QI,QJ,QK,QL,QM,QN,QO,QP,QQ]
       first
       | exact ⟨j+1,h3,by simp only;omega,⟨[some 0,some 1,some 2],rfl,by simp,by simp [setsA,keepA,SWeak,AWeak],by simp [HWeak,BWeak,SWeak,AWeak,d1,d2]⟩⟩
       | exact ⟨by rfl,j+1,h3,by simp only;omega,⟨[some 0,some 1,some 2],rfl,by simp,by simp [setsA,keepA,SWeak,AWeak],by simp [HWeak,BWeak,SWeak,AWeak,d1,d2]⟩⟩
     ·have q1:isU b (t,true)=false:=by unfold isU;simp
      have q2:noU b (t,true)=false:=by unfold noU;simp
      rw [q1,if_neg Bool.false_ne_true,Nat.add_zero] at d1
      rw [q2,if_neg Bool.false_ne_true,Nat.add_zero] at d2
      simp (config:={maxSteps:=1000000}) (disch:=((try simp only [awL]);omega)) only [QR,QS,QT,QU,QV,QW,QX,QY,QZ,Q0,Q1,Q2,lc,gc,↓awU,awV,awF,Qa,Qb,Qc,Qd,forall_const,↓reduceIte,↓reduceDIte,↓Qe,Qf,Qg,Qh,Qi,Qj,Qk,Ql,Qm,Qn,Qo,Qp,Qq,Qr,Qs,implies_true,Qt,Qu,Qv,Qw,Qx,Qy,Qz,QA,QB,QC,QD,QE,QF,QG,QH,QI,QJ,QK,QL,QM,QN,QO,QP,QQ]
      first
      | exact ⟨j+1,h3,by simp only;omega,⟨[some 0,some 1,some 2],rfl,by simp,by simp [setsA,keepA,SWeak,AWeak],by simp [HWeak,BWeak,SWeak,AWeak,d1,d2]⟩⟩
      | exact ⟨by rfl,j+1,h3,by simp only;omega,⟨[some 0,some 1,some 2],rfl,by simp,by simp [setsA,keepA,SWeak,AWeak],by simp [HWeak,BWeak,SWeak,AWeak,d1,d2]⟩⟩
    ·have e:j=l.length:=by omega
     subst e
     rw [List.take_length] at c1 c2
     simp (config:={maxSteps:=1000000}) (disch:=((try simp only [awL]);omega)) only [QR,QS,QT,QU,QV,QW,QX,QY,QZ,Q0,Q1,Q2,lc,ol,List.take_length,↓awU,awV,awF,Qa,Qb,Qc,Qd,forall_const,↓reduceIte,↓reduceDIte,↓Qe,Qf,Qg,Qh,Qi,Qj,Qk,Ql,Qm,Qn,Qo,Qp,Qq,Qr,Qs,implies_true,Qt,Qu,Qv,Qw,Qx,Qy,Qz,QA,QB,QC,QD,QE,QF,QG,QH,QI,QJ,QK,QL,QM,QN,QO,QP,QQ]
     first
     | exact ⟨i+1,h,by simp only;omega,⟨[some 0,some 4],rfl,by simp,by simp [setsA,keepA,SWeak,AWeak],by simp [HWeak,BWeak,SWeak,AWeak,cut,op]⟩⟩
     | exact ⟨by rfl,i+1,h,by simp only;omega,⟨[some 0,some 4],rfl,by simp,by simp [setsA,keepA,SWeak,AWeak],by simp [HWeak,BWeak,SWeak,AWeak,cut,op]⟩⟩
  ·have e:i=4:=by omega
   subst e
   have ee:preU l 4=optsU l:=rfl
   rw [ee] at ol ⊢
   have cu:cut (optC (optsU l)) 0 12=optC (optsU l):=cutA _ _ (by omega)
   simp (config:={maxSteps:=1000000}) (disch:=((try simp only [awL]);omega)) only [QR,QS,QT,QU,QV,QW,QX,QY,QZ,Q0,Q1,Q2,bL_unf,bl4,ol,cu,↓awU,awV,awF,Qa,Qb,Qc,Qd,forall_const,↓reduceIte,↓reduceDIte,↓Qe,Qf,Qg,Qh,Qi,Qj,Qk,Ql,Qm,Qn,Qo,Qp,Qq,Qr,Qs,implies_true,Qt,Qu,Qv,Qw,Qx,Qy,Qz,QA,QB,QC,QD,QE,QF,QG,QH,QI,QJ,QK,QL,QM,QN,QO,QP,QQ]
   first | done | rfl
end Go.Proofs.YtkcghbpghjdgpaaGreatDoor
namespace Go.Proofs.YtkcghbpghjdgpaaGreatDoor
open Go Go.Proofs Go.Abs
variable {G:Globals}
theorem map_step {b:List UInt8} {l:List Cel} {i:Nat} (h:i<l.length):(l.take (i+1)).map (apU b)=(l.take i).map (apU b)++[apU b (l.getD i noC)]:=by
 rw [List.take_add_one,getD_some (d:=noC) h];simp
set_option maxHeartbeats 16000000 in
set_option maxRecDepth 100000 in
theorem ruapply_spec (nm:List UInt8) (l:List Cel) (full:Bool) (hl:okU l) (b:List UInt8) :
  Ctr Tryz.prog G 27 [.d (.agg [S nm,CelS l full]),.d (S b)] [] (.d (uapR nm b l)) []:=by
 obtain ⟨r,hr⟩:∃ r,r=uapR nm b l:=⟨_,rfl⟩
 rw [← hr]
 unfold uapR uapE uapL at hr
 have lc:=celsD_length l
 have l1:=hl.1
 have hb0:ByteArray.empty=bs []:=rfl
 refine Ctr.pure (M:=M0) hmix Tryz.func27 rfl go27 ?_
 by_cases e0:b=[]
 ·subst e0
  rw [if_pos rfl,if_pos rfl,if_pos rfl] at hr
  subst hr
  simp (config:={maxSteps:=1000000}) (disch:=((try simp only [awL]);omega)) only [QR,QS,QT,QU,QV,QW,QX,QY,QZ,Q0,Q1,Q2,lc,Tryz.f27,↓awU,awV,awF,Qa,Qb,Qc,Qd,forall_const,↓reduceIte,↓reduceDIte,↓Qe,Qf,Qg,Qh,Qi,Qj,Qk,Ql,Qm,Qn,Qo,Qp,Qq,Qr,Qs,implies_true,Qt,Qu,Qv,Qw,Qx,Qy,Qz,QA,QB,QC,QD,QE,QF,QG,QH,QI,QJ,QK,QL,QM,QN,QO,QP,QQ]
  first | done | rfl
 ·rw [if_neg e0,if_neg e0] at hr
  have e0':(b=[])=False:=eq_false e0
  by_cases e1:b∈basesL
  ·rw [if_pos e1] at hr
   simp (config:={maxSteps:=1000000}) (disch:=((try simp only [awL]);omega)) only [QR,QS,QT,QU,QV,QW,QX,QY,QZ,Q0,Q1,Q2,lc,e0',Tryz.f27,↓awU,awV,awF,Qa,Qb,Qc,Qd,forall_const,↓reduceIte,↓reduceDIte,↓Qe,Qf,Qg,Qh,Qi,Qj,Qk,Ql,Qm,Qn,Qo,Qp,Qq,Qr,Qs,implies_true,Qt,Qu,Qv,Qw,Qx,Qy,Qz,QA,QB,QC,QD,QE,QF,QG,QH,QI,QJ,QK,QL,QM,QN,QO,QP,QQ]
   refine CallC.of (ruknown_spec b) (by rfl) ?_
   rw [decide_eq_true e1]
   simp (config:={maxSteps:=1000000}) (disch:=((try simp only [awL]);omega)) only [QR,QS,QT,QU,QV,QW,QX,QY,QZ,Q0,Q1,Q2,lc,↓awU,awV,awF,Qa,Qb,Qc,Qd,forall_const,↓reduceIte,↓reduceDIte,↓Qe,Qf,Qg,Qh,Qi,Qj,Qk,Ql,Qm,Qn,Qo,Qp,Qq,Qr,Qs,implies_true,Qt,Qu,Qv,Qw,Qx,Qy,Qz,QA,QB,QC,QD,QE,QF,QG,QH,QI,QJ,QK,QL,QM,QN,QO,QP,QQ]
   refine LoopC.fr 12582994 (α:=Nat) (fun i=>l.length - i) (fun i=>[(24,.d (.int .i64 (i:Nat)))])
    (fun i=>[.dead,.box [.d (.str ByteArray.empty),.d (.sl 0 true [])],.box [.d (S nm),.lsl 3 2 0 i],.row false (celsD ((l.take i).map (apU b)))]) (fun i=>i≤l.length∧(l.take i).all (fitU b)=true) 0 ⟨Nat.zero_le _,rfl⟩ ?_ ?_
   ·exact ⟨[some 0,some 1,some 2,none],rfl,by simp,by simp [setsA,keepA,SWeak,AWeak],by simp [HWeak,BWeak,SWeak,AWeak,celsD]⟩
   ·rintro i ⟨hi,ha⟩
    have al:=celsD_length ((l.take i).map (apU b))
    rw [List.length_map,List.length_take,Nat.min_eq_left hi] at al
    simp only [awK,Nat.reduceMod,Nat.reduceDiv,reduceIte]
    rcases Nat.lt_or_ge i l.length with h | h
    ·have gc:=celsD_get h
     have gx:=hl.at h
     have at1:=@all_takeU l (fitU b) i h ha
     have st:=map_step (b:=b) h
     have sp:=celsD_pushU ((l.take i).map (apU b)) (apU b (l.getD i noC))
     rw [← st] at sp
     rcases hx:l.getD i noC with ⟨t,nul⟩
     rw [hx] at gc gx at1 sp
     simp only at gx
     cases nul
     ·have mf:fitU b (t,false)=(basedU t b).2:=rfl
      rw [mf] at at1
      have gc:((celsD l).drop (i*2)).take 2=[.bool false,S t]:=gc
      have nf:(basedU t b).2=false→l.all (fitU b)=false:=fun q=>by
       cases q2:l.all (fitU b)
       ·rfl
       ·have:=List.all_eq_true.1 q2 _ (memD (d:=noC) h)
        rw [hx,mf,q] at this
        cases this
      have sp:celsD ((l.take i).map (apU b))++[.bool false,S (basedU t b).1]=celsD ((l.take (i+1)).map (apU b)):=sp
      simp (config:={maxSteps:=1000000}) (disch:=((try simp only [awL]);omega)) only [QR,QS,QT,QU,QV,QW,QX,QY,QZ,Q0,Q1,Q2,lc,al,gc,e0',↓awU,awV,awF,Qa,Qb,Qc,Qd,forall_const,↓reduceIte,↓reduceDIte,↓Qe,Qf,Qg,Qh,Qi,Qj,Qk,Ql,Qm,Qn,Qo,Qp,Qq,Qr,Qs,implies_true,Qt,Qu,Qv,Qw,Qx,Qy,Qz,QA,QB,QC,QD,QE,QF,QG,QH,QI,QJ,QK,QL,QM,QN,QO,QP,QQ]
      refine CallC.of (rbase_spec t b gx) (by rfl) ?_
      generalize basedU t b=y at *
      obtain ⟨y1,y2⟩:=y
      simp only at at1 sp nf
      cases y2
      ·rw [nf rfl,if_neg Bool.false_ne_true,if_neg (by decide)] at hr
       subst hr
       simp (config:={maxSteps:=1000000}) (disch:=((try simp only [awL]);omega)) only [QR,QS,QT,QU,QV,QW,QX,QY,QZ,Q0,Q1,Q2,lc,al,↓awU,awV,awF,Qa,Qb,Qc,Qd,forall_const,↓reduceIte,↓reduceDIte,↓Qe,Qf,Qg,Qh,Qi,Qj,Qk,Ql,Qm,Qn,Qo,Qp,Qq,Qr,Qs,implies_true,Qt,Qu,Qv,Qw,Qx,Qy,Qz,QA,QB,QC,QD,QE,QF,QG,QH,QI,QJ,QK,QL,QM,QN,QO,QP,QQ]
       first | done | rfl
      ·simp (config:={maxSteps:=1000000}) (disch:=((try simp only [awL]);omega)) only [QR,QS,QT,QU,QV,QW,QX,QY,QZ,Q0,Q1,Q2,lc,al,↓awU,awV,awF,Qa,Qb,Qc,Qd,forall_const,↓reduceIte,↓reduceDIte,↓Qe,Qf,Qg,Qh,Qi,Qj,Qk,Ql,Qm,Qn,Qo,Qp,Qq,Qr,Qs,implies_true,Qt,Qu,Qv,Qw,Qx,Qy,Qz,QA,QB,QC,QD,QE,QF,QG,QH,QI,QJ,QK,QL,QM,QN,QO,QP,QQ]
       rw [List.map_take,List.map_take] at sp
       first
       | exact ⟨i+1,⟨h,at1 rfl⟩,by simp only;omega,⟨[some 0,some 1,some 2,some 6],rfl,by simp,by simp [setsA,keepA,SWeak,AWeak],by simp [HWeak,BWeak,SWeak,AWeak,cut,sp]⟩⟩
       | exact ⟨by rfl,i+1,⟨h,at1 rfl⟩,by simp only;omega,⟨[some 0,some 1,some 2,some 6],rfl,by simp,by simp [setsA,keepA,SWeak,AWeak],by simp [HWeak,BWeak,SWeak,AWeak,cut,sp]⟩⟩
     ·have gc:((celsD l).drop (i*2)).take 2=[.bool true,S t]:=gc
      have sp:celsD ((l.take i).map (apU b))++[.bool true,S t]=celsD ((l.take (i+1)).map (apU b)):=sp
      simp (config:={maxSteps:=1000000}) (disch:=((try simp only [awL]);omega)) only [QR,QS,QT,QU,QV,QW,QX,QY,QZ,Q0,Q1,Q2,lc,al,gc,e0',↓awU,awV,awF,Qa,Qb,Qc,Qd,forall_const,↓reduceIte,↓reduceDIte,↓Qe,Qf,Qg,Qh,Qi,Qj,Qk,Ql,Qm,Qn,Qo,Qp,Qq,Qr,Qs,implies_true,Qt,Qu,Qv,Qw,Qx,Qy,Qz,QA,QB,QC,QD,QE,QF,QG,QH,QI,QJ,QK,QL,QM,QN,QO,QP,QQ]
      rw [List.map_take,List.map_take] at sp
      first
      | exact ⟨i+1,⟨h,at1 rfl⟩,by simp only;omega,⟨[some 0,some 1,some 2,some 6],rfl,by simp,by simp [setsA,keepA,SWeak,AWeak],by simp [HWeak,BWeak,SWeak,AWeak,cut,sp]⟩⟩
      | exact ⟨by rfl,i+1,⟨h,at1 rfl⟩,by simp only;omega,⟨[some 0,some 1,some 2,some 6],rfl,by simp,by simp [setsA,keepA,SWeak,AWeak],by simp [HWeak,BWeak,SWeak,AWeak,cut,sp]⟩⟩
    ·have e:i=l.length:=by omega
     subst e
     rw [List.take_length] at ha al ⊢
     rw [ha,if_pos rfl,if_pos rfl] at hr
     have ll:(l.map (apU b)).length=l.length:=by simp
     have cu:cut (celsD (l.map (apU b))) 0 (l.length*2)=celsD (l.map (apU b)):=cutA _ _ (by omega)
     subst hr
     unfold CelS
     rw [ll]
     simp (config:={maxSteps:=1000000}) (disch:=((try simp only [awL]);omega)) only [QR,QS,QT,QU,QV,QW,QX,QY,QZ,Q0,Q1,Q2,lc,al,cu,↓awU,awV,awF,Qa,Qb,Qc,Qd,forall_const,↓reduceIte,↓reduceDIte,↓Qe,Qf,Qg,Qh,Qi,Qj,Qk,Ql,Qm,Qn,Qo,Qp,Qq,Qr,Qs,implies_true,Qt,Qu,Qv,Qw,Qx,Qy,Qz,QA,QB,QC,QD,QE,QF,QG,QH,QI,QJ,QK,QL,QM,QN,QO,QP,QQ]
     first | done | rfl
  ·rw [if_neg e1,if_neg (by decide)] at hr
   subst hr
   simp (config:={maxSteps:=1000000}) (disch:=((try simp only [awL]);omega)) only [QR,QS,QT,QU,QV,QW,QX,QY,QZ,Q0,Q1,Q2,lc,e0',Tryz.f27,↓awU,awV,awF,Qa,Qb,Qc,Qd,forall_const,↓reduceIte,↓reduceDIte,↓Qe,Qf,Qg,Qh,Qi,Qj,Qk,Ql,Qm,Qn,Qo,Qp,Qq,Qr,Qs,implies_true,Qt,Qu,Qv,Qw,Qx,Qy,Qz,QA,QB,QC,QD,QE,QF,QG,QH,QI,QJ,QK,QL,QM,QN,QO,QP,QQ]
   refine CallC.of (ruknown_spec b) (by rfl) ?_
   rw [decide_eq_false e1]
   simp (config:={maxSteps:=1000000}) (disch:=((try simp only [awL]);omega)) only [QR,QS,QT,QU,QV,QW,QX,QY,QZ,Q0,Q1,Q2,lc,↓awU,awV,awF,Qa,Qb,Qc,Qd,forall_const,↓reduceIte,↓reduceDIte,↓Qe,Qf,Qg,Qh,Qi,Qj,Qk,Ql,Qm,Qn,Qo,Qp,Qq,Qr,Qs,implies_true,Qt,Qu,Qv,Qw,Qx,Qy,Qz,QA,QB,QC,QD,QE,QF,QG,QH,QI,QJ,QK,QL,QM,QN,QO,QP,QQ]
   first | done | rfl
end Go.Proofs.YtkcghbpghjdgpaaGreatDoor
namespace Go.Proofs.YtkcghbpghjdgpaaGreatDoor
open Go Go.Proofs Go.Abs
variable {G:Globals}
theorem uapR_form (nm b:List UInt8) (l:List Cel):∃ nm2 l2,uapR nm b l=.tup [.agg [S nm2,CelS l2 false],.int .i64 (uapE b l)]∧l2.length≤l.length:=by
 unfold uapR
 by_cases h:uapE b l=0
 ·rw [if_pos h]
  refine ⟨nm,uapL b l,rfl,?_⟩
  unfold uapL
  split
  ·exact Nat.le_refl _
  ·rw [List.length_map];exact Nat.le_refl _
 ·rw [if_neg h]
  exact ⟨[],[],rfl,Nat.zero_le _⟩
theorem splR_form (s:List UInt8):∃ n u b,splR s=.tup [S n,.agg (UnC u),.bool b]:=⟨splN s,(splU s).getD noUn,(splU s).isSome,rfl⟩
def numsU (y n:List UInt8):Row:=[y,n,[57,57,57,57,57,57,57,57,57,57,57,57,57,57,57,46,57],[48,46,48,48,48,48,48,48,48,48,49],[45,48,46,48,48]]
theorem numsU_len {y n:List UInt8} (h1:y.length≤60) (h2:n.length≤60):∀ x∈numsU y n,x.length≤60:=by
 intro x hx
 unfold numsU at hx
 simp only [List.mem_cons,List.not_mem_nil,or_false] at hx
 rcases hx with e | e | e | e | e<;>subst e
 ·exact h1
 ·exact h2
 ·decide
 ·decide
 ·decide
theorem row_numsU (y n:List UInt8):[D.str (bs y),D.str (bs n),D.str ⟨#[57,57,57,57,57,57,57,57,57,57,57,57,57,57,57,46,57]⟩,D.str ⟨#[48,46,48,48,48,48,48,48,48,48,49]⟩,D.str ⟨#[45,48,46,48,48]⟩]=strs (numsU y n):=rfl
theorem rutakeO_spec (l:List Cel):Ctr Tryz.prog G 26 [.d (.sl 4 false (optC (optsU l)))] [] (.d (S (baseU l))) []:=by
 have h:=rutake_spec (G:=G) (toU (optsU l)) false (by rw [toU_len];show 4≤1000000;decide)
 rw [ouC_to,toU_len] at h
 exact h
def six (x:List UInt8):Row:=[[107,103],[109],[115],[37],[],x]
def five (x f:List UInt8):List Cel:=[(x,false),(f,false),([53,107,32,109],false),([109],false),([53,32,77],false)]
theorem row_five (x f:List UInt8) (l:List Cel):D.bool false::D.str (bs x)::D.bool false::D.str (bs f)::D.bool false::D.str ⟨#[53,107,32,109]⟩::D.bool false::D.str ⟨#[109]⟩::D.bool false::D.str ⟨#[53,32,77]⟩::celsD l=celsD (five x f++l):=rfl
set_option maxHeartbeats 64000000 in
set_option maxRecDepth 100000 in
theorem usteps_law (hG:Num.HG G) (hU:HU G) (hB:HB G) (t:List Int) (ht:OkS t) (hl:t.length≤9223372036854775807) (raw:List Cel) (hr1:raw.length≤9223372036854775807) (hr2:∀ x∈raw,x.1.length≤9223372036854775807)
  (x:List UInt8) (hx:x.length≤9223372036854775807) (y:List UInt8) (hy:y.length≤9223372036854775807) (u:Un) (ol:List OU) (ho:ol.length≤9223372036854775807) :
  Ctr Tryz.prog G 5 [.d (.sl t.length false (ints .u8 t)),.d (CelS raw false),.d (S x),.d (S y),.d (.agg (UnC u)),.d (.sl ol.length false (ouC ol))] [] (.d (.bool true)) []:=by
 refine Ctr.pure (M:=M0) hmix Tryz.func5 rfl go5 ?_
 have hmm:=ht.take
 obtain ⟨ua,ub,uc,ud⟩:=u
 simp (config:={maxSteps:=1000000}) (disch:=((try simp only [awL]);omega)) only [QR,QS,QT,QU,QV,QW,QX,QY,QZ,Q0,Q1,Q2,Tryz.f5,↓awU,awV,awF,Qa,Qb,Qc,Qd,forall_const,↓reduceIte,↓reduceDIte,↓Qe,Qf,Qg,Qh,Qi,Qj,Qk,Ql,Qm,Qn,Qo,Qp,Qq,Qr,Qs,implies_true,Qt,Qu,Qv,Qw,Qx,Qy,Qz,QA,QB,QC,QD,QE,QF,QG,QH,QI,QJ,QK,QL,QM,QN,QO,QP,QQ]
 refine CallC.pure (usane_spec hG hU hB) ?_
 by_cases g1:raw.length≤20
 ·by_cases g2:x.length≤60
  ·by_cases g3:y.length≤60
   ·by_cases g4:ol.length≤20
    ·simp (config:={maxSteps:=1000000}) (disch:=((try simp only [awL]);omega)) only [QR,QS,QT,QU,QV,QW,QX,QY,QZ,Q0,Q1,Q2,↓awU,awV,awF,Qa,Qb,Qc,Qd,forall_const,↓reduceIte,↓reduceDIte,↓Qe,Qf,Qg,Qh,Qi,Qj,Qk,Ql,Qm,Qn,Qo,Qp,Qq,Qr,Qs,implies_true,Qt,Qu,Qv,Qw,Qx,Qy,Qz,QA,QB,QC,QD,QE,QF,QG,QH,QI,QJ,QK,QL,QM,QN,QO,QP,QQ]
     refine CallC.by (new_spec t hl) (by rfl) (by rfl) (Nat.zero_le _) ?_
     generalize t.take 300=t0 at *
     simp (config:={maxSteps:=1000000}) (disch:=((try simp only [awL]);omega)) only [QR,QS,QT,QU,QV,QW,QX,QY,QZ,Q0,Q1,Q2,↓awU,awV,awF,Qa,Qb,Qc,Qd,forall_const,↓reduceIte,↓reduceDIte,↓Qe,Qf,Qg,Qh,Qi,Qj,Qk,Ql,Qm,Qn,Qo,Qp,Qq,Qr,Qs,implies_true,Qt,Qu,Qv,Qw,Qx,Qy,Qz,QA,QB,QC,QD,QE,QF,QG,QH,QI,QJ,QK,QL,QM,QN,QO,QP,QQ]
     refine CallC.of (units_spec hU) (by rfl) ?_
     simp (config:={maxSteps:=1000000}) (disch:=((try simp only [awL]);omega)) only [QR,QS,QT,QU,QV,QW,QX,QY,QZ,Q0,Q1,Q2,↓awU,awV,awF,Qa,Qb,Qc,Qd,forall_const,↓reduceIte,↓reduceDIte,↓Qe,Qf,Qg,Qh,Qi,Qj,Qk,Ql,Qm,Qn,Qo,Qp,Qq,Qr,Qs,implies_true,Qt,Qu,Qv,Qw,Qx,Qy,Qz,QA,QB,QC,QD,QE,QF,QG,QH,QI,QJ,QK,QL,QM,QN,QO,QP,QQ]
     refine CallC.of runits_spec (by rfl) ?_
     simp (config:={maxSteps:=1000000}) (disch:=((try simp only [awL]);omega)) only [QR,QS,QT,QU,QV,QW,QX,QY,QZ,Q0,Q1,Q2,↓awU,awV,awF,Qa,Qb,Qc,Qd,forall_const,↓reduceIte,↓reduceDIte,↓Qe,Qf,Qg,Qh,Qi,Qj,Qk,Ql,Qm,Qn,Qo,Qp,Qq,Qr,Qs,implies_true,Qt,Qu,Qv,Qw,Qx,Qy,Qz,QA,QB,QC,QD,QE,QF,QG,QH,QI,QJ,QK,QL,QM,QN,QO,QP,QQ]
     refine CallC.of runits_spec (by rfl) ?_
     simp (config:={maxSteps:=1000000}) (disch:=((try simp only [awL]);omega)) only [QR,QS,QT,QU,QV,QW,QX,QY,QZ,Q0,Q1,Q2,uL_unf,↓awU,awV,awF,Qa,Qb,Qc,Qd,forall_const,↓reduceIte,↓reduceDIte,↓Qe,Qf,Qg,Qh,Qi,Qj,Qk,Ql,Qm,Qn,Qo,Qp,Qq,Qr,Qs,implies_true,Qt,Qu,Qv,Qw,Qx,Qy,Qz,QA,QB,QC,QD,QE,QF,QG,QH,QI,QJ,QK,QL,QM,QN,QO,QP,QQ]
     refine LoopC.fx 28334198897217871307822 (α:=Nat × Nat) (β:=Nat) (fun z=>12 - z.1) (fun z=>[(75,.d (.int .i64 (z.1:Nat)))]) (fun z=>[.box [.d (S ua),.d (S ub),.d (.int .i64 uc),.d (.int .i64 ud)],DiceM t0 z.2]) (fun z=>z.1≤12)
      9254 (fun _=>[]) (fun k=>[.box [.d (S ua),.d (S ub),.d (.int .i64 uc),.d (.int .i64 ud)],DiceM t0 k]) (fun _=>True) (0,0) (Nat.zero_le _) ?_ ?_ ?_
     ·first | exact ⟨[some 0,some 1],rfl,by simp,by simp [setsA,keepA,SWeak,AWeak],by simp [HWeak,BWeak,SWeak,AWeak]⟩
     ·rintro ⟨i,k⟩ hi
      simp only at hi
      simp only [awK,Nat.reduceMod,Nat.reduceDiv,reduceIte]
      rcases Nat.lt_or_ge i 12 with h | h
      ·have gu:=unsD_get (l:=uL) (k:=i) h
       generalize uL.getD i noUn=v at *
       obtain ⟨va,vb,vc,vd⟩:=v
       have gu:((unsD uL).drop (i*4)).take 4=[S va,S vb,.int .i64 vc,.int .i64 vd]:=gu
       simp (config:={maxSteps:=1000000}) (disch:=((try simp only [awL]);omega)) only [QR,QS,QT,QU,QV,QW,QX,QY,QZ,Q0,Q1,Q2,uL_unf,gu,↓awU,awV,awF,Qa,Qb,Qc,Qd,forall_const,↓reduceIte,↓reduceDIte,↓Qe,Qf,Qg,Qh,Qi,Qj,Qk,Ql,Qm,Qn,Qo,Qp,Qq,Qr,Qs,implies_true,Qt,Qu,Qv,Qw,Qx,Qy,Qz,QA,QB,QC,QD,QE,QF,QG,QH,QI,QJ,QK,QL,QM,QN,QO,QP,QQ]
       try refine ⟨by rfl,?_⟩
       refine CallC.by (number_spec t0 k hmm) (by rfl) (by rfl) (Nat.le_refl _) ?_
       have nl:=(numM_len t0 k).2
       generalize numM t0 k=n at *
       generalize numK t0 k=k1 at *
       simp (config:={maxSteps:=1000000}) (disch:=((try simp only [awL]);omega)) only [QR,QS,QT,QU,QV,QW,QX,QY,QZ,Q0,Q1,Q2,↓awU,awV,awF,Qa,Qb,Qc,Qd,forall_const,↓reduceIte,↓reduceDIte,↓Qe,Qf,Qg,Qh,Qi,Qj,Qk,Ql,Qm,Qn,Qo,Qp,Qq,Qr,Qs,implies_true,Qt,Qu,Qv,Qw,Qx,Qy,Qz,QA,QB,QC,QD,QE,QF,QG,QH,QI,QJ,QK,QL,QM,QN,QO,QP,QQ]
       rw [row_numsU y n]
       have sl:=@strs_length (numsU y n)
       have s5:(numsU y n).length=5:=rfl
       refine LoopC.fx 1856976172058830587381769262 (α:=Nat) (β:=Unit) (fun j=>5 - j) (fun j=>[(91,.d (.int .i64 (j:Nat)))])
        (fun _=>[.box [.d (S ua),.d (S ub),.d (.int .i64 uc),.d (.int .i64 ud)],DiceM t0 k1,.box [.d (S va),.d (S vb),.d (.int .i64 vc),.d (.int .i64 vd)],.row false (strs (numsU y n))]) (fun j=>j≤5)
        66113130760175033017390 (fun _=>[]) (fun _=>[.box [.d (S ua),.d (S ub),.d (.int .i64 uc),.d (.int .i64 ud)],DiceM t0 k1,.box [.d (S va),.d (S vb),.d (.int .i64 vc),.d (.int .i64 vd)],.row false (strs (numsU y n))]) (fun _=>True) 0 (Nat.zero_le _) ?_ ?_ ?_
       ·first | exact ⟨[some 0,some 1,some 2,some 3],rfl,by simp,by simp [setsA,keepA,SWeak,AWeak],by simp [HWeak,BWeak,SWeak,AWeak]⟩
       ·intro j hj
        simp only [awK,Nat.reduceMod,Nat.reduceDiv,reduceIte]
        rcases Nat.lt_or_ge j 5 with h5 | h5
        ·have gs:=strs_getD (l:=numsU y n) (i:=j) (by rw [s5];exact h5)
         have gl:=numsU_len (y:=y) (n:=n) g3 (by omega) _ (memD (d:=[]) (l:=numsU y n) (i:=j) (by rw [s5];exact h5))
         generalize (numsU y n).getD j []=q at *
         have c1:=convert_spec hG hU q (by omega) (va,vb,vc,vd)
         have c2:=ruconv_spec (G:=G) q (by omega) (va,vb,vc,vd)
         generalize convU q (va,vb,vc,vd)=c at *
         obtain ⟨cx,cb⟩:=c
         simp (config:={maxSteps:=1000000}) (disch:=((try simp only [awL]);omega)) only [QR,QS,QT,QU,QV,QW,QX,QY,QZ,Q0,Q1,Q2,sl,s5,gs,↓awU,awV,awF,Qa,Qb,Qc,Qd,forall_const,↓reduceIte,↓reduceDIte,↓Qe,Qf,Qg,Qh,Qi,Qj,Qk,Ql,Qm,Qn,Qo,Qp,Qq,Qr,Qs,implies_true,Qt,Qu,Qv,Qw,Qx,Qy,Qz,QA,QB,QC,QD,QE,QF,QG,QH,QI,QJ,QK,QL,QM,QN,QO,QP,QQ]
         refine CallC.of c1 (by rfl) ?_
         simp (config:={maxSteps:=1000000}) (disch:=((try simp only [awL]);omega)) only [QR,QS,QT,QU,QV,QW,QX,QY,QZ,Q0,Q1,Q2,↓awU,awV,awF,Qa,Qb,Qc,Qd,forall_const,↓reduceIte,↓reduceDIte,↓Qe,Qf,Qg,Qh,Qi,Qj,Qk,Ql,Qm,Qn,Qo,Qp,Qq,Qr,Qs,implies_true,Qt,Qu,Qv,Qw,Qx,Qy,Qz,QA,QB,QC,QD,QE,QF,QG,QH,QI,QJ,QK,QL,QM,QN,QO,QP,QQ]
         refine CallC.of c2 (by rfl) ?_
         simp (config:={maxSteps:=1000000}) (disch:=((try simp only [awL]);omega)) only [QR,QS,QT,QU,QV,QW,QX,QY,QZ,Q0,Q1,Q2,↓awU,awV,awF,Qa,Qb,Qc,Qd,forall_const,↓reduceIte,↓reduceDIte,↓Qe,Qf,Qg,Qh,Qi,Qj,Qk,Ql,Qm,Qn,Qo,Qp,Qq,Qr,Qs,implies_true,Qt,Qu,Qv,Qw,Qx,Qy,Qz,QA,QB,QC,QD,QE,QF,QG,QH,QI,QJ,QK,QL,QM,QN,QO,QP,QQ]
         first
         | exact ⟨j+1,h5,by simp only;omega,⟨[some 0,some 1,some 2,some 3],rfl,by simp,by simp [setsA,keepA,SWeak,AWeak],by simp [HWeak,BWeak,SWeak,AWeak]⟩⟩
         | exact ⟨by rfl,j+1,h5,by simp only;omega,⟨[some 0,some 1,some 2,some 3],rfl,by simp,by simp [setsA,keepA,SWeak,AWeak],by simp [HWeak,BWeak,SWeak,AWeak]⟩⟩
         | (cases cb<;>(simp (config:={maxSteps:=1000000}) (disch:=((try simp only [awL]);omega)) only [QR,QS,QT,QU,QV,QW,QX,QY,QZ,Q0,Q1,Q2,↓awU,awV,awF,Qa,Qb,Qc,Qd,forall_const,↓reduceIte,↓reduceDIte,↓Qe,Qf,Qg,Qh,Qi,Qj,Qk,Ql,Qm,Qn,Qo,Qp,Qq,Qr,Qs,implies_true,Qt,Qu,Qv,Qw,Qx,Qy,Qz,QA,QB,QC,QD,QE,QF,QG,QH,QI,QJ,QK,QL,QM,QN,QO,QP,QQ];exact ⟨j+1,h5,by simp only;omega,⟨[some 0,some 1,some 2,some 3],rfl,by simp,by simp [setsA,keepA,SWeak,AWeak],by simp [HWeak,BWeak,SWeak,AWeak]⟩⟩))
        ·obtain rfl:j=5:=by omega
         simp (config:={maxSteps:=1000000}) (disch:=((try simp only [awL]);omega)) only [QR,QS,QT,QU,QV,QW,QX,QY,QZ,Q0,Q1,Q2,sl,s5,↓awU,awV,awF,Qa,Qb,Qc,Qd,forall_const,↓reduceIte,↓reduceDIte,↓Qe,Qf,Qg,Qh,Qi,Qj,Qk,Ql,Qm,Qn,Qo,Qp,Qq,Qr,Qs,implies_true,Qt,Qu,Qv,Qw,Qx,Qy,Qz,QA,QB,QC,QD,QE,QF,QG,QH,QI,QJ,QK,QL,QM,QN,QO,QP,QQ]
         first | exact ⟨(),trivial,⟨[some 0,some 1,some 2,some 3],rfl,by simp,by simp [setsA,keepA,SWeak,AWeak],by simp [HWeak,BWeak,SWeak,AWeak]⟩⟩
       ·rintro ⟨⟩ -
        simp only [awK,Nat.reduceMod,Nat.reduceDiv,reduceIte]
        simp (config:={maxSteps:=1000000}) (disch:=((try simp only [awL]);omega)) only [QR,QS,QT,QU,QV,QW,QX,QY,QZ,Q0,Q1,Q2,↓awU,awV,awF,Qa,Qb,Qc,Qd,forall_const,↓reduceIte,↓reduceDIte,↓Qe,Qf,Qg,Qh,Qi,Qj,Qk,Ql,Qm,Qn,Qo,Qp,Qq,Qr,Qs,implies_true,Qt,Qu,Qv,Qw,Qx,Qy,Qz,QA,QB,QC,QD,QE,QF,QG,QH,QI,QJ,QK,QL,QM,QN,QO,QP,QQ]
        first | exact ⟨(i+1,k1),h,by simp only;omega,⟨[some 0,some 1],rfl,by simp,by simp [setsA,keepA,SWeak,AWeak],by simp [HWeak,BWeak,SWeak,AWeak]⟩⟩
      ·obtain rfl:i=12:=by omega
       simp (config:={maxSteps:=1000000}) (disch:=((try simp only [awL]);omega)) only [QR,QS,QT,QU,QV,QW,QX,QY,QZ,Q0,Q1,Q2,uL_unf,↓awU,awV,awF,Qa,Qb,Qc,Qd,forall_const,↓reduceIte,↓reduceDIte,↓Qe,Qf,Qg,Qh,Qi,Qj,Qk,Ql,Qm,Qn,Qo,Qp,Qq,Qr,Qs,implies_true,Qt,Qu,Qv,Qw,Qx,Qy,Qz,QA,QB,QC,QD,QE,QF,QG,QH,QI,QJ,QK,QL,QM,QN,QO,QP,QQ]
       first | exact ⟨k,trivial,⟨[some 0,some 1],rfl,by simp,by simp [setsA,keepA,SWeak,AWeak],by simp [HWeak,BWeak,SWeak,AWeak]⟩⟩
     ·rintro k -
      simp only [awK,Nat.reduceMod,Nat.reduceDiv,reduceIte]
      have c1:=convert_spec hG hU [49] (by decide) (ua,ub,uc,ud)
      have c2:=ruconv_spec (G:=G) [49] (by decide) (ua,ub,uc,ud)
      generalize convU [49] (ua,ub,uc,ud)=c at *
      obtain ⟨cx,cb⟩:=c
      simp (config:={maxSteps:=1000000}) (disch:=((try simp only [awL]);omega)) only [QR,QS,QT,QU,QV,QW,QX,QY,QZ,Q0,Q1,Q2,↓awU,awV,awF,Qa,Qb,Qc,Qd,forall_const,↓reduceIte,↓reduceDIte,↓Qe,Qf,Qg,Qh,Qi,Qj,Qk,Ql,Qm,Qn,Qo,Qp,Qq,Qr,Qs,implies_true,Qt,Qu,Qv,Qw,Qx,Qy,Qz,QA,QB,QC,QD,QE,QF,QG,QH,QI,QJ,QK,QL,QM,QN,QO,QP,QQ]
      refine CallC.of c1 (by rfl) ?_
      simp (config:={maxSteps:=1000000}) (disch:=((try simp only [awL]);omega)) only [QR,QS,QT,QU,QV,QW,QX,QY,QZ,Q0,Q1,Q2,↓awU,awV,awF,Qa,Qb,Qc,Qd,forall_const,↓reduceIte,↓reduceDIte,↓Qe,Qf,Qg,Qh,Qi,Qj,Qk,Ql,Qm,Qn,Qo,Qp,Qq,Qr,Qs,implies_true,Qt,Qu,Qv,Qw,Qx,Qy,Qz,QA,QB,QC,QD,QE,QF,QG,QH,QI,QJ,QK,QL,QM,QN,QO,QP,QQ]
      refine CallC.of c2 (by rfl) ?_
      simp (config:={maxSteps:=1000000}) (disch:=((try simp only [awL]);omega)) only [QR,QS,QT,QU,QV,QW,QX,QY,QZ,Q0,Q1,Q2,↓awU,awV,awF,Qa,Qb,Qc,Qd,forall_const,↓reduceIte,↓reduceDIte,↓Qe,Qf,Qg,Qh,Qi,Qj,Qk,Ql,Qm,Qn,Qo,Qp,Qq,Qr,Qs,implies_true,Qt,Qu,Qv,Qw,Qx,Qy,Qz,QA,QB,QC,QD,QE,QF,QG,QH,QI,QJ,QK,QL,QM,QN,QO,QP,QQ]
      refine CallC.by (umade_spec t0 k hmm) (by rfl) (by rfl) (Nat.le_refl _) ?_
      have okm:=madeU_okU t0 k
      have l6:=(madeU_ok t0 k).1
      generalize madeUK t0 k=k2 at *
      generalize madeU t0 k=l at *
      have lc:=celsD_length l
      simp (config:={maxSteps:=1000000}) (disch:=((try simp only [awL]);omega)) only [QR,QS,QT,QU,QV,QW,QX,QY,QZ,Q0,Q1,Q2,↓awU,awV,awF,Qa,Qb,Qc,Qd,forall_const,↓reduceIte,↓reduceDIte,↓Qe,Qf,Qg,Qh,Qi,Qj,Qk,Ql,Qm,Qn,Qo,Qp,Qq,Qr,Qs,implies_true,Qt,Qu,Qv,Qw,Qx,Qy,Qz,QA,QB,QC,QD,QE,QF,QG,QH,QI,QJ,QK,QL,QM,QN,QO,QP,QQ]
      refine CallC.by (field_mspec t0 k2 4 hmm (by decide)) (by rfl) (by rfl) (Nat.le_refl _) ?_
      have fl:=(fieldM_ok t0 k2 4).2
      generalize fieldM t0 k2 4=f at *
      generalize fieldK t0 k2 4=k3 at *
      simp (config:={maxSteps:=1000000}) (disch:=((try simp only [awL]);omega)) only [QR,QS,QT,QU,QV,QW,QX,QY,QZ,Q0,Q1,Q2,lc,↓awU,awV,awF,Qa,Qb,Qc,Qd,forall_const,↓reduceIte,↓reduceDIte,↓Qe,Qf,Qg,Qh,Qi,Qj,Qk,Ql,Qm,Qn,Qo,Qp,Qq,Qr,Qs,implies_true,Qt,Qu,Qv,Qw,Qx,Qy,Qz,QA,QB,QC,QD,QE,QF,QG,QH,QI,QJ,QK,QL,QM,QN,QO,QP,QQ]
      rw [row_five x f l]
      have f5:(five x f).length=5:=rfl
      have lL:(five x f++l).length=l.length+5:=by rw [List.length_append,f5,Nat.add_comm]
      have cL:=celsD_length (five x f++l)
      rw [lL] at cL
      have tL:∀ z∈five x f++l,z.1.length≤9223372036854775807:=by
       intro z hz
       rcases List.mem_append.1 hz with q | q
       ·unfold five at q
        simp only [List.mem_cons,List.not_mem_nil,or_false] at q
        rcases q with rfl | rfl | rfl | rfl | rfl
        ·show x.length≤_;omega
        ·show f.length≤_;omega
        ·exact Nat.le_of_ble_eq_true rfl
        ·exact Nat.le_of_ble_eq_true rfl
        ·exact Nat.le_of_ble_eq_true rfl
       ·exact okm.2 z q
      generalize five x f++l=L at *
      try refine ⟨by rfl,?_⟩
      refine LoopC.fx 4181389724724491839037947176121568000475174 (α:=Nat) (β:=Unit) (fun i=>L.length - i) (fun i=>[(142,.d (.int .i64 (i:Nat)))]) (fun _=>[.dead,.dead,.box [.d (S [99]),.d (CelS l false)],.dead,.row false (celsD L)]) (fun i=>i≤L.length)
       218103846 (fun _=>[]) (fun _=>[.dead,.dead,.box [.d (S [99]),.d (CelS l false)],.dead,.row false (celsD L)]) (fun _=>True) 0 (Nat.zero_le _) ?_ ?_ ?_
      ·first | exact ⟨[some 0,some 1,some 2,some 3,some 4],rfl,by simp,by simp [setsA,keepA,SWeak,AWeak],by simp [HWeak,BWeak,SWeak,AWeak]⟩
      ·intro i hi
       simp only [awK,Nat.reduceMod,Nat.reduceDiv,reduceIte]
       rcases Nat.lt_or_ge i L.length with h | h
       ·have gc:=celsD_get h
        have gx:=tL _ (memD (d:=noC) h)
        generalize L.getD i noC=z at *
        obtain ⟨s,nul⟩:=z
        simp only at gx
        have gc:((celsD L).drop (i*2)).take 2=[.bool nul,S s]:=gc
        have c1:=split_spec hG hU s gx
        have c2:=rsplit_spec (G:=G) s gx
        obtain ⟨n,v,b,e⟩:=splR_form s
        rw [e] at c1 c2
        obtain ⟨va,vb,vc,vd⟩:=v
        simp (config:={maxSteps:=1000000}) (disch:=((try simp only [awL]);omega)) only [QR,QS,QT,QU,QV,QW,QX,QY,QZ,Q0,Q1,Q2,lL,cL,gc,↓awU,awV,awF,Qa,Qb,Qc,Qd,forall_const,↓reduceIte,↓reduceDIte,↓Qe,Qf,Qg,Qh,Qi,Qj,Qk,Ql,Qm,Qn,Qo,Qp,Qq,Qr,Qs,implies_true,Qt,Qu,Qv,Qw,Qx,Qy,Qz,QA,QB,QC,QD,QE,QF,QG,QH,QI,QJ,QK,QL,QM,QN,QO,QP,QQ]
        refine CallC.of c1 (by rfl) ?_
        simp (config:={maxSteps:=1000000}) (disch:=((try simp only [awL]);omega)) only [QR,QS,QT,QU,QV,QW,QX,QY,QZ,Q0,Q1,Q2,↓awU,awV,awF,Qa,Qb,Qc,Qd,forall_const,↓reduceIte,↓reduceDIte,↓Qe,Qf,Qg,Qh,Qi,Qj,Qk,Ql,Qm,Qn,Qo,Qp,Qq,Qr,Qs,implies_true,Qt,Qu,Qv,Qw,Qx,Qy,Qz,QA,QB,QC,QD,QE,QF,QG,QH,QI,QJ,QK,QL,QM,QN,QO,QP,QQ]
        refine CallC.of c2 (by rfl) ?_
        simp (config:={maxSteps:=1000000}) (disch:=((try simp only [awL]);omega)) only [QR,QS,QT,QU,QV,QW,QX,QY,QZ,Q0,Q1,Q2,↓awU,awV,awF,Qa,Qb,Qc,Qd,forall_const,↓reduceIte,↓reduceDIte,↓Qe,Qf,Qg,Qh,Qi,Qj,Qk,Ql,Qm,Qn,Qo,Qp,Qq,Qr,Qs,implies_true,Qt,Qu,Qv,Qw,Qx,Qy,Qz,QA,QB,QC,QD,QE,QF,QG,QH,QI,QJ,QK,QL,QM,QN,QO,QP,QQ]
        first
        | exact ⟨i+1,(by omega:i+1≤l.length+5),by simp only;omega,⟨[some 0,some 1,some 2,some 3,some 4],rfl,by simp,by simp [setsA,keepA,SWeak,AWeak],by simp [HWeak,BWeak,SWeak,AWeak]⟩⟩
        | exact ⟨by rfl,i+1,(by omega:i+1≤l.length+5),by simp only;omega,⟨[some 0,some 1,some 2,some 3,some 4],rfl,by simp,by simp [setsA,keepA,SWeak,AWeak],by simp [HWeak,BWeak,SWeak,AWeak]⟩⟩
       ·obtain rfl:i=L.length:=by omega
        simp (config:={maxSteps:=1000000}) (disch:=((try simp only [awL]);omega)) only [QR,QS,QT,QU,QV,QW,QX,QY,QZ,Q0,Q1,Q2,lL,cL,↓awU,awV,awF,Qa,Qb,Qc,Qd,forall_const,↓reduceIte,↓reduceDIte,↓Qe,Qf,Qg,Qh,Qi,Qj,Qk,Ql,Qm,Qn,Qo,Qp,Qq,Qr,Qs,implies_true,Qt,Qu,Qv,Qw,Qx,Qy,Qz,QA,QB,QC,QD,QE,QF,QG,QH,QI,QJ,QK,QL,QM,QN,QO,QP,QQ]
        first | exact ⟨(),trivial,⟨[some 0,some 1,some 2,some 3,some 4],rfl,by simp,by simp [setsA,keepA,SWeak,AWeak],by simp [HWeak,BWeak,SWeak,AWeak]⟩⟩
      ·rintro ⟨⟩ -
       simp only [awK,Nat.reduceMod,Nat.reduceDiv,reduceIte]
       simp (config:={maxSteps:=1000000}) (disch:=((try simp only [awL]);omega)) only [QR,QS,QT,QU,QV,QW,QX,QY,QZ,Q0,Q1,Q2,↓awU,awV,awF,Qa,Qb,Qc,Qd,forall_const,↓reduceIte,↓reduceDIte,↓Qe,Qf,Qg,Qh,Qi,Qj,Qk,Ql,Qm,Qn,Qo,Qp,Qq,Qr,Qs,implies_true,Qt,Qu,Qv,Qw,Qx,Qy,Qz,QA,QB,QC,QD,QE,QF,QG,QH,QI,QJ,QK,QL,QM,QN,QO,QP,QQ]
       have okr:okU raw:=⟨by omega,hr2⟩
       have hLx:∀ i,i<2→∃ (nm:List UInt8) (cs:List Cel),([S [99],CelS l false,S [],CelS raw false].drop (i*2)).take 2=[S nm,CelS cs false]∧okU cs:=by
        intro i hi
        rcases (by omega:i=0∨i=1) with rfl | rfl
        ·exact ⟨[99],l,rfl,okm⟩
        ·exact ⟨[],raw,rfl,okr⟩
       have hb0:D.str ByteArray.empty=S []:=rfl
       try rw [hb0]
       generalize hL2:[S [99],CelS l false,S [],CelS raw false]=L2 at *
       have hLl:L2.length=4:=by rw [← hL2];rfl
       clear hL2
       refine LoopC.fx 574685827824708321884380135181365943857027170902736932 (α:=Nat) (β:=Unit) (fun i=>2 - i) (fun i=>[(179,.d (.int .i64 (i:Nat)))]) (fun _=>[.dead,.dead,.dead,.dead,.dead,.row false L2]) (fun i=>i≤2)
        83886112 (fun _=>[]) (fun _=>[]) (fun _=>True) 0 (Nat.zero_le _) ?_ ?_ ?_
       ·first | exact ⟨[some 0,some 1,some 2,some 3,some 4,some 5],rfl,by simp,by simp [setsA,keepA,SWeak,AWeak],by simp [HWeak,BWeak,SWeak,AWeak]⟩
       ·intro i hi
        simp only [awK,Nat.reduceMod,Nat.reduceDiv,reduceIte]
        rcases Nat.lt_or_ge i 2 with h | h
        ·obtain ⟨nm,cs,gl,okc⟩:=hLx i h
         have o1:=uoptions_spec hG hU hB nm cs false okc
         have o2:=ruoptions_spec (G:=G) nm cs false okc
         have so:=sameOpt_spec (G:=G) (optsU cs) false false (by show 4≤1000000;decide)
         have so:Ctr Tryz.prog G 24 [.d (.sl 4 false (optC (optsU cs))),.d (.sl 4 false (optC (optsU cs)))] [] (.d (.bool true)) []:=so
         have t1:=utakeO_spec (G:=G) cs
         have t2:=rutakeO_spec (G:=G) cs
         generalize optC (optsU cs)=O at *
         generalize baseU cs=B at *
         simp (config:={maxSteps:=1000000}) (disch:=((try simp only [awL]);omega)) only [QR,QS,QT,QU,QV,QW,QX,QY,QZ,Q0,Q1,Q2,hLl,gl,↓awU,awV,awF,Qa,Qb,Qc,Qd,forall_const,↓reduceIte,↓reduceDIte,↓Qe,Qf,Qg,Qh,Qi,Qj,Qk,Ql,Qm,Qn,Qo,Qp,Qq,Qr,Qs,implies_true,Qt,Qu,Qv,Qw,Qx,Qy,Qz,QA,QB,QC,QD,QE,QF,QG,QH,QI,QJ,QK,QL,QM,QN,QO,QP,QQ]
         refine CallC.of o1 (by rfl) ?_
         simp (config:={maxSteps:=1000000}) (disch:=((try simp only [awL]);omega)) only [QR,QS,QT,QU,QV,QW,QX,QY,QZ,Q0,Q1,Q2,↓awU,awV,awF,Qa,Qb,Qc,Qd,forall_const,↓reduceIte,↓reduceDIte,↓Qe,Qf,Qg,Qh,Qi,Qj,Qk,Ql,Qm,Qn,Qo,Qp,Qq,Qr,Qs,implies_true,Qt,Qu,Qv,Qw,Qx,Qy,Qz,QA,QB,QC,QD,QE,QF,QG,QH,QI,QJ,QK,QL,QM,QN,QO,QP,QQ]
         refine CallC.of o2 (by rfl) ?_
         simp (config:={maxSteps:=1000000}) (disch:=((try simp only [awL]);omega)) only [QR,QS,QT,QU,QV,QW,QX,QY,QZ,Q0,Q1,Q2,↓awU,awV,awF,Qa,Qb,Qc,Qd,forall_const,↓reduceIte,↓reduceDIte,↓Qe,Qf,Qg,Qh,Qi,Qj,Qk,Ql,Qm,Qn,Qo,Qp,Qq,Qr,Qs,implies_true,Qt,Qu,Qv,Qw,Qx,Qy,Qz,QA,QB,QC,QD,QE,QF,QG,QH,QI,QJ,QK,QL,QM,QN,QO,QP,QQ]
         refine CallC.of so (by rfl) ?_
         simp (config:={maxSteps:=1000000}) (disch:=((try simp only [awL]);omega)) only [QR,QS,QT,QU,QV,QW,QX,QY,QZ,Q0,Q1,Q2,↓awU,awV,awF,Qa,Qb,Qc,Qd,forall_const,↓reduceIte,↓reduceDIte,↓Qe,Qf,Qg,Qh,Qi,Qj,Qk,Ql,Qm,Qn,Qo,Qp,Qq,Qr,Qs,implies_true,Qt,Qu,Qv,Qw,Qx,Qy,Qz,QA,QB,QC,QD,QE,QF,QG,QH,QI,QJ,QK,QL,QM,QN,QO,QP,QQ]
         refine CallC.of t1 (by rfl) ?_
         simp (config:={maxSteps:=1000000}) (disch:=((try simp only [awL]);omega)) only [QR,QS,QT,QU,QV,QW,QX,QY,QZ,Q0,Q1,Q2,↓awU,awV,awF,Qa,Qb,Qc,Qd,forall_const,↓reduceIte,↓reduceDIte,↓Qe,Qf,Qg,Qh,Qi,Qj,Qk,Ql,Qm,Qn,Qo,Qp,Qq,Qr,Qs,implies_true,Qt,Qu,Qv,Qw,Qx,Qy,Qz,QA,QB,QC,QD,QE,QF,QG,QH,QI,QJ,QK,QL,QM,QN,QO,QP,QQ]
         refine CallC.of t2 (by rfl) ?_
         simp (config:={maxSteps:=1000000}) (disch:=((try simp only [awL]);omega)) only [QR,QS,QT,QU,QV,QW,QX,QY,QZ,Q0,Q1,Q2,↓awU,awV,awF,Qa,Qb,Qc,Qd,forall_const,↓reduceIte,↓reduceDIte,↓Qe,Qf,Qg,Qh,Qi,Qj,Qk,Ql,Qm,Qn,Qo,Qp,Qq,Qr,Qs,implies_true,Qt,Qu,Qv,Qw,Qx,Qy,Qz,QA,QB,QC,QD,QE,QF,QG,QH,QI,QJ,QK,QL,QM,QN,QO,QP,QQ]
         have sl:=@strs_length (six x)
         have s6:(six x).length=6:=rfl
         refine LoopC.fx 1205204874127840964309222632809520708412187911733964059967524 (α:=Nat) (β:=Unit) (fun j=>6 - j) (fun j=>[(200,.d (.int .i64 (j:Nat)))]) (fun _=>[.dead,.dead,.dead,.dead,.dead,.row false L2,.box [.d (S nm),.d (CelS cs false)],.row false (strs (six x))]) (fun j=>j≤6)
          1340933598257652751063553648756520535666396731994538020 (fun _=>[]) (fun _=>[.dead,.dead,.dead,.dead,.dead,.row false L2]) (fun _=>True) 0 (Nat.zero_le _) ?_ ?_ ?_
         ·first | exact ⟨[some 0,some 1,some 2,some 3,some 4,some 5,some 6,some 7],rfl,by simp,by simp [setsA,keepA,SWeak,AWeak],by simp [HWeak,BWeak,SWeak,AWeak];rfl⟩
         ·intro j hj
          simp only [awK,Nat.reduceMod,Nat.reduceDiv,reduceIte]
          rcases Nat.lt_or_ge j 6 with h6 | h6
          ·have gs:=strs_getD (l:=six x) (i:=j) (by rw [s6];exact h6)
           generalize (six x).getD j []=b at *
           have a1:=uapply_spec hG hU hB nm cs false okc b
           have a2:=ruapply_spec (G:=G) nm cs false okc b
           obtain ⟨nm2,l2,e,le⟩:=uapR_form nm b cs
           rw [e] at a1 a2
           have sc:=sameCells_spec (G:=G) ⟨nm2,l2⟩ false false (by show l2.length≤1000000;have:=okc.1;omega)
           have kn:=known_spec hB b
           have kr:=ruknown_spec (G:=G) b
           generalize decide (b∈basesL)=kb at *
           generalize uapE b cs=er at *
           simp (config:={maxSteps:=1000000}) (disch:=((try simp only [awL]);omega)) only [QR,QS,QT,QU,QV,QW,QX,QY,QZ,Q0,Q1,Q2,sl,s6,gs,↓awU,awV,awF,Qa,Qb,Qc,Qd,forall_const,↓reduceIte,↓reduceDIte,↓Qe,Qf,Qg,Qh,Qi,Qj,Qk,Ql,Qm,Qn,Qo,Qp,Qq,Qr,Qs,implies_true,Qt,Qu,Qv,Qw,Qx,Qy,Qz,QA,QB,QC,QD,QE,QF,QG,QH,QI,QJ,QK,QL,QM,QN,QO,QP,QQ]
           refine CallC.of a1 (by rfl) ?_
           simp (config:={maxSteps:=1000000}) (disch:=((try simp only [awL]);omega)) only [QR,QS,QT,QU,QV,QW,QX,QY,QZ,Q0,Q1,Q2,↓awU,awV,awF,Qa,Qb,Qc,Qd,forall_const,↓reduceIte,↓reduceDIte,↓Qe,Qf,Qg,Qh,Qi,Qj,Qk,Ql,Qm,Qn,Qo,Qp,Qq,Qr,Qs,implies_true,Qt,Qu,Qv,Qw,Qx,Qy,Qz,QA,QB,QC,QD,QE,QF,QG,QH,QI,QJ,QK,QL,QM,QN,QO,QP,QQ]
           refine CallC.of a2 (by rfl) ?_
           simp (config:={maxSteps:=1000000}) (disch:=((try simp only [awL]);omega)) only [QR,QS,QT,QU,QV,QW,QX,QY,QZ,Q0,Q1,Q2,↓awU,awV,awF,Qa,Qb,Qc,Qd,forall_const,↓reduceIte,↓reduceDIte,↓Qe,Qf,Qg,Qh,Qi,Qj,Qk,Ql,Qm,Qn,Qo,Qp,Qq,Qr,Qs,implies_true,Qt,Qu,Qv,Qw,Qx,Qy,Qz,QA,QB,QC,QD,QE,QF,QG,QH,QI,QJ,QK,QL,QM,QN,QO,QP,QQ]
           refine CallC.of sc (by rfl) ?_
           simp (config:={maxSteps:=1000000}) (disch:=((try simp only [awL]);omega)) only [QR,QS,QT,QU,QV,QW,QX,QY,QZ,Q0,Q1,Q2,↓awU,awV,awF,Qa,Qb,Qc,Qd,forall_const,↓reduceIte,↓reduceDIte,↓Qe,Qf,Qg,Qh,Qi,Qj,Qk,Ql,Qm,Qn,Qo,Qp,Qq,Qr,Qs,implies_true,Qt,Qu,Qv,Qw,Qx,Qy,Qz,QA,QB,QC,QD,QE,QF,QG,QH,QI,QJ,QK,QL,QM,QN,QO,QP,QQ]
           refine CallC.of kn (by rfl) ?_
           simp (config:={maxSteps:=1000000}) (disch:=((try simp only [awL]);omega)) only [QR,QS,QT,QU,QV,QW,QX,QY,QZ,Q0,Q1,Q2,↓awU,awV,awF,Qa,Qb,Qc,Qd,forall_const,↓reduceIte,↓reduceDIte,↓Qe,Qf,Qg,Qh,Qi,Qj,Qk,Ql,Qm,Qn,Qo,Qp,Qq,Qr,Qs,implies_true,Qt,Qu,Qv,Qw,Qx,Qy,Qz,QA,QB,QC,QD,QE,QF,QG,QH,QI,QJ,QK,QL,QM,QN,QO,QP,QQ]
           refine CallC.of kr (by rfl) ?_
           simp (config:={maxSteps:=1000000}) (disch:=((try simp only [awL]);omega)) only [QR,QS,QT,QU,QV,QW,QX,QY,QZ,Q0,Q1,Q2,↓awU,awV,awF,Qa,Qb,Qc,Qd,forall_const,↓reduceIte,↓reduceDIte,↓Qe,Qf,Qg,Qh,Qi,Qj,Qk,Ql,Qm,Qn,Qo,Qp,Qq,Qr,Qs,implies_true,Qt,Qu,Qv,Qw,Qx,Qy,Qz,QA,QB,QC,QD,QE,QF,QG,QH,QI,QJ,QK,QL,QM,QN,QO,QP,QQ]
           first
           | exact ⟨j+1,h6,by simp only;omega,⟨[some 0,some 1,some 2,some 3,some 4,some 5,some 6,some 7],rfl,by simp,by simp [setsA,keepA,SWeak,AWeak],by simp [HWeak,BWeak,SWeak,AWeak]⟩⟩
           | exact ⟨by rfl,j+1,h6,by simp only;omega,⟨[some 0,some 1,some 2,some 3,some 4,some 5,some 6,some 7],rfl,by simp,by simp [setsA,keepA,SWeak,AWeak],by simp [HWeak,BWeak,SWeak,AWeak]⟩⟩
           | (cases kb<;>(simp (config:={maxSteps:=1000000}) (disch:=((try simp only [awL]);omega)) only [QR,QS,QT,QU,QV,QW,QX,QY,QZ,Q0,Q1,Q2,↓awU,awV,awF,Qa,Qb,Qc,Qd,forall_const,↓reduceIte,↓reduceDIte,↓Qe,Qf,Qg,Qh,Qi,Qj,Qk,Ql,Qm,Qn,Qo,Qp,Qq,Qr,Qs,implies_true,Qt,Qu,Qv,Qw,Qx,Qy,Qz,QA,QB,QC,QD,QE,QF,QG,QH,QI,QJ,QK,QL,QM,QN,QO,QP,QQ];exact ⟨j+1,h6,by simp only;omega,⟨[some 0,some 1,some 2,some 3,some 4,some 5,some 6,some 7],rfl,by simp,by simp [setsA,keepA,SWeak,AWeak],by simp [HWeak,BWeak,SWeak,AWeak]⟩⟩))
          ·obtain rfl:j=6:=by omega
           simp (config:={maxSteps:=1000000}) (disch:=((try simp only [awL]);omega)) only [QR,QS,QT,QU,QV,QW,QX,QY,QZ,Q0,Q1,Q2,sl,s6,↓awU,awV,awF,Qa,Qb,Qc,Qd,forall_const,↓reduceIte,↓reduceDIte,↓Qe,Qf,Qg,Qh,Qi,Qj,Qk,Ql,Qm,Qn,Qo,Qp,Qq,Qr,Qs,implies_true,Qt,Qu,Qv,Qw,Qx,Qy,Qz,QA,QB,QC,QD,QE,QF,QG,QH,QI,QJ,QK,QL,QM,QN,QO,QP,QQ]
           first | exact ⟨(),trivial,⟨[some 0,some 1,some 2,some 3,some 4,some 5],rfl,by simp,by simp [setsA,keepA,SWeak,AWeak],by simp [HWeak,BWeak,SWeak,AWeak]⟩⟩
         ·rintro ⟨⟩ -
          simp only [awK,Nat.reduceMod,Nat.reduceDiv,reduceIte]
          simp (config:={maxSteps:=1000000}) (disch:=((try simp only [awL]);omega)) only [QR,QS,QT,QU,QV,QW,QX,QY,QZ,Q0,Q1,Q2,↓awU,awV,awF,Qa,Qb,Qc,Qd,forall_const,↓reduceIte,↓reduceDIte,↓Qe,Qf,Qg,Qh,Qi,Qj,Qk,Ql,Qm,Qn,Qo,Qp,Qq,Qr,Qs,implies_true,Qt,Qu,Qv,Qw,Qx,Qy,Qz,QA,QB,QC,QD,QE,QF,QG,QH,QI,QJ,QK,QL,QM,QN,QO,QP,QQ]
          first | exact ⟨i+1,h,by simp only;omega,⟨[some 0,some 1,some 2,some 3,some 4,some 5],rfl,by simp,by simp [setsA,keepA,SWeak,AWeak],by simp [HWeak,BWeak,SWeak,AWeak]⟩⟩
        ·obtain rfl:i=2:=by omega
         simp (config:={maxSteps:=1000000}) (disch:=((try simp only [awL]);omega)) only [QR,QS,QT,QU,QV,QW,QX,QY,QZ,Q0,Q1,Q2,hLl,↓awU,awV,awF,Qa,Qb,Qc,Qd,forall_const,↓reduceIte,↓reduceDIte,↓Qe,Qf,Qg,Qh,Qi,Qj,Qk,Ql,Qm,Qn,Qo,Qp,Qq,Qr,Qs,implies_true,Qt,Qu,Qv,Qw,Qx,Qy,Qz,QA,QB,QC,QD,QE,QF,QG,QH,QI,QJ,QK,QL,QM,QN,QO,QP,QQ]
         first | exact ⟨(),trivial,⟨[],rfl,by simp,by simp [setsA,keepA,SWeak,AWeak],by simp [HWeak,BWeak,SWeak,AWeak]⟩⟩
       ·rintro ⟨⟩ -
        simp only [awK,Nat.reduceMod,Nat.reduceDiv,reduceIte]
        have t1:=utake_spec (G:=G) ol false (by omega)
        have t2:=rutake_spec (G:=G) ol false (by omega)
        generalize takeU ol=T at *
        simp (config:={maxSteps:=1000000}) (disch:=((try simp only [awL]);omega)) only [QR,QS,QT,QU,QV,QW,QX,QY,QZ,Q0,Q1,Q2,↓awU,awV,awF,Qa,Qb,Qc,Qd,forall_const,↓reduceIte,↓reduceDIte,↓Qe,Qf,Qg,Qh,Qi,Qj,Qk,Ql,Qm,Qn,Qo,Qp,Qq,Qr,Qs,implies_true,Qt,Qu,Qv,Qw,Qx,Qy,Qz,QA,QB,QC,QD,QE,QF,QG,QH,QI,QJ,QK,QL,QM,QN,QO,QP,QQ]
        refine CallC.of t1 (by rfl) ?_
        simp (config:={maxSteps:=1000000}) (disch:=((try simp only [awL]);omega)) only [QR,QS,QT,QU,QV,QW,QX,QY,QZ,Q0,Q1,Q2,↓awU,awV,awF,Qa,Qb,Qc,Qd,forall_const,↓reduceIte,↓reduceDIte,↓Qe,Qf,Qg,Qh,Qi,Qj,Qk,Ql,Qm,Qn,Qo,Qp,Qq,Qr,Qs,implies_true,Qt,Qu,Qv,Qw,Qx,Qy,Qz,QA,QB,QC,QD,QE,QF,QG,QH,QI,QJ,QK,QL,QM,QN,QO,QP,QQ]
        refine CallC.of t2 (by rfl) ?_
        simp (config:={maxSteps:=1000000}) (disch:=((try simp only [awL]);omega)) only [QR,QS,QT,QU,QV,QW,QX,QY,QZ,Q0,Q1,Q2,↓awU,awV,awF,Qa,Qb,Qc,Qd,forall_const,↓reduceIte,↓reduceDIte,↓Qe,Qf,Qg,Qh,Qi,Qj,Qk,Ql,Qm,Qn,Qo,Qp,Qq,Qr,Qs,implies_true,Qt,Qu,Qv,Qw,Qx,Qy,Qz,QA,QB,QC,QD,QE,QF,QG,QH,QI,QJ,QK,QL,QM,QN,QO,QP,QQ]
        first | done | rfl
    ·simp (config:={maxSteps:=1000000}) (disch:=((try simp only [awL]);omega)) only [QR,QS,QT,QU,QV,QW,QX,QY,QZ,Q0,Q1,Q2,↓awU,awV,awF,Qa,Qb,Qc,Qd,forall_const,↓reduceIte,↓reduceDIte,↓Qe,Qf,Qg,Qh,Qi,Qj,Qk,Ql,Qm,Qn,Qo,Qp,Qq,Qr,Qs,implies_true,Qt,Qu,Qv,Qw,Qx,Qy,Qz,QA,QB,QC,QD,QE,QF,QG,QH,QI,QJ,QK,QL,QM,QN,QO,QP,QQ]
     first | done | rfl
   ·simp (config:={maxSteps:=1000000}) (disch:=((try simp only [awL]);omega)) only [QR,QS,QT,QU,QV,QW,QX,QY,QZ,Q0,Q1,Q2,↓awU,awV,awF,Qa,Qb,Qc,Qd,forall_const,↓reduceIte,↓reduceDIte,↓Qe,Qf,Qg,Qh,Qi,Qj,Qk,Ql,Qm,Qn,Qo,Qp,Qq,Qr,Qs,implies_true,Qt,Qu,Qv,Qw,Qx,Qy,Qz,QA,QB,QC,QD,QE,QF,QG,QH,QI,QJ,QK,QL,QM,QN,QO,QP,QQ]
    first | done | rfl
  ·simp (config:={maxSteps:=1000000}) (disch:=((try simp only [awL]);omega)) only [QR,QS,QT,QU,QV,QW,QX,QY,QZ,Q0,Q1,Q2,↓awU,awV,awF,Qa,Qb,Qc,Qd,forall_const,↓reduceIte,↓reduceDIte,↓Qe,Qf,Qg,Qh,Qi,Qj,Qk,Ql,Qm,Qn,Qo,Qp,Qq,Qr,Qs,implies_true,Qt,Qu,Qv,Qw,Qx,Qy,Qz,QA,QB,QC,QD,QE,QF,QG,QH,QI,QJ,QK,QL,QM,QN,QO,QP,QQ]
   first | done | rfl
 ·simp (config:={maxSteps:=1000000}) (disch:=((try simp only [awL]);omega)) only [QR,QS,QT,QU,QV,QW,QX,QY,QZ,Q0,Q1,Q2,↓awU,awV,awF,Qa,Qb,Qc,Qd,forall_const,↓reduceIte,↓reduceDIte,↓Qe,Qf,Qg,Qh,Qi,Qj,Qk,Ql,Qm,Qn,Qo,Qp,Qq,Qr,Qs,implies_true,Qt,Qu,Qv,Qw,Qx,Qy,Qz,QA,QB,QC,QD,QE,QF,QG,QH,QI,QJ,QK,QL,QM,QN,QO,QP,QQ]
  first | done | rfl
end Go.Proofs.YtkcghbpghjdgpaaGreatDoor
