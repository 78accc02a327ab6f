/-
  A world that lays the variables of typesDates.
-/
import Derived.Test.YtdpjcghiegggbaaGreatDoorMb3
set_option linter.all false
open Go.Abs renaming ofVal→Qa,ofVal0→Qb,isShift→Qc,aggK→Qd,purePost→Qe,combine→Qf,idsA→Qg,cellsA→Qh,numsOf→Qi,srcA→Qj,calleeA→Qk,refsA→Ql,isScalar→Qm,scalarD→Qn,scalar0→Qo,putL→Qr,unfA→Qs,sidsB→QJ,keyKD→QL,isIntK→QM,aggD→QN,aggL→QO,eqKs→QP,boxRow→QQ,nextC_more→QT,nextC_over→QU,bs_size→QV,bs_extract→QW,bs_toList→QX,bs_append→QY,byteAt_bs→QZ,bs_cells→Q0,nums_length→Q1,nums_getD→Q2
open Go.Abs.AV renaming one→Qp
open Go.Abs.D renaming one→Qq
open Go.IntKind renaming signed→Qt
open Nat renaming reduceAdd→Qu,reduceSub→Qv,reduceMul→Qw,reducePow→Qx,reduceDiv→Qy,reduceMod→Qz,reduceEqDiff→QI,reduceBEq→QK
open Int renaming reduceAdd→QA,reduceSub→QB,reduceMul→QC,reducePow→QD,reduceNeg→QE,reduceToNat→QF,reduceLT→QG,reduceLE→QH
open Option renaming toList_some→QR,toList_none→QS
namespace Go.Proofs.YtdpjcghiegggbaaGreatDoor
open Go Go.Proofs Go.Abs Go.RowKit Go.ChangeShapes Go.WideShapes Go.ChangeAt
noncomputable def laidWorld_typesDates (os:Os):World :=
 {World.holding Tryz.prog os ⟨#[.cells #[.string ⟨#[118,97,108,117,101,32,111,117,116,32,111,102,32,114,97,110,103,101]⟩] 224,.cells #[.string ⟨#[105,110,118,97,108,105,100,32,115,121,110,116,97,120]⟩] 224,.cells #[.int .u32 1] 106],#[],[]⟩ with heap:=(((((((((World.holding Tryz.prog os ⟨#[.cells #[.string ⟨#[118,97,108,117,101,32,111,117,116,32,111,102,32,114,97,110,103,101]⟩] 224,.cells #[.string ⟨#[105,110,118,97,108,105,100,32,115,121,110,116,97,120]⟩] 224,.cells #[.int .u32 1] 106],#[],[]⟩).heap.modify 9 fun
   | .cells _ t frozen=>.cells #[.int .u8 0,.int .u8 1,.int .u8 28,.int .u8 2,.int .u8 29,.int .u8 14,.int .u8 24,.int .u8 3,.int .u8 30,.int .u8 22,.int .u8 20,.int .u8 15,.int .u8 25,.int .u8 17,.int .u8 4,.int .u8 8,.int .u8 31,.int .u8 27,.int .u8 13,.int .u8 23,.int .u8 21,.int .u8 19,.int .u8 16,.int .u8 7,.int .u8 26,.int .u8 12,.int .u8 18,.int .u8 6,.int .u8 11,.int .u8 5,.int .u8 10,.int .u8 9] t frozen
   | o=>o).modify 10 fun
   | .cells _ t frozen=>.cells #[.int .u8 0,.int .u8 1,.int .u8 56,.int .u8 2,.int .u8 57,.int .u8 49,.int .u8 28,.int .u8 3,.int .u8 61,.int .u8 58,.int .u8 42,.int .u8 50,.int .u8 38,.int .u8 29,.int .u8 17,.int .u8 4,.int .u8 62,.int .u8 47,.int .u8 59,.int .u8 36,.int .u8 45,.int .u8 43,.int .u8 51,.int .u8 22,.int .u8 53,.int .u8 39,.int .u8 33,.int .u8 30,.int .u8 24,.int .u8 18,.int .u8 12,.int .u8 5,.int .u8 63,.int .u8 55,.int .u8 48,.int .u8 27,.int .u8 60,.int .u8 41,.int .u8 37,.int .u8 16,.int .u8 46,.int .u8 35,.int .u8 44,.int .u8 21,.int .u8 52,.int .u8 32,.int .u8 23,.int .u8 11,.int .u8 54,.int .u8 26,.int .u8 40,.int .u8 15,.int .u8 34,.int .u8 20,.int .u8 31,.int .u8 10,.int .u8 25,.int .u8 14,.int .u8 19,.int .u8 9,.int .u8 13,.int .u8 8,.int .u8 7,.int .u8 6] t frozen
   | o=>o).modify 2 fun
   | .cells _ t frozen=>.cells #[.int .u64 1,.int .u64 10,.int .u64 100,.int .u64 1000,.int .u64 10000,.int .u64 100000,.int .u64 1000000,.int .u64 10000000,.int .u64 100000000,.int .u64 1000000000,.int .u64 10000000000,.int .u64 100000000000,.int .u64 1000000000000,.int .u64 10000000000000,.int .u64 100000000000000,.int .u64 1000000000000000,.int .u64 10000000000000000,.int .u64 100000000000000000,.int .u64 1000000000000000000,.int .u64 10000000000000000000] t frozen
   | o=>o).modify 7 fun
   | .cells _ t frozen=>.cells #[.int .u8 128,.int .u8 191,.int .u8 160,.int .u8 191,.int .u8 128,.int .u8 159,.int .u8 144,.int .u8 191,.int .u8 128,.int .u8 143,.int .u8 0,.int .u8 0,.int .u8 0,.int .u8 0,.int .u8 0,.int .u8 0,.int .u8 0,.int .u8 0,.int .u8 0,.int .u8 0,.int .u8 0,.int .u8 0,.int .u8 0,.int .u8 0,.int .u8 0,.int .u8 0,.int .u8 0,.int .u8 0,.int .u8 0,.int .u8 0,.int .u8 0,.int .u8 0] t frozen
   | o=>o).modify 5 fun
   | .cells _ t frozen=>.cells #[.iface 222 (.pointer (some ⟨(World.settled Tryz.prog os).heap.size,0,none⟩))] t frozen
   | o=>o).modify 4 fun
   | .cells _ t frozen=>.cells #[.iface 222 (.pointer (some ⟨(World.settled Tryz.prog os).heap.size+1,0,none⟩))] t frozen
   | o=>o).modify 1 fun
   | .cells _ t frozen=>.cells #[.slice (some ⟨(World.settled Tryz.prog os).heap.size+2,0,none⟩) 1 1] t frozen
   | o=>o).modify 6 fun
   | .cells _ t frozen=>.cells (Go.Pinned.utf8FirstZ.map fun (n:Nat)=>Value.int .u8 (n:Int)).toArray t frozen
   | o=>o)}
set_option maxRecDepth 100000 in
theorem laid_met_typesDates (os:Os) (args:Array Value):laidMet Tryz.prog [("math/bits.deBruijn32tab",Rows.laid_math_bits_deBruijn32tab),("math/bits.deBruijn64tab",Rows.laid_math_bits_deBruijn64tab),("internal/strconv.uint64pow10",Rows.laid_internal_strconv_uint64pow10),("unicode/utf8.acceptRanges",Rows.laid_unicode_utf8_acceptRanges),("strconv.ErrRange",Rows.laid_strconv_ErrRange),("strconv.ErrSyntax",Rows.laid_strconv_ErrSyntax),("tablefinder/fraction.one",Rows.laid_tablefinder_fraction_one),("unicode/utf8.first",Rows.laid_unicode_utf8_first)] ((laidWorld_typesDates os).forCall (fun _ _=>0) ⟨#[],args,[]⟩).memory :=
 laidMet_of_run' 8 (by kernel_rfl) (by kernel_rfl)
end Go.Proofs.YtdpjcghiegggbaaGreatDoor
namespace Go.Proofs.YtdpjcghiegggbaaGreatDoor.Dst
open Go Go.Proofs Go.Abs
variable {G:Globals}
def strs (l:List (List UInt8)):List D:=l.map fun s=>S s
theorem strs_length {l:List (List UInt8)}:(strs l).length=l.length:=by simp [strs]
abbrev Ss (l:List (List UInt8)) (full:Bool):D:=.sl l.length full (strs l)
end Go.Proofs.YtdpjcghiegggbaaGreatDoor.Dst
namespace Go.Proofs.YtdpjcghiegggbaaGreatDoor.Dst
open Go Go.Proofs Go.Abs
variable {G:Globals}
end Go.Proofs.YtdpjcghiegggbaaGreatDoor.Dst
namespace Go.Proofs.YtdpjcghiegggbaaGreatDoor.Dst
open Go Go.Proofs Go.Abs
variable {G:Globals}
end Go.Proofs.YtdpjcghiegggbaaGreatDoor.Dst
namespace Go.Proofs.YtdpjcghiegggbaaGreatDoor.Dst
open Go Go.Proofs Go.Abs
variable {G:Globals}
end Go.Proofs.YtdpjcghiegggbaaGreatDoor.Dst
namespace Go.Proofs.YtdpjcghiegggbaaGreatDoor.Dst
open Go Go.Proofs Go.Abs
variable {G:Globals}
end Go.Proofs.YtdpjcghiegggbaaGreatDoor.Dst
namespace Go.Proofs.YtdpjcghiegggbaaGreatDoor.Dst
open Go Go.Proofs Go.Abs
variable {G:Globals}
end Go.Proofs.YtdpjcghiegggbaaGreatDoor.Dst
namespace Go.Proofs.YtdpjcghiegggbaaGreatDoor.Dst
open Go Go.Proofs Go.Abs
variable {G:Globals}
abbrev Ru (kind lim num den:Int):D:=.agg [.int .i64 kind,.int .i64 lim,.int .i64 num,.int .i64 den]
end Go.Proofs.YtdpjcghiegggbaaGreatDoor.Dst
namespace Go.Proofs.YtdpjcghiegggbaaGreatDoor.Dst
open Go Go.Proofs Go.Abs
variable {G:Globals}
end Go.Proofs.YtdpjcghiegggbaaGreatDoor.Dst
namespace Go.Proofs.YtdpjcghiegggbaaGreatDoor.Dst
open Go Go.Proofs Go.Abs
variable {G:Globals}
def OkM (t:List Int):Prop:=t.length≤300∧∀ i,0≤t.getD i 0∧t.getD i 0≤255
def pk (t:List Int) (k:Nat) (n:Int):Int:=t.getD k 0 % n
end Go.Proofs.YtdpjcghiegggbaaGreatDoor.Dst
namespace Go.Proofs.YtdpjcghiegggbaaGreatDoor.Dst
open Go Go.Proofs Go.Abs
variable {G:Globals}
end Go.Proofs.YtdpjcghiegggbaaGreatDoor.Dst
namespace Go.Proofs.YtdpjcghiegggbaaGreatDoor.Dst
open Go Go.Proofs Go.Abs
variable {G:Globals}
structure RuV where
 kind:Int
 lim:Int
 num:Int
 den:Int
abbrev RuV.D (r:RuV):D:=Ru r.kind r.lim r.num r.den
end Go.Proofs.YtdpjcghiegggbaaGreatDoor.Dst
namespace Go.Proofs.YtdpjcghiegggbaaGreatDoor.Dst
open Go Go.Proofs Go.Abs
variable {G:Globals}
set_option maxRecDepth 100000 in
theorem mmod_spec (n m:Int) (hn1:-9223372036854775808≤n) (hn2:n≤9223372036854775807) (h0:0<m) (h1:m<4611686018427387904) :
  Ctr Tryz.prog G 9 [.d (.int .i64 n),.d (.int .i64 m)] [] (.d (.int .i64 (n % m))) []:=by
 have e:=Int.tmod_eq_emod (a:=n) (b:=m)
 have p1:=Int.emod_nonneg n (show m≠0 by omega)
 have p2:=Int.emod_lt_of_pos n h0
 have c0:-m<n.tmod m∧n.tmod m<m:=⟨Int.lt_tmod_of_pos n h0,Int.tmod_lt_of_pos n h0⟩
 have hh:(n.tmod m<0→n.tmod m+m=n % m)∧(¬ n.tmod m<0→n.tmod m=n % m):=by
  rw [e]
  split
  ·exact ⟨fun h=>by omega,fun _=>by omega⟩
  ·exact ⟨fun h=>by omega,fun h=>by omega⟩
 clear e
 refine Ctr.pure (M:=M0) hmix Tryz.func9 rfl go9 ?_
 simp (config:={maxSteps:=1000000}) (disch:=((try simp only [awL]);omega)) only [Tryz.f9,↓awU,awV,awF,Qa,Qb,Qc,Qd,forall_const,↓reduceIte,↓reduceDIte,↓Qe,Qf,Qg,Qh,Qi,Qj,Qk,Ql,Qm,Qn,Qo,Qp,Qq,Qr,Qs,implies_true,Qt,Qu,Qv,Qw,Qx,Qy,Qz,QA,QB,QC,QD,QE,QF,QG,QH,QI,QJ,QK,QL,QM,QN,QO,QP,QQ]
end Go.Proofs.YtdpjcghiegggbaaGreatDoor.Dst
namespace Go.Proofs.YtdpjcghiegggbaaGreatDoor
open Go Go.Proofs Go.Abs
variable {G:Globals}
set_option maxRecDepth 100000 in
theorem ex_dec:Num.decOk (Lib.trimB [43,48,48,55,46,53,48] 32)=true∧canD (Lib.trimB [43,48,48,55,46,53,48] 32)=[55,46,53]∧Num.decOk (Lib.trimB [45,48,46,48] 32)=true∧canD (Lib.trimB [45,48,46,48] 32)=[48]:=by decide +kernel
theorem ex_day:okDt 1969 12 31=true∧dayV 1969 12 31=-1:=by decide +kernel
theorem ex_date:IsDt (0+719162) 1970 0 0:=by unfold IsDt;decide +kernel
set_option maxHeartbeats 4000000 in
set_option maxRecDepth 100000 in
theorem tsane_spec (hG:Num.HG G):Ctr Tryz.prog G 8 [] [] (.d (.bool true)) []:=by
 refine Ctr.pure (M:=M0) hmix Tryz.func8 rfl go8 ?_
 obtain ⟨a1,a2,a3,a4⟩:=ex_dec
 have s1:=canon4_spec hG [43,48,48,55,46,53,48] (by decide)
 have s2:=canon4_spec hG [45,48,46,48] (by decide)
 rw [a1,if_pos rfl,a2] at s1
 rw [a3,if_pos rfl,a4] at s2
 have s3:=day_spec (G:=G) 1969 12 31 (by decide) (by decide) (by decide) (by decide) (by decide) (by decide)
 rw [ex_day.1,ex_day.2] at s3
 have s4:=tdate_spec (G:=G) 0 ex_date
 simp (config:={maxSteps:=1000000}) (disch:=((try simp only [awL]);omega)) only [QR,QS,QT,QU,QV,QW,QX,QY,QZ,Q0,Q1,Q2,Tryz.f8,↓awU,awV,awF,Qa,Qb,Qc,Qd,forall_const,↓reduceIte,↓reduceDIte,↓Qe,Qf,Qg,Qh,Qi,Qj,Qk,Ql,Qm,Qn,Qo,Qp,Qq,Qr,Qs,implies_true,Qt,Qu,Qv,Qw,Qx,Qy,Qz,QA,QB,QC,QD,QE,QF,QG,QH,QI,QJ,QK,QL,QM,QN,QO,QP,QQ]
 refine CallC.of s1 (by rfl) ?_
 simp (config:={maxSteps:=1000000}) (disch:=((try simp only [awL]);omega)) only [QR,QS,QT,QU,QV,QW,QX,QY,QZ,Q0,Q1,Q2,↓awU,awV,awF,Qa,Qb,Qc,Qd,forall_const,↓reduceIte,↓reduceDIte,↓Qe,Qf,Qg,Qh,Qi,Qj,Qk,Ql,Qm,Qn,Qo,Qp,Qq,Qr,Qs,implies_true,Qt,Qu,Qv,Qw,Qx,Qy,Qz,QA,QB,QC,QD,QE,QF,QG,QH,QI,QJ,QK,QL,QM,QN,QO,QP,QQ]
 refine CallC.of s2 (by rfl) ?_
 simp (config:={maxSteps:=1000000}) (disch:=((try simp only [awL]);omega)) only [QR,QS,QT,QU,QV,QW,QX,QY,QZ,Q0,Q1,Q2,↓awU,awV,awF,Qa,Qb,Qc,Qd,forall_const,↓reduceIte,↓reduceDIte,↓Qe,Qf,Qg,Qh,Qi,Qj,Qk,Ql,Qm,Qn,Qo,Qp,Qq,Qr,Qs,implies_true,Qt,Qu,Qv,Qw,Qx,Qy,Qz,QA,QB,QC,QD,QE,QF,QG,QH,QI,QJ,QK,QL,QM,QN,QO,QP,QQ]
 refine CallC.of s3 (by rfl) ?_
 simp (config:={maxSteps:=1000000}) (disch:=((try simp only [awL]);omega)) only [QR,QS,QT,QU,QV,QW,QX,QY,QZ,Q0,Q1,Q2,↓awU,awV,awF,Qa,Qb,Qc,Qd,forall_const,↓reduceIte,↓reduceDIte,↓Qe,Qf,Qg,Qh,Qi,Qj,Qk,Ql,Qm,Qn,Qo,Qp,Qq,Qr,Qs,implies_true,Qt,Qu,Qv,Qw,Qx,Qy,Qz,QA,QB,QC,QD,QE,QF,QG,QH,QI,QJ,QK,QL,QM,QN,QO,QP,QQ]
 refine CallC.of s4 (by rfl) ?_
 simp (config:={maxSteps:=1000000}) (disch:=((try simp only [awL]);omega)) only [QR,QS,QT,QU,QV,QW,QX,QY,QZ,Q0,Q1,Q2,↓awU,awV,awF,Qa,Qb,Qc,Qd,forall_const,↓reduceIte,↓reduceDIte,↓Qe,Qf,Qg,Qh,Qi,Qj,Qk,Ql,Qm,Qn,Qo,Qp,Qq,Qr,Qs,implies_true,Qt,Qu,Qv,Qw,Qx,Qy,Qz,QA,QB,QC,QD,QE,QF,QG,QH,QI,QJ,QK,QL,QM,QN,QO,QP,QQ]
 first | done | rfl | decide
end Go.Proofs.YtdpjcghiegggbaaGreatDoor
namespace Go.Proofs.YtdpjcghiegggbaaGreatDoor
open Go Go.Proofs Go.Abs
variable {G:Globals}
theorem bl_app:∀ {x y:List UInt8} (r s:List UInt8),x.length=y.length→Dst.bl (x++r) (y++s)=(Dst.bl x y || (decide (x=y) && Dst.bl r s))
 | [],[],r,s,_=>by simp [Dst.bl_irrefl]
 | [],_::_,_,_,h=>by simp at h
 | _::_,[],_,_,h=>by simp at h
 | a::x,b::y,r,s,h=>by
   have ih:=bl_app (x:=x) (y:=y) r s (by simpa using h)
   show (decide (a<b) || (a == b && Dst.bl (x++r) (y++s)))=((decide (a<b) || (a == b && Dst.bl x y)) || (decide (a::x=b::y) && Dst.bl r s))
   rw [ih]
   by_cases e:a=b
   ·subst e
    by_cases f:x=y
    ·subst f;simp
    ·simp [f]
   ·have e2:(a == b)=false:=by simpa using e
    simp [e,e2]
theorem bl_dig (a b:Nat) (ha:a<10) (hb:b<10):Dst.bl [UInt8.ofNat (48+a)] [UInt8.ofNat (48+b)]=decide (a<b):=by
 have:∀ a b:Fin 10,Dst.bl [UInt8.ofNat (48+a.val)] [UInt8.ofNat (48+b.val)]=decide (a.val<b.val):=by decide +kernel
 exact this ⟨a,ha⟩ ⟨b,hb⟩
theorem padN_inj {w a b:Nat} (ha:a<10 ^ w) (hb:b<10 ^ w) (h:padN w a=padN w b):a=b:=by rw [← dgV_padN w a ha,← dgV_padN w b hb,h]
theorem bl_padN:∀ (w a b:Nat),a<10 ^ w→b<10 ^ w→Dst.bl (padN w a) (padN w b)=decide (a<b)
 | 0,a,b,ha,hb=>by
   have:a=0:=by simpa using ha
   have:b=0:=by simpa using hb
   subst a b;rfl
 | w+1,a,b,ha,hb=>by
   rw [Nat.pow_succ] at ha hb
   rw [padN,padN,bl_app _ _ (by rw [padN_len,padN_len]),bl_padN w _ _ (by omega) (by omega),bl_dig _ _ (by omega) (by omega)]
   by_cases e:a / 10=b / 10
   ·rw [e,decide_eq_true rfl,decide_eq_false (Nat.lt_irrefl _),Bool.false_or,Bool.true_and]
    exact decide_eq_decide.2 (by omega)
   ·rw [decide_eq_false (fun q=>e (padN_inj (by omega) (by omega) q)),Bool.false_and,Bool.or_false]
    exact decide_eq_decide.2 (by omega)
theorem pad_app_inj {w a b:Nat} {r s:List UInt8} (ha:a<10 ^ w) (hb:b<10 ^ w) (h:padN w a++r=padN w b++s):a=b∧r=s:=by
 obtain ⟨h1,h2⟩:=List.append_inj h (by rw [padN_len,padN_len])
 exact ⟨padN_inj ha hb h1,h2⟩
theorem bl_date {y m d y' m' d':Nat} (h1:y<10000) (h2:m<100) (h3:d<100) (h1':y'<10000) (h2':m'<100) (h3':d'<100) :
  Dst.bl (dateS y m d) (dateS y' m' d')=decide (y<y'∨(y=y'∧(m<m'∨(m=m'∧d<d'))))∧(dateS y m d=dateS y' m' d'↔y=y'∧m=m'∧d=d'):=by
 unfold dateS
 rw [Int.toNat_natCast,Int.toNat_natCast,Int.toNat_natCast,Int.toNat_natCast,Int.toNat_natCast,Int.toNat_natCast]
 have t4:(10:Nat) ^ 4=10000:=by decide
 have t2:(10:Nat) ^ 2=100:=by decide
 have cons:∀ (r s:List UInt8),Dst.bl (45::r) (45::s)=Dst.bl r s:=fun r s=>by
  show (decide ((45:UInt8)<45) || ((45:UInt8) == 45 && Dst.bl r s))=_
  simp
 constructor
 ·rw [bl_app _ _ (by rw [padN_len,padN_len]),cons,bl_app _ _ (by rw [padN_len,padN_len]),cons,bl_padN _ _ _ (by omega) (by omega),bl_padN _ _ _ (by omega) (by omega),bl_padN _ _ _ (by omega) (by omega)]
  have e1:decide (padN 4 y=padN 4 y')=decide (y=y'):=decide_eq_decide.2 ⟨padN_inj (by omega) (by omega),fun e=>by rw [e]⟩
  have e2:decide (padN 2 m=padN 2 m')=decide (m=m'):=decide_eq_decide.2 ⟨padN_inj (by omega) (by omega),fun e=>by rw [e]⟩
  rw [e1,e2]
  simp only [← Bool.decide_and,← Bool.decide_or]
 ·constructor
  ·intro h
   obtain ⟨a,h⟩:=pad_app_inj (by omega) (by omega) h
   obtain ⟨b,h⟩:=pad_app_inj (by omega) (by omega) (List.cons.inj h).2
   exact ⟨a,b,padN_inj (by omega) (by omega) (List.cons.inj h).2⟩
  ·rintro ⟨rfl,rfl,rfl⟩;rfl
theorem dt_lt {n n' y y':Int} {m m':Nat} {r r':Int} (h:IsDt n y m r) (h':IsDt n' y' m' r'):n<n'↔(y<y'∨(y=y'∧(m<m'∨(m=m'∧r<r')))):=by
 have a:=h.year
 have a':=h'.year
 rcases Int.lt_trichotomy y y' with q | q | q
 ·have:=bgn_lt h.1 q
  exact ⟨fun _=>.inl q,fun _=>by omega⟩
 ·subst q
  obtain ⟨h1,h2,h3,h4,h5,h6⟩:=h
  obtain ⟨g1,g2,g3,g4,g5,g6⟩:=h'
  rcases Nat.lt_trichotomy m m' with p | p | p
  ·have:=monS_lt (y:=y) p
   rw [monS] at this
   exact ⟨fun _=>.inr ⟨rfl,.inl p⟩,fun _=>by omega⟩
  ·subst p
   exact ⟨fun q=>.inr ⟨rfl,.inr ⟨rfl,by omega⟩⟩,fun q=>by omega⟩
  ·have:=monS_lt (y:=y) p
   rw [monS] at this
   exact ⟨fun q=>by omega,fun q=>by omega⟩
 ·have:=bgn_lt h'.1 q
  exact ⟨fun _=>by omega,fun _=>by omega⟩
theorem dt_eq {n n' y y':Int} {m m':Nat} {r r':Int} (h:IsDt n y m r) (h':IsDt n' y' m' r'):n=n'↔(y=y'∧m=m'∧r=r'):=by
 constructor
 ·intro e;subst e;exact h.uniq h'
 ·rintro ⟨rfl,rfl,rfl⟩
  have:=h.2.2.2.1
  have:=h'.2.2.2.1
  omega
theorem trimB_id {s:List UInt8} (h0:s≠[]) (h1:s.head?≠some 32) (h2:s.getLast?≠some 32):Lib.trimB s 32=s:=by
 have e1:Lib.trimRightB s 32=s:=by
  unfold Lib.trimRightB
  rcases snocX s with rfl | ⟨k,b,rfl⟩
  ·exact absurd rfl h0
  ·have hb:b≠32:=fun q=>h2 (by rw [q];simp)
   rw [List.reverse_append,List.reverse_singleton,List.singleton_append,List.dropWhile_cons,if_neg (by simpa using hb),List.reverse_cons,List.reverse_reverse]
 unfold Lib.trimB
 rw [e1]
 unfold Lib.trimLeftB
 rcases s with _ | ⟨b,l⟩
 ·exact absurd rfl h0
 ·have hb:b≠32:=fun q=>h1 (by rw [q];rfl)
  rw [List.dropWhile_cons,if_neg (by simpa using hb)]
theorem trimB_sp {s:List UInt8} (h0:s≠[]) (h1:s.head?≠some 32) (h2:s.getLast?≠some 32):Lib.trimB (32::s) 32=s:=by
 have e1:Lib.trimRightB (32::s) 32=32::s:=by
  unfold Lib.trimRightB
  rcases snocX s with rfl | ⟨k,b,rfl⟩
  ·exact absurd rfl h0
  ·have hb:b≠32:=fun q=>h2 (by rw [q];simp)
   rw [← List.cons_append,List.reverse_append,List.reverse_singleton,List.singleton_append,List.dropWhile_cons,if_neg (by simpa using hb),List.reverse_cons,List.reverse_reverse]
 unfold Lib.trimB
 rw [e1]
 unfold Lib.trimLeftB
 rw [List.dropWhile_cons,if_pos (by decide)]
 rcases s with _ | ⟨b,l⟩
 ·exact absurd rfl h0
 ·have hb:b≠32:=fun q=>h1 (by rw [q];rfl)
  rw [List.dropWhile_cons,if_neg (by simpa using hb)]
theorem dg_ends {s:List UInt8} (h:∀ b∈s,dgB b=true):s.head?≠some 32∧s.getLast?≠some 32:=by
 constructor
 ·intro e
  have:=h 32 (List.mem_of_head? e)
  revert this;decide
 ·intro e
  have:=h 32 (List.mem_of_getLast? e)
  revert this;decide
theorem ends_app {a b c:List UInt8} (ha:a≠[]) (hc:c≠[]) (h1:a.head?≠some 32) (h2:c.getLast?≠some 32):(a++(b++c))≠[]∧(a++(b++c)).head?≠some 32∧(a++(b++c)).getLast?≠some 32:=by
 refine ⟨by simp [ha],?_,?_⟩
 ·rcases a with _ | ⟨x,a⟩
  ·exact absurd rfl ha
  ·simpa using h1
 ·rcases snocX c with rfl | ⟨k,x,rfl⟩
  ·exact absurd rfl hc
  ·rw [← List.append_assoc,← List.append_assoc]
   simpa using h2
theorem padN_ne {w:Nat} (h:1≤w) (n:Nat):padN w n≠[]:=fun q=>by have:=padN_len w n;rw [q] at this;simp at this;omega
def dotS (y m d:Int):List UInt8:=padN 2 d.toNat++46::(padN 2 m.toNat++46::padN 4 y.toNat)
theorem dateS_ends (y m d:Int):dateS y m d≠[]∧(dateS y m d).head?≠some 32∧(dateS y m d).getLast?≠some 32:=by
 have e:dateS y m d=padN 4 y.toNat++((45::(padN 2 m.toNat++[45]))++padN 2 d.toNat):=by unfold dateS;simp
 rw [e]
 exact ends_app (padN_ne (by decide) _) (padN_ne (by decide) _) (dg_ends (padN_dg _ _)).1 (dg_ends (padN_dg _ _)).2
theorem dotS_ends (y m d:Int):dotS y m d≠[]∧(dotS y m d).head?≠some 32∧(dotS y m d).getLast?≠some 32:=by
 have e:dotS y m d=padN 2 d.toNat++((46::(padN 2 m.toNat++[46]))++padN 4 y.toNat):=by unfold dotS;simp
 rw [e]
 exact ends_app (padN_ne (by decide) _) (padN_ne (by decide) _) (dg_ends (padN_dg _ _)).1 (dg_ends (padN_dg _ _)).2
theorem rdt_dotS {y m d:Int} (h:okDt y m d=true):rdt (dotS y m d)=(y,m,d,true):=by
 obtain ⟨p1,p2,p3,p4,p5,p6⟩:=okDt_pos h
 obtain ⟨y,rfl⟩:∃ n:Nat,y=n:=⟨y.toNat,by omega⟩
 obtain ⟨m,rfl⟩:∃ n:Nat,m=n:=⟨m.toNat,by omega⟩
 obtain ⟨d,rfl⟩:∃ n:Nat,d=n:=⟨d.toNat,by omega⟩
 have t4:(10:Nat) ^ 4=10000:=by decide
 have t2:(10:Nat) ^ 2=100:=by decide
 unfold dotS
 rw [rdt_dot (padN_len _ _) (padN_len _ _) (padN_len _ _) (padN_dg _ _) (padN_dg _ _) (padN_dg _ _),dgV_padN _ _ (by rw [Int.toNat_natCast];omega),dgV_padN _ _ (by rw [Int.toNat_natCast];omega),dgV_padN _ _ (by rw [Int.toNat_natCast];omega)]
 simp only [Int.toNat_natCast]
 unfold mkDt
 rw [h]
theorem canon5_of {s t:List UInt8} {y m d:Int} (e:Lib.trimB s 32=t) (h:rdt t=(y,m,d,true)):okK 5 s=true∧cnK 5 s=dateS y m d:=by
 have o:okD t=true:=by unfold okD;rw [h]
 constructor
 ·show okD (Lib.trimB s 32)=true
  rw [e];exact o
 ·show canDt (Lib.trimB s 32)=_
  unfold canDt
  rw [e,if_pos o,h]
set_option maxHeartbeats 4000000 in
set_option maxRecDepth 100000 in
theorem textL_spec (n w:Nat) (hn:n<1000000000) (hw:w≤9):Ctr Tryz.prog G 11 [.d (.int .i64 n),.d (.int .i64 w)] [] (.d (S (padN w n))) []:=by
 obtain ⟨r,hr⟩:∃ r,r=padN w n:=⟨_,rfl⟩
 rw [← hr]
 have hb0:ByteArray.empty=bs []:=rfl
 refine Ctr.pure (M:=M0) hmix Tryz.func11 rfl go11 ?_
 simp (config:={maxSteps:=1000000}) (disch:=((try simp only [awL]);omega)) only [QR,QS,QT,QU,QV,QW,QX,QY,QZ,Q0,Q1,Q2,Tryz.f11,↓awU,awV,awF,Qa,Qb,Qc,Qd,forall_const,↓reduceIte,↓reduceDIte,↓Qe,Qf,Qg,Qh,Qi,Qj,Qk,Ql,Qm,Qn,Qo,Qp,Qq,Qr,Qs,implies_true,Qt,Qu,Qv,Qw,Qx,Qy,Qz,QA,QB,QC,QD,QE,QF,QG,QH,QI,QJ,QK,QL,QM,QN,QO,QP,QQ]
 refine LoopC.fr 0 (α:=Nat × Nat × List UInt8) (fun x=>x.1) (fun x=>[(0,.d (.int .i64 (x.2.1:Nat))),(1,.d (.int .i64 (x.1:Nat))),(5,.d (S x.2.2))]) (fun _=>[])
  (fun x=>x.1≤9∧x.2.1<1000000000∧x.2.2.length+x.1=w∧padN w n=padN x.1 x.2.1++x.2.2) (w,n,[]) ⟨hw,hn,by simp,by simp⟩ ?_ ?_
 ·first | exact ⟨[],rfl,by simp,by simp [setsA,keepA,SWeak,AWeak],by simp [HWeak,BWeak,SWeak,AWeak]⟩ | exact ⟨[],rfl,by simp,by simp [setsA,keepA,SWeak,AWeak,hb0],by simp [HWeak,BWeak,SWeak,AWeak]⟩
 ·rintro ⟨k,m,x⟩ ⟨h1,h2,h3,h4⟩
  simp only at h1 h2 h3 h4
  simp only [awK,Nat.reduceMod,Nat.reduceDiv,reduceIte]
  rcases k with _ | k
  ·rw [h4] at hr
   have hr:r=x:=hr
   subst hr
   simp (config:={maxSteps:=1000000}) (disch:=((try simp only [awL]);omega)) only [QR,QS,QT,QU,QV,QW,QX,QY,QZ,Q0,Q1,Q2,↓awU,awV,awF,Qa,Qb,Qc,Qd,forall_const,↓reduceIte,↓reduceDIte,↓Qe,Qf,Qg,Qh,Qi,Qj,Qk,Ql,Qm,Qn,Qo,Qp,Qq,Qr,Qs,implies_true,Qt,Qu,Qv,Qw,Qx,Qy,Qz,QA,QB,QC,QD,QE,QF,QG,QH,QI,QJ,QK,QL,QM,QN,QO,QP,QQ]
   first | done | rfl
  ·have t1:(m:Int).tmod 10=((m % 10:Nat):Int):=(Int.ofNat_tmod m 10).symm
   have t2:(m:Int).tdiv 10=((m / 10:Nat):Int):=(Int.ofNat_tdiv m 10).symm
   have t3:(((k+1:Nat):Int) - 1)=(k:Int):=by omega
   have st:padN w n=padN k (m / 10)++([UInt8.ofNat (48+m % 10)]++x):=by rw [h4,padN,List.append_assoc]
   have by1:(48:Int)+((m % 10:Nat):Int)=((UInt8.ofNat (48+m % 10)).toNat:Int):=by rw [dgB_of (by omega)];omega
   have sn:strOfNums [(48:Int)+((m % 10:Nat):Int)]=bs [UInt8.ofNat (48+m % 10)]:=by rw [by1];exact strOfNums_nums (l:=[UInt8.ofNat (48+m % 10)])
   simp (config:={maxSteps:=1000000}) (disch:=((try simp only [awL]);omega)) only [QR,QS,QT,QU,QV,QW,QX,QY,QZ,Q0,Q1,Q2,t1,t2,t3,sn,↓awU,awV,awF,Qa,Qb,Qc,Qd,forall_const,↓reduceIte,↓reduceDIte,↓Qe,Qf,Qg,Qh,Qi,Qj,Qk,Ql,Qm,Qn,Qo,Qp,Qq,Qr,Qs,implies_true,Qt,Qu,Qv,Qw,Qx,Qy,Qz,QA,QB,QC,QD,QE,QF,QG,QH,QI,QJ,QK,QL,QM,QN,QO,QP,QQ]
   first
   | exact ⟨(k,m / 10,[UInt8.ofNat (48+m % 10)]++x),⟨by omega,by simp only;omega,by simp;omega,st⟩,by simp only;omega,⟨[],rfl,by simp,by simp [setsA,keepA,SWeak,AWeak],by simp [HWeak,BWeak,SWeak,AWeak]⟩⟩
set_option maxHeartbeats 16000000 in
set_option maxRecDepth 100000 in
theorem dates_law (hG:Num.HG G) (hE:HE G) (hP:HP G) (l:List Int) (_ht:OkS l) (_hl:l.length≤9223372036854775807) (a:Int) (a1:-9223372036854775808≤a) (a2:a≤9223372036854775807) (b:Int) (b1:-9223372036854775808≤b) (b2:b≤9223372036854775807) :
  Ctr Tryz.prog G 3 [.d (.sl l.length false (ints .u8 l)),.d (.int .i64 a),.d (.int .i64 b)] [] (.d (.bool true)) []:=by
 refine Ctr.pure (M:=M0) hmix Tryz.func3 rfl go3 ?_
 have ma:=Int.emod_nonneg a (show (3652059:Int)≠0 by decide)
 have mb:=Int.emod_lt_of_pos a (show (0:Int)<3652059 by decide)
 have na:=Int.emod_nonneg b (show (3652059:Int)≠0 by decide)
 have nb:=Int.emod_lt_of_pos b (show (0:Int)<3652059 by decide)
 have s1:=Dst.mmod_spec (G:=G) a 3652059 a1 a2 (by decide) (by decide)
 have s2:=Dst.mmod_spec (G:=G) b 3652059 b1 b2 (by decide) (by decide)
 generalize a % 3652059=M at *
 generalize b % 3652059=N at *
 obtain ⟨y,m,r,hy⟩:=ex_dt ma mb
 obtain ⟨u,v,w,hu⟩:=ex_dt na nb
 have t1:=tdate_spec (G:=G) (M - 719162) (y:=y) (m:=m) (r:=r) (by rw [Int.sub_add_cancel];exact hy)
 have t2:=tdate_spec (G:=G) (N - 719162) (y:=u) (m:=v) (r:=w) (by rw [Int.sub_add_cancel];exact hu)
 have lt:=dt_lt hy hu
 have eq:=dt_eq hy hu
 have ok1:=(is_okDt hy).1
 have ok2:=(is_okDt hu).1
 obtain ⟨p1,p2,p3,p4,p5,p6⟩:=okDt_pos ok1
 obtain ⟨q1,q2,q3,q4,q5,q6⟩:=okDt_pos ok2
 obtain ⟨y,rfl⟩:∃ n:Nat,y=n:=⟨y.toNat,by omega⟩
 obtain ⟨d,hd⟩:∃ n:Nat,r+1=n:=⟨(r+1).toNat,by omega⟩
 obtain ⟨u,rfl⟩:∃ n:Nat,u=n:=⟨u.toNat,by omega⟩
 obtain ⟨x,hx⟩:∃ n:Nat,w+1=n:=⟨(w+1).toNat,by omega⟩
 rw [hd] at t1 ok1 p5 p6
 rw [hx] at t2 ok2 q5 q6
 obtain ⟨bl1,bl2⟩:=bl_date (y:=y) (m:=m+1) (d:=d) (y':=u) (m':=v+1) (d':=x) (by omega) (by omega) (by omega) (by omega) (by omega) (by omega)
 have lt2:decide (M - 719162<N - 719162)=Dst.bl (dateS (y:Nat) ((m+1:Nat):Int) (d:Nat)) (dateS (u:Nat) ((v+1:Nat):Int) (x:Nat)):=by
  rw [bl1];exact decide_eq_decide.2 (by omega)
 have eq2:(M - 719162=N - 719162)↔(dateS (y:Nat) ((m+1:Nat):Int) (d:Nat)=dateS (u:Nat) ((v+1:Nat):Int) (x:Nat)):=by
  rw [bl2];omega
 obtain ⟨e1,e2,e3⟩:=dotS_ends (y:Nat) ((m+1:Nat):Int) (d:Nat)
 obtain ⟨c1,c2⟩:=canon5_of (trimB_id e1 e2 e3) (rdt_dotS ok1)
 obtain ⟨f1,f2,f3⟩:=dateS_ends (u:Nat) ((v+1:Nat):Int) (x:Nat)
 obtain ⟨c3,c4⟩:=canon5_of (trimB_sp f1 f2 f3) (rdt_dateS ok2)
 have dl1:(dotS (y:Nat) ((m+1:Nat):Int) (d:Nat)).length=10:=by unfold dotS;rw [List.length_append,List.length_cons,List.length_append,List.length_cons,padN_len,padN_len,padN_len]
 have dl2:(dateS (u:Nat) ((v+1:Nat):Int) (x:Nat)).length=10:=dateS_len _ _ _
 have k1:=canon_spec hG hE hP 5 (by decide) (by decide) (dotS (y:Nat) ((m+1:Nat):Int) (d:Nat)) (by omega)
 have k2:=canon_spec hG hE hP 5 (by decide) (by decide) (32::dateS (u:Nat) ((v+1:Nat):Int) (x:Nat)) (by rw [List.length_cons];omega)
 rw [c1,c2] at k1
 rw [c3,c4] at k2
 have g1:=textL_spec (G:=G) y 4 (by omega) (by decide)
 have g2:=textL_spec (G:=G) (m+1) 2 (by omega) (by decide)
 have g3:=textL_spec (G:=G) d 2 (by omega) (by decide)
 have g4:=textL_spec (G:=G) u 4 (by omega) (by decide)
 have g5:=textL_spec (G:=G) (v+1) 2 (by omega) (by decide)
 have g6:=textL_spec (G:=G) x 2 (by omega) (by decide)
 have hX:dateS (y:Nat) ((m+1:Nat):Int) (d:Nat)=padN 4 y++45::(padN 2 (m+1)++45::padN 2 d):=rfl
 have hZ:dateS (u:Nat) ((v+1:Nat):Int) (x:Nat)=padN 4 u++45::(padN 2 (v+1)++45::padN 2 x):=rfl
 have hD:dotS (y:Nat) ((m+1:Nat):Int) (d:Nat)=padN 2 d++46::(padN 2 (m+1)++46::padN 4 y):=rfl
 generalize dateS (y:Nat) ((m+1:Nat):Int) (d:Nat)=X at *
 generalize dateS (u:Nat) ((v+1:Nat):Int) (x:Nat)=Z at *
 generalize dotS (y:Nat) ((m+1:Nat):Int) (d:Nat)=Dd at *
 have b1':=padN_len 4 y
 have b2':=padN_len 2 (m+1)
 have b3':=padN_len 2 d
 have b4':=padN_len 4 u
 have b5':=padN_len 2 (v+1)
 have b6':=padN_len 2 x
 have ts:=tsane_spec (G:=G) hG
 generalize padN 4 y=Y1 at *
 generalize padN 2 (m+1)=Y2 at *
 generalize padN 2 d=Y3 at *
 generalize padN 4 u=Z1 at *
 generalize padN 2 (v+1)=Z2 at *
 generalize padN 2 x=Z3 at *
 clear hy hu lt eq bl1 bl2 ok1 ok2
 have cX:Y1++[45]++Y2++[45]++Y3=X:=by rw [hX];simp
 have cZ:Z1++[45]++Z2++[45]++Z3=Z:=by rw [hZ];simp
 have cD:Y3++[46]++Y2++[46]++Y1=Dd:=by rw [hD];simp
 simp (config:={maxSteps:=1000000}) (disch:=((try simp only [awL]);omega)) only [QR,QS,QT,QU,QV,QW,QX,QY,QZ,Q0,Q1,Q2,Tryz.f3,↓awU,awV,awF,Qa,Qb,Qc,Qd,forall_const,↓reduceIte,↓reduceDIte,↓Qe,Qf,Qg,Qh,Qi,Qj,Qk,Ql,Qm,Qn,Qo,Qp,Qq,Qr,Qs,implies_true,Qt,Qu,Qv,Qw,Qx,Qy,Qz,QA,QB,QC,QD,QE,QF,QG,QH,QI,QJ,QK,QL,QM,QN,QO,QP,QQ]
 refine CallC.pure ts ?_
 simp (config:={maxSteps:=1000000}) (disch:=((try simp only [awL]);omega)) only [QR,QS,QT,QU,QV,QW,QX,QY,QZ,Q0,Q1,Q2,↓awU,awV,awF,Qa,Qb,Qc,Qd,forall_const,↓reduceIte,↓reduceDIte,↓Qe,Qf,Qg,Qh,Qi,Qj,Qk,Ql,Qm,Qn,Qo,Qp,Qq,Qr,Qs,implies_true,Qt,Qu,Qv,Qw,Qx,Qy,Qz,QA,QB,QC,QD,QE,QF,QG,QH,QI,QJ,QK,QL,QM,QN,QO,QP,QQ]
 refine CallC.of s1 (by rfl) ?_
 simp (config:={maxSteps:=1000000}) (disch:=((try simp only [awL]);omega)) only [QR,QS,QT,QU,QV,QW,QX,QY,QZ,Q0,Q1,Q2,↓awU,awV,awF,Qa,Qb,Qc,Qd,forall_const,↓reduceIte,↓reduceDIte,↓Qe,Qf,Qg,Qh,Qi,Qj,Qk,Ql,Qm,Qn,Qo,Qp,Qq,Qr,Qs,implies_true,Qt,Qu,Qv,Qw,Qx,Qy,Qz,QA,QB,QC,QD,QE,QF,QG,QH,QI,QJ,QK,QL,QM,QN,QO,QP,QQ]
 refine CallC.of s2 (by rfl) ?_
 simp (config:={maxSteps:=1000000}) (disch:=((try simp only [awL]);omega)) only [QR,QS,QT,QU,QV,QW,QX,QY,QZ,Q0,Q1,Q2,↓awU,awV,awF,Qa,Qb,Qc,Qd,forall_const,↓reduceIte,↓reduceDIte,↓Qe,Qf,Qg,Qh,Qi,Qj,Qk,Ql,Qm,Qn,Qo,Qp,Qq,Qr,Qs,implies_true,Qt,Qu,Qv,Qw,Qx,Qy,Qz,QA,QB,QC,QD,QE,QF,QG,QH,QI,QJ,QK,QL,QM,QN,QO,QP,QQ]
 refine CallC.of t1 (by rfl) ?_
 simp (config:={maxSteps:=1000000}) (disch:=((try simp only [awL]);omega)) only [QR,QS,QT,QU,QV,QW,QX,QY,QZ,Q0,Q1,Q2,↓awU,awV,awF,Qa,Qb,Qc,Qd,forall_const,↓reduceIte,↓reduceDIte,↓Qe,Qf,Qg,Qh,Qi,Qj,Qk,Ql,Qm,Qn,Qo,Qp,Qq,Qr,Qs,implies_true,Qt,Qu,Qv,Qw,Qx,Qy,Qz,QA,QB,QC,QD,QE,QF,QG,QH,QI,QJ,QK,QL,QM,QN,QO,QP,QQ]
 refine CallC.of t2 (by rfl) ?_
 simp (config:={maxSteps:=1000000}) (disch:=((try simp only [awL]);omega)) only [QR,QS,QT,QU,QV,QW,QX,QY,QZ,Q0,Q1,Q2,↓awU,awV,awF,Qa,Qb,Qc,Qd,forall_const,↓reduceIte,↓reduceDIte,↓Qe,Qf,Qg,Qh,Qi,Qj,Qk,Ql,Qm,Qn,Qo,Qp,Qq,Qr,Qs,implies_true,Qt,Qu,Qv,Qw,Qx,Qy,Qz,QA,QB,QC,QD,QE,QF,QG,QH,QI,QJ,QK,QL,QM,QN,QO,QP,QQ]
 refine CallC.of g1 (by rfl) ?_
 simp (config:={maxSteps:=1000000}) (disch:=((try simp only [awL]);omega)) only [QR,QS,QT,QU,QV,QW,QX,QY,QZ,Q0,Q1,Q2,↓awU,awV,awF,Qa,Qb,Qc,Qd,forall_const,↓reduceIte,↓reduceDIte,↓Qe,Qf,Qg,Qh,Qi,Qj,Qk,Ql,Qm,Qn,Qo,Qp,Qq,Qr,Qs,implies_true,Qt,Qu,Qv,Qw,Qx,Qy,Qz,QA,QB,QC,QD,QE,QF,QG,QH,QI,QJ,QK,QL,QM,QN,QO,QP,QQ]
 refine CallC.of g2 (by rfl) ?_
 simp (config:={maxSteps:=1000000}) (disch:=((try simp only [awL]);omega)) only [QR,QS,QT,QU,QV,QW,QX,QY,QZ,Q0,Q1,Q2,↓awU,awV,awF,Qa,Qb,Qc,Qd,forall_const,↓reduceIte,↓reduceDIte,↓Qe,Qf,Qg,Qh,Qi,Qj,Qk,Ql,Qm,Qn,Qo,Qp,Qq,Qr,Qs,implies_true,Qt,Qu,Qv,Qw,Qx,Qy,Qz,QA,QB,QC,QD,QE,QF,QG,QH,QI,QJ,QK,QL,QM,QN,QO,QP,QQ]
 refine CallC.of g3 (by rfl) ?_
 simp (config:={maxSteps:=1000000}) (disch:=((try simp only [awL]);omega)) only [QR,QS,QT,QU,QV,QW,QX,QY,QZ,Q0,Q1,Q2,↓awU,awV,awF,Qa,Qb,Qc,Qd,forall_const,↓reduceIte,↓reduceDIte,↓Qe,Qf,Qg,Qh,Qi,Qj,Qk,Ql,Qm,Qn,Qo,Qp,Qq,Qr,Qs,implies_true,Qt,Qu,Qv,Qw,Qx,Qy,Qz,QA,QB,QC,QD,QE,QF,QG,QH,QI,QJ,QK,QL,QM,QN,QO,QP,QQ]
 refine CallC.of g4 (by rfl) ?_
 simp (config:={maxSteps:=1000000}) (disch:=((try simp only [awL]);omega)) only [QR,QS,QT,QU,QV,QW,QX,QY,QZ,Q0,Q1,Q2,↓awU,awV,awF,Qa,Qb,Qc,Qd,forall_const,↓reduceIte,↓reduceDIte,↓Qe,Qf,Qg,Qh,Qi,Qj,Qk,Ql,Qm,Qn,Qo,Qp,Qq,Qr,Qs,implies_true,Qt,Qu,Qv,Qw,Qx,Qy,Qz,QA,QB,QC,QD,QE,QF,QG,QH,QI,QJ,QK,QL,QM,QN,QO,QP,QQ]
 refine CallC.of g5 (by rfl) ?_
 simp (config:={maxSteps:=1000000}) (disch:=((try simp only [awL]);omega)) only [QR,QS,QT,QU,QV,QW,QX,QY,QZ,Q0,Q1,Q2,↓awU,awV,awF,Qa,Qb,Qc,Qd,forall_const,↓reduceIte,↓reduceDIte,↓Qe,Qf,Qg,Qh,Qi,Qj,Qk,Ql,Qm,Qn,Qo,Qp,Qq,Qr,Qs,implies_true,Qt,Qu,Qv,Qw,Qx,Qy,Qz,QA,QB,QC,QD,QE,QF,QG,QH,QI,QJ,QK,QL,QM,QN,QO,QP,QQ]
 refine CallC.of g6 (by rfl) ?_
 simp (config:={maxSteps:=1000000}) (disch:=((try simp only [awL]);omega)) only [QR,QS,QT,QU,QV,QW,QX,QY,QZ,Q0,Q1,Q2,↓awU,awV,awF,Qa,Qb,Qc,Qd,forall_const,↓reduceIte,↓reduceDIte,↓Qe,Qf,Qg,Qh,Qi,Qj,Qk,Ql,Qm,Qn,Qo,Qp,Qq,Qr,Qs,implies_true,Qt,Qu,Qv,Qw,Qx,Qy,Qz,QA,QB,QC,QD,QE,QF,QG,QH,QI,QJ,QK,QL,QM,QN,QO,QP,QQ]
 refine CallC.of g3 (by rfl) ?_
 simp (config:={maxSteps:=1000000}) (disch:=((try simp only [awL]);omega)) only [QR,QS,QT,QU,QV,QW,QX,QY,QZ,Q0,Q1,Q2,↓awU,awV,awF,Qa,Qb,Qc,Qd,forall_const,↓reduceIte,↓reduceDIte,↓Qe,Qf,Qg,Qh,Qi,Qj,Qk,Ql,Qm,Qn,Qo,Qp,Qq,Qr,Qs,implies_true,Qt,Qu,Qv,Qw,Qx,Qy,Qz,QA,QB,QC,QD,QE,QF,QG,QH,QI,QJ,QK,QL,QM,QN,QO,QP,QQ]
 refine CallC.of g2 (by rfl) ?_
 simp (config:={maxSteps:=1000000}) (disch:=((try simp only [awL]);omega)) only [QR,QS,QT,QU,QV,QW,QX,QY,QZ,Q0,Q1,Q2,↓awU,awV,awF,Qa,Qb,Qc,Qd,forall_const,↓reduceIte,↓reduceDIte,↓Qe,Qf,Qg,Qh,Qi,Qj,Qk,Ql,Qm,Qn,Qo,Qp,Qq,Qr,Qs,implies_true,Qt,Qu,Qv,Qw,Qx,Qy,Qz,QA,QB,QC,QD,QE,QF,QG,QH,QI,QJ,QK,QL,QM,QN,QO,QP,QQ]
 refine CallC.of g1 (by rfl) ?_
 simp (config:={maxSteps:=1000000}) (disch:=((try simp only [awL]);omega)) only [QR,QS,QT,QU,QV,QW,QX,QY,QZ,Q0,Q1,Q2,↓awU,awV,awF,Qa,Qb,Qc,Qd,forall_const,↓reduceIte,↓reduceDIte,↓Qe,Qf,Qg,Qh,Qi,Qj,Qk,Ql,Qm,Qn,Qo,Qp,Qq,Qr,Qs,implies_true,Qt,Qu,Qv,Qw,Qx,Qy,Qz,QA,QB,QC,QD,QE,QF,QG,QH,QI,QJ,QK,QL,QM,QN,QO,QP,QQ]
 refine CallC.of k1 (by first | rfl | (rw [← cD])) ?_
 simp (config:={maxSteps:=1000000}) (disch:=((try simp only [awL]);omega)) only [QR,QS,QT,QU,QV,QW,QX,QY,QZ,Q0,Q1,Q2,↓awU,awV,awF,Qa,Qb,Qc,Qd,forall_const,↓reduceIte,↓reduceDIte,↓Qe,Qf,Qg,Qh,Qi,Qj,Qk,Ql,Qm,Qn,Qo,Qp,Qq,Qr,Qs,implies_true,Qt,Qu,Qv,Qw,Qx,Qy,Qz,QA,QB,QC,QD,QE,QF,QG,QH,QI,QJ,QK,QL,QM,QN,QO,QP,QQ]
 refine CallC.of k2 (by first | rfl | (rw [← cZ])) ?_
 have lt3:(decide (M - 719162<N - 719162)=Op.bytesLess X Z)=True:=eq_true lt2
 have eq3:(decide (M - 719162=N - 719162)=decide (X=Z))=True:=eq_true (decide_eq_decide.2 eq2)
 simp (config:={maxSteps:=1000000}) (disch:=((try simp only [awL]);omega)) only [QR,QS,QT,QU,QV,QW,QX,QY,QZ,Q0,Q1,Q2,cX,cZ,lt3,eq3,↓awU,awV,awF,Qa,Qb,Qc,Qd,forall_const,↓reduceIte,↓reduceDIte,↓Qe,Qf,Qg,Qh,Qi,Qj,Qk,Ql,Qm,Qn,Qo,Qp,Qq,Qr,Qs,implies_true,Qt,Qu,Qv,Qw,Qx,Qy,Qz,QA,QB,QC,QD,QE,QF,QG,QH,QI,QJ,QK,QL,QM,QN,QO,QP,QQ]
 first | done | rfl
end Go.Proofs.YtdpjcghiegggbaaGreatDoor
