/-
  A world that lays the variables of typesMore.
-/
import Derived.Test.YtdpjcghiegggbaaGreatDoorMb3
set_option linter.all false
open Go.Abs renaming ofVal→Qa,ofVal0→Qb,isShift→Qc,aggK→Qd,purePost→Qe,combine→Qf,idsA→Qg,cellsA→Qh,numsOf→Qi,srcA→Qj,calleeA→Qk,refsA→Ql,isScalar→Qm,scalarD→Qn,scalar0→Qo,putL→Qr,unfA→Qs,sidsB→QJ,keyKD→QL,isIntK→QM,aggD→QN,aggL→QO,eqKs→QP,boxRow→QQ,nextC_more→QT,nextC_over→QU,bs_size→QV,bs_extract→QW,bs_toList→QX,bs_append→QY,byteAt_bs→QZ,bs_cells→Q0,nums_length→Q1,nums_getD→Q2
open Go.Abs.AV renaming one→Qp
open Go.Abs.D renaming one→Qq
open Go.IntKind renaming signed→Qt
open Nat renaming reduceAdd→Qu,reduceSub→Qv,reduceMul→Qw,reducePow→Qx,reduceDiv→Qy,reduceMod→Qz,reduceEqDiff→QI,reduceBEq→QK
open Int renaming reduceAdd→QA,reduceSub→QB,reduceMul→QC,reducePow→QD,reduceNeg→QE,reduceToNat→QF,reduceLT→QG,reduceLE→QH
open Option renaming toList_some→QR,toList_none→QS
namespace Go.Proofs.YtdpjcghiegggbaaGreatDoor
open Go Go.Proofs Go.Abs Go.RowKit Go.ChangeShapes Go.WideShapes Go.ChangeAt
noncomputable def laidWorld_typesMore (os:Os):World :=
 {World.holding Tryz.prog os ⟨#[.cells #[.string ⟨#[118,97,108,117,101,32,111,117,116,32,111,102,32,114,97,110,103,101]⟩] 224,.cells #[.string ⟨#[105,110,118,97,108,105,100,32,115,121,110,116,97,120]⟩] 224,.cells #[.int .u32 1] 106],#[],[]⟩ with heap:=((((((((((World.holding Tryz.prog os ⟨#[.cells #[.string ⟨#[118,97,108,117,101,32,111,117,116,32,111,102,32,114,97,110,103,101]⟩] 224,.cells #[.string ⟨#[105,110,118,97,108,105,100,32,115,121,110,116,97,120]⟩] 224,.cells #[.int .u32 1] 106],#[],[]⟩).heap.modify 9 fun
   | .cells _ t frozen=>.cells #[.int .u8 0,.int .u8 1,.int .u8 28,.int .u8 2,.int .u8 29,.int .u8 14,.int .u8 24,.int .u8 3,.int .u8 30,.int .u8 22,.int .u8 20,.int .u8 15,.int .u8 25,.int .u8 17,.int .u8 4,.int .u8 8,.int .u8 31,.int .u8 27,.int .u8 13,.int .u8 23,.int .u8 21,.int .u8 19,.int .u8 16,.int .u8 7,.int .u8 26,.int .u8 12,.int .u8 18,.int .u8 6,.int .u8 11,.int .u8 5,.int .u8 10,.int .u8 9] t frozen
   | o=>o).modify 10 fun
   | .cells _ t frozen=>.cells #[.int .u8 0,.int .u8 1,.int .u8 56,.int .u8 2,.int .u8 57,.int .u8 49,.int .u8 28,.int .u8 3,.int .u8 61,.int .u8 58,.int .u8 42,.int .u8 50,.int .u8 38,.int .u8 29,.int .u8 17,.int .u8 4,.int .u8 62,.int .u8 47,.int .u8 59,.int .u8 36,.int .u8 45,.int .u8 43,.int .u8 51,.int .u8 22,.int .u8 53,.int .u8 39,.int .u8 33,.int .u8 30,.int .u8 24,.int .u8 18,.int .u8 12,.int .u8 5,.int .u8 63,.int .u8 55,.int .u8 48,.int .u8 27,.int .u8 60,.int .u8 41,.int .u8 37,.int .u8 16,.int .u8 46,.int .u8 35,.int .u8 44,.int .u8 21,.int .u8 52,.int .u8 32,.int .u8 23,.int .u8 11,.int .u8 54,.int .u8 26,.int .u8 40,.int .u8 15,.int .u8 34,.int .u8 20,.int .u8 31,.int .u8 10,.int .u8 25,.int .u8 14,.int .u8 19,.int .u8 9,.int .u8 13,.int .u8 8,.int .u8 7,.int .u8 6] t frozen
   | o=>o).modify 2 fun
   | .cells _ t frozen=>.cells #[.int .u64 1,.int .u64 10,.int .u64 100,.int .u64 1000,.int .u64 10000,.int .u64 100000,.int .u64 1000000,.int .u64 10000000,.int .u64 100000000,.int .u64 1000000000,.int .u64 10000000000,.int .u64 100000000000,.int .u64 1000000000000,.int .u64 10000000000000,.int .u64 100000000000000,.int .u64 1000000000000000,.int .u64 10000000000000000,.int .u64 100000000000000000,.int .u64 1000000000000000000,.int .u64 10000000000000000000] t frozen
   | o=>o).modify 7 fun
   | .cells _ t frozen=>.cells #[.int .u8 128,.int .u8 191,.int .u8 160,.int .u8 191,.int .u8 128,.int .u8 159,.int .u8 144,.int .u8 191,.int .u8 128,.int .u8 143,.int .u8 0,.int .u8 0,.int .u8 0,.int .u8 0,.int .u8 0,.int .u8 0,.int .u8 0,.int .u8 0,.int .u8 0,.int .u8 0,.int .u8 0,.int .u8 0,.int .u8 0,.int .u8 0,.int .u8 0,.int .u8 0,.int .u8 0,.int .u8 0,.int .u8 0,.int .u8 0,.int .u8 0,.int .u8 0] t frozen
   | o=>o).modify 5 fun
   | .cells _ t frozen=>.cells #[.iface 222 (.pointer (some ⟨(World.settled Tryz.prog os).heap.size,0,none⟩))] t frozen
   | o=>o).modify 4 fun
   | .cells _ t frozen=>.cells #[.iface 222 (.pointer (some ⟨(World.settled Tryz.prog os).heap.size+1,0,none⟩))] t frozen
   | o=>o).modify 1 fun
   | .cells _ t frozen=>.cells #[.slice (some ⟨(World.settled Tryz.prog os).heap.size+2,0,none⟩) 1 1] t frozen
   | o=>o).modify 0 fun
   | .cells _ t frozen=>.cells #[.int .i64 2,.int .i64 3,.int .i64 4,.int .i64 5,.int .i64 1] t frozen
   | o=>o).modify 6 fun
   | .cells _ t frozen=>.cells (Go.Pinned.utf8FirstZ.map fun (n:Nat)=>Value.int .u8 (n:Int)).toArray t frozen
   | o=>o)}
set_option maxRecDepth 100000 in
theorem laid_met_typesMore (os:Os) (args:Array Value):laidMet Tryz.prog [("math/bits.deBruijn32tab",Rows.laid_math_bits_deBruijn32tab),("math/bits.deBruijn64tab",Rows.laid_math_bits_deBruijn64tab),("internal/strconv.uint64pow10",Rows.laid_internal_strconv_uint64pow10),("unicode/utf8.acceptRanges",Rows.laid_unicode_utf8_acceptRanges),("strconv.ErrRange",Rows.laid_strconv_ErrRange),("strconv.ErrSyntax",Rows.laid_strconv_ErrSyntax),("tablefinder/fraction.one",Rows.laid_tablefinder_fraction_one),("tablefinder/types.order",Rows.laid_tablefinder_types_order),("unicode/utf8.first",Rows.laid_unicode_utf8_first)] ((laidWorld_typesMore os).forCall (fun _ _=>0) ⟨#[],args,[]⟩).memory :=
 laidMet_of_run' 8 (by kernel_rfl) (by kernel_rfl)
end Go.Proofs.YtdpjcghiegggbaaGreatDoor
namespace Go.Proofs.YtdpjcghiegggbaaGreatDoor
open Go Go.Proofs Go.Abs
variable {G:Globals}
end Go.Proofs.YtdpjcghiegggbaaGreatDoor
namespace Go.Proofs.YtdpjcghiegggbaaGreatDoor
open Go Go.Proofs Go.Abs
variable {G:Globals}
theorem celsD_pushU (a:List Cel) (x:Cel):celsD a++[.bool x.2,S x.1]=celsD (a++[x]):=by simp [celsD]
end Go.Proofs.YtdpjcghiegggbaaGreatDoor
namespace Go.Proofs.YtdpjcghiegggbaaGreatDoor
open Go Go.Proofs Go.Abs
variable {G:Globals}
end Go.Proofs.YtdpjcghiegggbaaGreatDoor
namespace Go.Proofs.YtdpjcghiegggbaaGreatDoor
open Go Go.Proofs Go.Abs
variable {G:Globals}
theorem cutA (L:List D) (n:Nat) (h:L.length≤n):cut L 0 n=L:=by unfold cut;rw [List.drop_zero,List.take_of_length_le h]
end Go.Proofs.YtdpjcghiegggbaaGreatDoor
namespace Go.Proofs.YtdpjcghiegggbaaGreatDoor
open Go Go.Proofs Go.Abs
variable {G:Globals}
end Go.Proofs.YtdpjcghiegggbaaGreatDoor
namespace Go.Proofs.YtdpjcghiegggbaaGreatDoor.Num
open Go Go.Proofs Go.Abs
variable {G:Globals}
structure RB where
 neg:Bool
 l:List Nat
def RB.ok (x:RB):Bool:=decide (x.l.length≤256∧(x.l=[]∧x.neg=false∨x.l≠[]∧x.l.getD (x.l.length - 1) 0≠0))
def RB.int (x:RB):Int:=if x.neg then -(val x.l:Int) else val x.l
structure RB.Dg (x:RB):Prop where
 dig:Dig x.l
 len:x.l.length≤1000
theorem RB.of (n:Int) (h:sz n≤1000):RB.Dg ⟨decide (n<0),toW n.natAbs⟩:=⟨dig_toW _,h⟩
end Go.Proofs.YtdpjcghiegggbaaGreatDoor.Num
namespace Go.Proofs.YtdpjcghiegggbaaGreatDoor.Num
open Go Go.Proofs Go.Abs
variable {G:Globals}
end Go.Proofs.YtdpjcghiegggbaaGreatDoor.Num
namespace Go.Proofs.YtdpjcghiegggbaaGreatDoor.Num
open Go Go.Proofs Go.Abs
variable {G:Globals}
end Go.Proofs.YtdpjcghiegggbaaGreatDoor.Num
namespace Go.Proofs.YtdpjcghiegggbaaGreatDoor.Num
open Go Go.Proofs Go.Abs
variable {G:Globals}
end Go.Proofs.YtdpjcghiegggbaaGreatDoor.Num
namespace Go.Proofs.YtdpjcghiegggbaaGreatDoor.Num
open Go Go.Proofs Go.Abs
variable {G:Globals}
end Go.Proofs.YtdpjcghiegggbaaGreatDoor.Num
namespace Go.Proofs.YtdpjcghiegggbaaGreatDoor.Num
open Go Go.Proofs Go.Abs
variable {G:Globals}
structure RF where
 n:RB
 d:RB
def okI (p q:Int):Bool:=decide (0<q∧Nat.gcd p.natAbs q.natAbs=1)
end Go.Proofs.YtdpjcghiegggbaaGreatDoor.Num
namespace Go.Proofs.YtdpjcghiegggbaaGreatDoor.Num
open Go Go.Proofs Go.Abs
variable {G:Globals}
end Go.Proofs.YtdpjcghiegggbaaGreatDoor.Num
namespace Go.Proofs.YtdpjcghiegggbaaGreatDoor.Num
open Go Go.Proofs Go.Abs
variable {G:Globals}
structure RF.Dg (x:RF):Prop where
 n:x.n.Dg
 d:x.d.Dg
def RF.ok (x:RF):Bool:=(x.n.ok && x.d.ok) && okI x.n.int x.d.int
end Go.Proofs.YtdpjcghiegggbaaGreatDoor.Num
namespace Go.Proofs.YtdpjcghiegggbaaGreatDoor.Num
open Go Go.Proofs Go.Abs
variable {G:Globals}
end Go.Proofs.YtdpjcghiegggbaaGreatDoor.Num
namespace Go.Proofs.YtdpjcghiegggbaaGreatDoor
open Go Go.Proofs Go.Abs
variable {G:Globals}
end Go.Proofs.YtdpjcghiegggbaaGreatDoor
namespace Go.Proofs.YtdpjcghiegggbaaGreatDoor
open Go Go.Proofs Go.Abs
variable {G:Globals}
end Go.Proofs.YtdpjcghiegggbaaGreatDoor
namespace Go.Proofs.YtdpjcghiegggbaaGreatDoor
open Go Go.Proofs Go.Abs
variable {G:Globals}
end Go.Proofs.YtdpjcghiegggbaaGreatDoor
namespace Go.Proofs.YtdpjcghiegggbaaGreatDoor
open Go Go.Proofs Go.Abs
variable {G:Globals}
theorem posB_le (bf:Opt→Opt→Bool) (o:Opt) (s:List Opt):∀ n,posB bf o s n≤n
 | 0=>Nat.le_refl _
 | n+1=>by
   rw [posB]
   split
   ·exact Nat.le_succ_of_le (posB_le bf o s n)
   ·exact Nat.le_refl _
theorem posB_ahead (bf:Opt→Opt→Bool) (o:Opt) (s:List Opt):∀ n,0<posB bf o s n→bf o (s.getD (posB bf o s n - 1) noO)=false
 | 0,h=>absurd h (Nat.lt_irrefl 0)
 | n+1,h=>by
   rw [posB] at h ⊢
   by_cases q:bf o (s.getD n noO)=true
   ·rw [if_pos q] at h ⊢;exact posB_ahead bf o s n h
   ·rw [if_neg q,Nat.add_sub_cancel];simpa using q
theorem posB_behind (bf:Opt→Opt→Bool) (o:Opt) (s:List Opt):∀ n i,posB bf o s n≤i→i<n→bf o (s.getD i noO)=true
 | 0,i,_,h=>absurd h (Nat.not_lt_zero _)
 | n+1,i,h1,h2=>by
   rw [posB] at h1
   by_cases q:bf o (s.getD n noO)=true
   ·rw [if_pos q] at h1
    rcases Nat.lt_or_ge i n with g | g
    ·exact posB_behind bf o s n i h1 g
    ·obtain rfl:i=n:=by omega
     exact q
   ·rw [if_neg q] at h1;omega
def AscO (s:List Opt):Prop:=s.Pairwise fun a b=>a.ag≤b.ag
theorem AscO.le {s:List Opt} (h:AscO s) {i j:Nat} (hi:i≤j) (hj:j<s.length):(s.getD i noO).ag≤(s.getD j noO).ag:=by
 rcases Nat.lt_or_eq_of_le hi with q | rfl
 ·have:=(List.pairwise_iff_getElem.1 h) i j (by omega) hj q
  rw [List.getD_eq_getElem?_getD,List.getElem?_eq_getElem (by omega),List.getD_eq_getElem?_getD,List.getElem?_eq_getElem hj]
  exact this
 ·exact Nat.le_refl _
theorem memG {s:List Opt} {x:Opt} (h:x∈s):∃ i,i<s.length∧s.getD i noO=x:=by
 obtain ⟨i,hi,e⟩:=List.getElem_of_mem h
 exact ⟨i,hi,by rw [List.getD_eq_getElem?_getD,List.getElem?_eq_getElem hi];exact e⟩
theorem asc_ins {s:List Opt} (h:AscO s) (o:Opt):AscO (insB befT o s):=by
 unfold insB
 have pl:=posB_le befT o s s.length
 have pa:=posB_ahead befT o s s.length
 have pb:=posB_behind befT o s s.length
 generalize posB befT o s s.length=p at *
 refine List.pairwise_append.2 ⟨h.sublist (List.take_sublist _ _),List.pairwise_cons.2 ⟨fun x hx=>?_,h.sublist (List.drop_sublist _ _)⟩,fun x hx y hy=>?_⟩
 ·obtain ⟨i,hi,rfl⟩:=memG hx
  rw [List.length_drop] at hi
  have e:(s.drop p).getD i noO=s.getD (p+i) noO:=by rw [List.getD_eq_getElem?_getD,List.getElem?_drop,← List.getD_eq_getElem?_getD]
  rw [e]
  have:=of_decide_eq_true (pb (p+i) (by omega) (by omega))
  omega
 ·obtain ⟨i,hi,rfl⟩:=memG hx
  rw [List.length_take] at hi
  have e:(s.take p).getD i noO=s.getD i noO:=by rw [List.getD_eq_getElem?_getD,List.getElem?_take,if_pos (by omega),← List.getD_eq_getElem?_getD]
  rw [e]
  have a1:(s.getD i noO).ag≤(s.getD (p - 1) noO).ag:=h.le (by omega) (by omega)
  rcases List.mem_cons.1 hy with rfl | hy
  ·have:=of_decide_eq_false (pa (by omega));omega
  ·obtain ⟨j,hj,rfl⟩:=memG hy
   rw [List.length_drop] at hj
   have e:(s.drop p).getD j noO=s.getD (p+j) noO:=by rw [List.getD_eq_getElem?_getD,List.getElem?_drop,← List.getD_eq_getElem?_getD]
   rw [e]
   exact h.le (by omega) (by omega)
theorem asc_sort (l:List Opt):AscO (sortB befT l):=by
 have:∀ (l s:List Opt),AscO s→AscO (l.foldl (fun s o=>insB befT o s) s):=by
  intro l
  induction l with
  | nil=>intro s h;exact h
  | cons o l ih=>intro s h;rw [List.foldl_cons];exact ih _ (asc_ins h o)
 exact this l [] List.Pairwise.nil
theorem ins_mem2 {bf:Opt→Opt→Bool} {o:Opt} {s:List Opt}:o∈insB bf o s∧∀ x∈s,x∈insB bf o s:=by
 unfold insB
 refine ⟨by simp,fun x hx=>?_⟩
 rw [← List.take_append_drop (posB bf o s s.length) s] at hx
 rcases List.mem_append.1 hx with q | q
 ·exact List.mem_append.2 (.inl q)
 ·exact List.mem_append.2 (.inr (List.mem_cons_of_mem _ q))
theorem sort_mem2 {bf:Opt→Opt→Bool} {l:List Opt}:∀ x∈l,x∈sortB bf l:=by
 have:∀ (l s:List Opt) (x:Opt),x∈s∨x∈l→x∈l.foldl (fun s o=>insB bf o s) s:=by
  intro l
  induction l with
  | nil=>intro s x h;rcases h with h | h;exact h;cases h
  | cons o l ih =>
   intro s x h
   rw [List.foldl_cons]
   refine ih _ _ ?_
   rcases h with h | h
   ·exact .inl (ins_mem2.2 x h)
   ·rcases List.mem_cons.1 h with rfl | h
    ·exact .inl ins_mem2.1
    ·exact .inr h
 intro x hx
 exact this l [] x (.inr hx)
theorem opts_mem {l:List Cel} {o:Opt}:o∈optsT l↔∃ k,kOf k∧o=optT l k:=by
 constructor
 ·intro h
  obtain ⟨k,hk,rfl⟩:=List.mem_map.1 (sortB_mem h)
  refine ⟨k,?_,rfl⟩
  have:k∈ordL:=List.mem_of_mem_take hk
  unfold ordL at this
  simp only [List.mem_cons,List.not_mem_nil,or_false] at this
  unfold kOf;omega
 ·rintro ⟨k,hk,rfl⟩
  refine sort_mem2 _ (List.mem_map.2 ⟨k,?_,rfl⟩)
  rw [List.take_of_length_le (by rw [ord_len];exact Nat.le_refl _)]
  unfold ordL
  unfold kOf at hk
  simp only [List.mem_cons,List.not_mem_nil,or_false];omega
theorem cnt_T (k:Int):∀ l:List Cel,l.countP (isT k)+l.countP (noT k)=l.countP vsT
 | []=>rfl
 | x::l=>by
   have ih:=cnt_T k l
   rw [List.countP_cons,List.countP_cons,List.countP_cons]
   obtain ⟨t,n⟩:=x
   have e1:isT k (t,n)=(!n && okK k t):=rfl
   have e2:noT k (t,n)=(!n && !okK k t):=rfl
   have e3:vsT (t,n)=!n:=rfl
   rw [e1,e2,e3]
   cases n<;>cases okK k t<;>simp<;>omega
theorem noT_1 (l:List Cel):l.countP (noT 1)=0:=by
 rw [List.countP_eq_zero]
 intro x _
 unfold noT
 rw [show okK 1 x.1=true from rfl]
 simp
theorem opts_head (l:List Cel):∃ k,kOf k∧(optsT l).getD 0 noO=optT l k∧l.countP (noT k)=0∧l.countP (isT k)=l.countP vsT:=by
 have ln:=optsT_len l
 have m0:(optsT l).getD 0 noO∈optsT l:=memD (d:=noO) (by omega)
 obtain ⟨k,hk,e⟩:=opts_mem.1 m0
 obtain ⟨i,hi,e1⟩:=memG (opts_mem.2 ⟨1,by unfold kOf;omega,rfl⟩:optT l 1∈optsT l)
 have le:((optsT l).getD 0 noO).ag≤((optsT l).getD i noO).ag:=(asc_sort _).le (Nat.zero_le _) hi
 rw [e1,e] at le
 have z:l.countP (noT k)≤l.countP (noT 1):=le
 rw [noT_1] at z
 have:=cnt_T k l
 exact ⟨k,hk,e,by omega,by omega⟩
theorem gsT_of (l:List Cel):∃ k,kOf k∧(optsT l).getD 0 noO=optT l k∧l.countP (noT k)=0∧gsT l=if l.countP vsT=0 then 1 else k:=by
 obtain ⟨k,hk,e,z,_⟩:=opts_head l
 refine ⟨k,hk,e,z,?_⟩
 unfold gsT
 rw [e]
 have en:nmdK (optT l k).txt=k:=nmd_of hk
 rw [en]
 by_cases c:l.countP vsT=0
 ·rw [if_pos c,if_neg]
  intro q
  obtain ⟨x,hx,hv⟩:=List.any_eq_true.1 q
  exact absurd hv (List.countP_eq_zero.1 c x hx)
 ·rw [if_neg c,if_pos]
  obtain ⟨x,hx,hv⟩:=List.countP_pos_iff.1 (Nat.pos_of_ne_zero c)
  exact List.any_eq_true.2 ⟨x,hx,hv⟩
end Go.Proofs.YtdpjcghiegggbaaGreatDoor
namespace Go.Proofs.YtdpjcghiegggbaaGreatDoor
open Go Go.Proofs Go.Abs
variable {G:Globals}
end Go.Proofs.YtdpjcghiegggbaaGreatDoor
namespace Go.Proofs.YtdpjcghiegggbaaGreatDoor
open Go Go.Proofs Go.Abs
variable {G:Globals}
end Go.Proofs.YtdpjcghiegggbaaGreatDoor
namespace Go.Proofs.YtdpjcghiegggbaaGreatDoor
open Go Go.Proofs Go.Abs
variable {G:Globals}
end Go.Proofs.YtdpjcghiegggbaaGreatDoor
namespace Go.Proofs.YtdpjcghiegggbaaGreatDoor
open Go Go.Proofs Go.Abs
variable {G:Globals}
end Go.Proofs.YtdpjcghiegggbaaGreatDoor
namespace Go.Proofs.YtdpjcghiegggbaaGreatDoor
open Go Go.Proofs Go.Abs
variable {G:Globals}
def fitT (k:Int) (x:Cel):Bool:=x.2 || okK k x.1
def apT (k:Int) (x:Cel):Cel:=if x.2=true then x else (cnK k x.1,false)
def tapE (k:Int) (l:List Cel):Int:=if kOf k then (if l.all (fitT k)=true then 0 else 4) else 2
def tapR (nm:List UInt8) (k:Int) (l:List Cel):D:=.tup [if tapE k l=0 then .agg [S nm,CelS (l.map (apT k)) false] else .agg [S [],.sl 0 false []],.int .i64 (tapE k l)]
theorem map_stepT {k:Int} {l:List Cel} {i:Nat} (h:i<l.length):(l.take (i+1)).map (apT k)=(l.take i).map (apT k)++[apT k (l.getD i noC)]:=by
 rw [List.take_add_one,getD_some (d:=noC) h];simp
theorem look_yesT {k:Int} (h:kOf k):∃ f g,lookV (.agg [.str ByteArray.empty,.nilf,.nilf]) kindsM (.int .i64 k) true=.tup [.agg [S (nmK k),f,g],.bool true]∧(f.one && g.one)=true:=by
 unfold kOf at h
 rcases h with rfl | rfl | rfl | rfl | rfl<;>exact ⟨_,_,rfl,rfl⟩
set_option maxHeartbeats 16000000 in
set_option maxRecDepth 100000 in
theorem tapply_spec (hG:Num.HG G) (hE:HE G) (hP:HP G) (nm:List UInt8) (l:List Cel) (full:Bool) (hl:okY l) (k:Int) (k1:-9223372036854775808≤k) (k2:k≤9223372036854775807) :
  Ctr Tryz.prog G 21 [.d (.agg [S nm,CelS l full]),.d (.int .i64 k)] [] (.d (tapR nm k l)) []:=by
 obtain ⟨r,hr⟩:∃ r,r=tapR nm k l:=⟨_,rfl⟩
 rw [← hr]
 unfold tapR tapE at hr
 have lc:=celsD_length l
 have l1:=hl.1
 have kk:=kk_int
 have hb0:ByteArray.empty=bs []:=rfl
 refine Ctr.pure (M:=M0) hmix Tryz.func21 rfl go21 ?_
 by_cases e1:kOf k
 ·rw [if_pos e1] at hr
  obtain ⟨f1,f2,lk,ff⟩:=look_yesT e1
  simp (config:={maxSteps:=1000000}) (disch:=((try simp only [awL]);omega)) only [QR,QS,QT,QU,QV,QW,QX,QY,QZ,Q0,Q1,Q2,lc,Tryz.f21,↓awU,awV,awF,Qa,Qb,Qc,Qd,forall_const,↓reduceIte,↓reduceDIte,↓Qe,Qf,Qg,Qh,Qi,Qj,Qk,Ql,Qm,Qn,Qo,Qp,Qq,Qr,Qs,implies_true,Qt,Qu,Qv,Qw,Qx,Qy,Qz,QA,QB,QC,QD,QE,QF,QG,QH,QI,QJ,QK,QL,QM,QN,QO,QP,QQ]
  refine CallC.by (L:=[]) kinds_spec (by rfl) (by rfl) (by simp) ?_
  simp (config:={maxSteps:=1000000}) (disch:=((try simp only [awL]);omega)) only [QR,QS,QT,QU,QV,QW,QX,QY,QZ,Q0,Q1,Q2,lc,kk,lk,↓awU,awV,awF,Qa,Qb,Qc,Qd,forall_const,↓reduceIte,↓reduceDIte,↓Qe,Qf,Qg,Qh,Qi,Qj,Qk,Ql,Qm,Qn,Qo,Qp,Qq,Qr,Qs,implies_true,Qt,Qu,Qv,Qw,Qx,Qy,Qz,QA,QB,QC,QD,QE,QF,QG,QH,QI,QJ,QK,QL,QM,QN,QO,QP,QQ]
  refine ⟨ff,?_⟩
  refine LoopC.fr 201326866 (α:=Nat) (fun i=>l.length - i) (fun i=>[(28,.d (.int .i64 (i:Nat)))])
   (fun i=>[.dead,.box [.d (.str ByteArray.empty),.d (.sl 0 true [])],.dead,.dead,.box [.d (S nm),.lsl 5 2 0 i],.row false (celsD ((l.take i).map (apT k)))]) (fun i=>i≤l.length∧(l.take i).all (fitT k)=true) 0 ⟨Nat.zero_le _,rfl⟩ ?_ ?_
  ·first
   | exact ⟨[some 0,some 1,some 2,some 3,some 4,none],rfl,by simp,by simp [setsA,keepA,SWeak,AWeak],by simp [HWeak,BWeak,SWeak,AWeak,celsD]⟩
  ·rintro i ⟨hi,ha⟩
   have al:=celsD_length ((l.take i).map (apT k))
   rw [List.length_map,List.length_take,Nat.min_eq_left hi] at al
   simp only [awK,Nat.reduceMod,Nat.reduceDiv,reduceIte]
   rcases Nat.lt_or_ge i l.length with h | h
   ·have gc:=celsD_get h
    have gx:=hl.at h
    have at1:=@all_takeU l (fitT k) i h ha
    have st:=map_stepT (k:=k) h
    have sp:=celsD_pushU ((l.take i).map (apT k)) (apT k (l.getD i noC))
    rw [← st] at sp
    rcases hx:l.getD i noC with ⟨t,nul⟩
    rw [hx] at gc gx at1 sp
    simp only at gx
    cases nul
    ·have mf:fitT k (t,false)=okK k t:=rfl
     rw [mf] at at1
     have gc:((celsD l).drop (i*2)).take 2=[.bool false,S t]:=gc
     have nf:okK k t=false→l.all (fitT k)=false:=fun q=>by
      cases q2:l.all (fitT k)
      ·rfl
      ·have:=List.all_eq_true.1 q2 _ (memD (d:=noC) h)
       rw [hx,mf,q] at this
       cases this
     have sp:celsD ((l.take i).map (apT k))++[.bool false,S (cnK k t)]=celsD ((l.take (i+1)).map (apT k)):=sp
     have cs:=canon_spec hG hE hP k k1 k2 t gx
     generalize okK k t=o at *
     generalize cnK k t=y at *
     simp (config:={maxSteps:=1000000}) (disch:=((try simp only [awL]);omega)) only [QR,QS,QT,QU,QV,QW,QX,QY,QZ,Q0,Q1,Q2,lc,al,gc,↓awU,awV,awF,Qa,Qb,Qc,Qd,forall_const,↓reduceIte,↓reduceDIte,↓Qe,Qf,Qg,Qh,Qi,Qj,Qk,Ql,Qm,Qn,Qo,Qp,Qq,Qr,Qs,implies_true,Qt,Qu,Qv,Qw,Qx,Qy,Qz,QA,QB,QC,QD,QE,QF,QG,QH,QI,QJ,QK,QL,QM,QN,QO,QP,QQ]
     refine CallC.of cs (by rfl) ?_
     cases o
     ·rw [nf rfl,if_neg Bool.false_ne_true,if_neg (by decide)] at hr
      subst hr
      simp (config:={maxSteps:=1000000}) (disch:=((try simp only [awL]);omega)) only [QR,QS,QT,QU,QV,QW,QX,QY,QZ,Q0,Q1,Q2,lc,al,↓awU,awV,awF,Qa,Qb,Qc,Qd,forall_const,↓reduceIte,↓reduceDIte,↓Qe,Qf,Qg,Qh,Qi,Qj,Qk,Ql,Qm,Qn,Qo,Qp,Qq,Qr,Qs,implies_true,Qt,Qu,Qv,Qw,Qx,Qy,Qz,QA,QB,QC,QD,QE,QF,QG,QH,QI,QJ,QK,QL,QM,QN,QO,QP,QQ]
      first | done | rfl
     ·simp (config:={maxSteps:=1000000}) (disch:=((try simp only [awL]);omega)) only [QR,QS,QT,QU,QV,QW,QX,QY,QZ,Q0,Q1,Q2,lc,al,↓awU,awV,awF,Qa,Qb,Qc,Qd,forall_const,↓reduceIte,↓reduceDIte,↓Qe,Qf,Qg,Qh,Qi,Qj,Qk,Ql,Qm,Qn,Qo,Qp,Qq,Qr,Qs,implies_true,Qt,Qu,Qv,Qw,Qx,Qy,Qz,QA,QB,QC,QD,QE,QF,QG,QH,QI,QJ,QK,QL,QM,QN,QO,QP,QQ]
      rw [List.map_take,List.map_take] at sp
      first
      | exact ⟨i+1,⟨h,at1 rfl⟩,by simp only;omega,⟨[some 0,some 1,some 2,some 3,some 4,some 8],rfl,by simp,by simp [setsA,keepA,SWeak,AWeak],by simp [HWeak,BWeak,SWeak,AWeak,cut,sp]⟩⟩
      | exact ⟨by rfl,i+1,⟨h,at1 rfl⟩,by simp only;omega,⟨[some 0,some 1,some 2,some 3,some 4,some 8],rfl,by simp,by simp [setsA,keepA,SWeak,AWeak],by simp [HWeak,BWeak,SWeak,AWeak,cut,sp]⟩⟩
    ·have gc:((celsD l).drop (i*2)).take 2=[.bool true,S t]:=gc
     have sp:celsD ((l.take i).map (apT k))++[.bool true,S t]=celsD ((l.take (i+1)).map (apT k)):=sp
     simp (config:={maxSteps:=1000000}) (disch:=((try simp only [awL]);omega)) only [QR,QS,QT,QU,QV,QW,QX,QY,QZ,Q0,Q1,Q2,lc,al,gc,↓awU,awV,awF,Qa,Qb,Qc,Qd,forall_const,↓reduceIte,↓reduceDIte,↓Qe,Qf,Qg,Qh,Qi,Qj,Qk,Ql,Qm,Qn,Qo,Qp,Qq,Qr,Qs,implies_true,Qt,Qu,Qv,Qw,Qx,Qy,Qz,QA,QB,QC,QD,QE,QF,QG,QH,QI,QJ,QK,QL,QM,QN,QO,QP,QQ]
     rw [List.map_take,List.map_take] at sp
     first
     | exact ⟨i+1,⟨h,at1 rfl⟩,by simp only;omega,⟨[some 0,some 1,some 2,some 3,some 4,some 8],rfl,by simp,by simp [setsA,keepA,SWeak,AWeak],by simp [HWeak,BWeak,SWeak,AWeak,cut,sp]⟩⟩
     | exact ⟨by rfl,i+1,⟨h,at1 rfl⟩,by simp only;omega,⟨[some 0,some 1,some 2,some 3,some 4,some 8],rfl,by simp,by simp [setsA,keepA,SWeak,AWeak],by simp [HWeak,BWeak,SWeak,AWeak,cut,sp]⟩⟩
   ·have e:i=l.length:=by omega
    subst e
    rw [List.take_length] at ha al ⊢
    rw [ha,if_pos rfl,if_pos rfl] at hr
    have ll:(l.map (apT k)).length=l.length:=by simp
    have cu:cut (celsD (l.map (apT k))) 0 (l.length*2)=celsD (l.map (apT k)):=cutA _ _ (by omega)
    subst hr
    unfold CelS
    rw [ll]
    simp (config:={maxSteps:=1000000}) (disch:=((try simp only [awL]);omega)) only [QR,QS,QT,QU,QV,QW,QX,QY,QZ,Q0,Q1,Q2,lc,al,cu,↓awU,awV,awF,Qa,Qb,Qc,Qd,forall_const,↓reduceIte,↓reduceDIte,↓Qe,Qf,Qg,Qh,Qi,Qj,Qk,Ql,Qm,Qn,Qo,Qp,Qq,Qr,Qs,implies_true,Qt,Qu,Qv,Qw,Qx,Qy,Qz,QA,QB,QC,QD,QE,QF,QG,QH,QI,QJ,QK,QL,QM,QN,QO,QP,QQ]
    first | done | rfl
 ·rw [if_neg e1,if_neg (by decide)] at hr
  have lk:=look_no e1
  unfold noK at lk
  subst hr
  simp (config:={maxSteps:=1000000}) (disch:=((try simp only [awL]);omega)) only [QR,QS,QT,QU,QV,QW,QX,QY,QZ,Q0,Q1,Q2,lc,Tryz.f21,↓awU,awV,awF,Qa,Qb,Qc,Qd,forall_const,↓reduceIte,↓reduceDIte,↓Qe,Qf,Qg,Qh,Qi,Qj,Qk,Ql,Qm,Qn,Qo,Qp,Qq,Qr,Qs,implies_true,Qt,Qu,Qv,Qw,Qx,Qy,Qz,QA,QB,QC,QD,QE,QF,QG,QH,QI,QJ,QK,QL,QM,QN,QO,QP,QQ]
  refine CallC.by (L:=[]) kinds_spec (by rfl) (by rfl) (by simp) ?_
  simp (config:={maxSteps:=1000000}) (disch:=((try simp only [awL]);omega)) only [QR,QS,QT,QU,QV,QW,QX,QY,QZ,Q0,Q1,Q2,lc,kk,lk,↓awU,awV,awF,Qa,Qb,Qc,Qd,forall_const,↓reduceIte,↓reduceDIte,↓Qe,Qf,Qg,Qh,Qi,Qj,Qk,Ql,Qm,Qn,Qo,Qp,Qq,Qr,Qs,implies_true,Qt,Qu,Qv,Qw,Qx,Qy,Qz,QA,QB,QC,QD,QE,QF,QG,QH,QI,QJ,QK,QL,QM,QN,QO,QP,QQ]
  first | done | rfl
end Go.Proofs.YtdpjcghiegggbaaGreatDoor
namespace Go.Proofs.YtdpjcghiegggbaaGreatDoor
open Go Go.Proofs Go.Abs
variable {G:Globals}
def tkK (t:List Int) (kind k:Nat):Nat:=if pk t k 7=0 then (pk t (k+1) 7).toNat else kind
def tkP (t:List Int) (k:Nat):Nat:=if pk t k 7=0 then k+2 else k+1
def tmX (t:List Int) (kind k:Nat):List UInt8:=fieldM t (tkP t k) (tkK t kind k)
def tmQ (t:List Int) (kind k:Nat):Nat:=fieldK t (tkP t k) (tkK t kind k)
def tmCel (t:List Int) (kind k:Nat):Cel:=if pk t (tmQ t kind k) 6=0 then ([],true) else (tmX t kind k,false)
def tmL (t:List Int) (kind:Nat):Nat→Nat→List Cel × Nat
 | 0,k=>([],k)
 | n+1,k=>(tmCel t kind k::(tmL t kind n (tmQ t kind k+1)).1,(tmL t kind n (tmQ t kind k+1)).2)
def madeT (t:List Int) (k:Nat):List Cel:=(tmL t (pk t k 5).toNat (pk t (k+1) 8).toNat (k+2)).1
def madeTK (t:List Int) (k:Nat):Nat:=(tmL t (pk t k 5).toNat (pk t (k+1) 8).toNat (k+2)).2
theorem tmL_ok (t:List Int) (kind:Nat):∀ n k,(tmL t kind n k).1.length=n∧∀ x∈(tmL t kind n k).1,x.1.length≤30
 | 0,k=>⟨rfl,fun x h=>by cases h⟩
 | n+1,k=>by
   rw [tmL]
   have ih:=tmL_ok t kind n (tmQ t kind k+1)
   refine ⟨by rw [List.length_cons,ih.1],fun x hx=>?_⟩
   rcases List.mem_cons.1 hx with e | hx
   ·rw [e]
    have:=(fieldM_ok t (tkP t k) (tkK t kind k)).2
    unfold tmCel
    split
    ·simp
    ·exact this
   ·exact ih.2 x hx
theorem madeT_ok (t:List Int) (k:Nat):(madeT t k).length≤7∧∀ x∈madeT t k,x.1.length≤30:=by
 have h1:=tmL_ok t (pk t k 5).toNat (pk t (k+1) 8).toNat (k+2)
 have h2:=@pk_range t (k+1) 8 (by decide)
 unfold madeT
 exact ⟨by omega,h1.2⟩
theorem celsD_setY {l:List Cel} {x y:Cel}:(celsD (l++[x])).take (l.length*2)++CelC y++(celsD (l++[x])).drop (l.length*2+2)=celsD (l++[y]):=by
 have e:celsD (l++[x])=celsD l++CelC x:=by simp [celsD]
 have e2:celsD (l++[y])=celsD l++CelC y:=by simp [celsD]
 have ll:=celsD_length l
 rw [e,e2,List.take_append_of_le_length (by omega),List.take_of_length_le (by omega),List.drop_append,List.drop_of_length_le (by omega),show l.length*2+2 - (celsD l).length=2 by omega]
 simp
theorem celsD_pushY (a:List Cel) (x:Cel):celsD a++[.bool x.2,S x.1]=celsD (a++[x]):=by simp [celsD]
set_option maxHeartbeats 16000000 in
set_option maxRecDepth 100000 in
theorem tmade_spec (t:List Int) (k:Nat) (ht:OkM t) :
  Ctr Tryz.prog G 19 [.ptr 0 0] [DiceM t k] (.d (.agg [S [99],CelS (madeT t k) false])) [DiceM t (madeTK t k)]:=by
 obtain ⟨r,hr⟩:∃ r,r=madeT t k:=⟨_,rfl⟩
 obtain ⟨k2,hk⟩:∃ k2,k2=madeTK t k:=⟨_,rfl⟩
 rw [← hr,← hk]
 unfold madeT at hr
 unfold madeTK at hk
 refine Ctr.body (M:=M0) hmix Tryz.func19 rfl go19 ?_
 obtain ⟨kind,hc,hc2⟩:=pk_nat t k 5 (by decide)
 obtain ⟨m,hm,hm2⟩:=pk_nat t (k+1) 8 (by decide)
 rw [hc,hm,Int.toNat_natCast,Int.toNat_natCast] at hr hk
 have hb0:ByteArray.empty=bs []:=rfl
 simp (config:={maxSteps:=1000000}) (disch:=((try simp only [awL]);omega)) only [QR,QS,QT,QU,QV,QW,QX,QY,QZ,Q0,Q1,Q2,Tryz.f19,↓awU,awV,awF,Qa,Qb,Qc,Qd,forall_const,↓reduceIte,↓reduceDIte,↓Qe,Qf,Qg,Qh,Qi,Qj,Qk,Ql,Qm,Qn,Qo,Qp,Qq,Qr,Qs,implies_true,Qt,Qu,Qv,Qw,Qx,Qy,Qz,QA,QB,QC,QD,QE,QF,QG,QH,QI,QJ,QK,QL,QM,QN,QO,QP,QQ]
 refine CallC.by (pick_spec t k 5 ht (by decide) (by decide)) (by rfl) (by rfl) (Nat.le_refl _) ?_
 rw [hc]
 simp (config:={maxSteps:=1000000}) (disch:=((try simp only [awL]);omega)) only [QR,QS,QT,QU,QV,QW,QX,QY,QZ,Q0,Q1,Q2,↓awU,awV,awF,Qa,Qb,Qc,Qd,forall_const,↓reduceIte,↓reduceDIte,↓Qe,Qf,Qg,Qh,Qi,Qj,Qk,Ql,Qm,Qn,Qo,Qp,Qq,Qr,Qs,implies_true,Qt,Qu,Qv,Qw,Qx,Qy,Qz,QA,QB,QC,QD,QE,QF,QG,QH,QI,QJ,QK,QL,QM,QN,QO,QP,QQ]
 refine CallC.by (pick_spec t (k+1) 8 ht (by decide) (by decide)) (by rfl) (by rfl) (Nat.le_refl _) ?_
 rw [hm]
 simp (config:={maxSteps:=1000000}) (disch:=((try simp only [awL]);omega)) only [QR,QS,QT,QU,QV,QW,QX,QY,QZ,Q0,Q1,Q2,↓awU,awV,awF,Qa,Qb,Qc,Qd,forall_const,↓reduceIte,↓reduceDIte,↓Qe,Qf,Qg,Qh,Qi,Qj,Qk,Ql,Qm,Qn,Qo,Qp,Qq,Qr,Qs,implies_true,Qt,Qu,Qv,Qw,Qx,Qy,Qz,QA,QB,QC,QD,QE,QF,QG,QH,QI,QJ,QK,QL,QM,QN,QO,QP,QQ]
 refine LoopC.fr 29 (α:=List Cel × Nat × Nat) (fun x=>x.2.1) (fun x=>[(5,.d (.int .i64 (x.2.1:Nat)))]) (fun x=>[DiceM t x.2.2,.box [.d (.str ByteArray.empty),.d (.sl 0 true [])],.box [.d (S [99]),.lsl 3 2 0 x.1.length],.row false (celsD x.1)])
  (fun x=>x.1.length+x.2.1≤7∧r=x.1++(tmL t kind x.2.1 x.2.2).1∧k2=(tmL t kind x.2.1 x.2.2).2) ([],m,k+2) ⟨by simp only [List.length_nil];omega,hr,hk⟩ ?_ ?_
 ·first
  | exact ⟨[some 0,some 1,some 2,none],rfl,by simp,by simp [setsA,keepA,SWeak,AWeak],by simp [HWeak,BWeak,SWeak,AWeak,celsD]⟩
 ·rintro ⟨acc,n,p⟩ ⟨h1,h2,h3⟩
  simp only at h1 h2 h3
  have al:=celsD_length acc
  simp only [awK,Nat.reduceMod,Nat.reduceDiv,reduceIte]
  match n with
  | 0 =>
   simp only [tmL,List.append_nil] at h2 h3
   subst h2 h3
   have cu:cut (celsD r) 0 (r.length*2)=celsD r:=by unfold cut;rw [List.drop_zero,List.take_of_length_le (by omega)]
   simp (config:={maxSteps:=1000000}) (disch:=((try simp only [awL]);omega)) only [QR,QS,QT,QU,QV,QW,QX,QY,QZ,Q0,Q1,Q2,al,cu,↓awU,awV,awF,Qa,Qb,Qc,Qd,forall_const,↓reduceIte,↓reduceDIte,↓Qe,Qf,Qg,Qh,Qi,Qj,Qk,Ql,Qm,Qn,Qo,Qp,Qq,Qr,Qs,implies_true,Qt,Qu,Qv,Qw,Qx,Qy,Qz,QA,QB,QC,QD,QE,QF,QG,QH,QI,QJ,QK,QL,QM,QN,QO,QP,QQ]
   refine ⟨[some 0],rfl,by simp,by simp [HWeak,BWeak,SWeak,AWeak],.inr ⟨_,rfl,?_,rfl⟩⟩
   simp (config:={maxSteps:=1000000}) (disch:=((try simp only [awL]);omega)) only [QR,QS,QT,QU,QV,QW,QX,QY,QZ,Q0,Q1,Q2,cu,↓awU,awV,awF,Qa,Qb,Qc,Qd,forall_const,↓reduceIte,↓reduceDIte,↓Qe,Qf,Qg,Qh,Qi,Qj,Qk,Ql,Qm,Qn,Qo,Qp,Qq,Qr,Qs,implies_true,Qt,Qu,Qv,Qw,Qx,Qy,Qz,QA,QB,QC,QD,QE,QF,QG,QH,QI,QJ,QK,QL,QM,QN,QO,QP,QQ]
   try rfl
  | n+1 =>
   simp only [tmL] at h2 h3
   unfold tmCel tmX tmQ tkK tkP at h2
   unfold tmQ tkK tkP at h3
   simp (config:={maxSteps:=1000000}) (disch:=((try simp only [awL]);omega)) only [QR,QS,QT,QU,QV,QW,QX,QY,QZ,Q0,Q1,Q2,↓awU,awV,awF,Qa,Qb,Qc,Qd,forall_const,↓reduceIte,↓reduceDIte,↓Qe,Qf,Qg,Qh,Qi,Qj,Qk,Ql,Qm,Qn,Qo,Qp,Qq,Qr,Qs,implies_true,Qt,Qu,Qv,Qw,Qx,Qy,Qz,QA,QB,QC,QD,QE,QF,QG,QH,QI,QJ,QK,QL,QM,QN,QO,QP,QQ]
   refine CallC.by (pick_spec t p 7 ht (by decide) (by decide)) (by rfl) (by rfl) (Nat.le_refl _) ?_
   by_cases e7:pk t p 7=0
   ·simp only [if_pos e7] at h2 h3
    rw [e7]
    simp (config:={maxSteps:=1000000}) (disch:=((try simp only [awL]);omega)) only [QR,QS,QT,QU,QV,QW,QX,QY,QZ,Q0,Q1,Q2,↓awU,awV,awF,Qa,Qb,Qc,Qd,forall_const,↓reduceIte,↓reduceDIte,↓Qe,Qf,Qg,Qh,Qi,Qj,Qk,Ql,Qm,Qn,Qo,Qp,Qq,Qr,Qs,implies_true,Qt,Qu,Qv,Qw,Qx,Qy,Qz,QA,QB,QC,QD,QE,QF,QG,QH,QI,QJ,QK,QL,QM,QN,QO,QP,QQ]
    refine CallC.by (pick_spec t (p+1) 7 ht (by decide) (by decide)) (by rfl) (by rfl) (Nat.le_refl _) ?_
    obtain ⟨c,hq,hq2⟩:=pk_nat t (p+1) 7 (by decide)
    rw [hq] at h2 h3 ⊢
    simp only [Int.toNat_natCast] at h2 h3
    simp (config:={maxSteps:=1000000}) (disch:=((try simp only [awL]);omega)) only [QR,QS,QT,QU,QV,QW,QX,QY,QZ,Q0,Q1,Q2,al,↓awU,awV,awF,Qa,Qb,Qc,Qd,forall_const,↓reduceIte,↓reduceDIte,↓Qe,Qf,Qg,Qh,Qi,Qj,Qk,Ql,Qm,Qn,Qo,Qp,Qq,Qr,Qs,implies_true,Qt,Qu,Qv,Qw,Qx,Qy,Qz,QA,QB,QC,QD,QE,QF,QG,QH,QI,QJ,QK,QL,QM,QN,QO,QP,QQ]
    rw [show p+1+1=p+2 from rfl]
    refine CallC.by (field_mspec t (p+2) c ht (by omega)) (by rfl) (by rfl) (Nat.le_refl _) ?_
    have xl:=(fieldM_ok t (p+2) c).2
    generalize fieldM t (p+2) c=x at *
    generalize fieldK t (p+2) c=p3 at *
    have sp:=celsD_pushY acc (x,false)
    have tl:(acc++[(x,false)]).length=acc.length+1:=by simp
    have st:=@celsD_setY acc (x,false) ([],true)
    simp only at sp
    have cu2:cut [D.bool false,D.str (bs x)] 0 2=[D.bool false,D.str (bs x)]:=rfl
    simp (config:={maxSteps:=1000000}) (disch:=((try simp only [awL]);omega)) only [QR,QS,QT,QU,QV,QW,QX,QY,QZ,Q0,Q1,Q2,al,cu2,sp,List.length_cons,List.length_nil,↓awU,awV,awF,Qa,Qb,Qc,Qd,forall_const,↓reduceIte,↓reduceDIte,↓Qe,Qf,Qg,Qh,Qi,Qj,Qk,Ql,Qm,Qn,Qo,Qp,Qq,Qr,Qs,implies_true,Qt,Qu,Qv,Qw,Qx,Qy,Qz,QA,QB,QC,QD,QE,QF,QG,QH,QI,QJ,QK,QL,QM,QN,QO,QP,QQ]
    try refine ⟨by rfl,?_⟩
    try simp (config:={maxSteps:=1000000}) (disch:=((try simp only [awL]);omega)) only [QR,QS,QT,QU,QV,QW,QX,QY,QZ,Q0,Q1,Q2,al,cu2,sp,List.length_cons,List.length_nil,↓awU,awV,awF,Qa,Qb,Qc,Qd,forall_const,↓reduceIte,↓reduceDIte,↓Qe,Qf,Qg,Qh,Qi,Qj,Qk,Ql,Qm,Qn,Qo,Qp,Qq,Qr,Qs,implies_true,Qt,Qu,Qv,Qw,Qx,Qy,Qz,QA,QB,QC,QD,QE,QF,QG,QH,QI,QJ,QK,QL,QM,QN,QO,QP,QQ]
    refine CallC.by (pick_spec t p3 6 ht (by decide) (by decide)) (by rfl) (by rfl) (Nat.le_refl _) ?_
    by_cases q:pk t p3 6=0
    ·rw [if_pos q] at h2
     rw [q]
     have h4:r=(acc++[([],true)])++(tmL t kind n (p3+1)).1:=by rw [h2];simp
     have tl2:(acc++[(([],true):Cel)]).length=acc.length+1:=by simp
     generalize acc++[(x,false)]=acc1 at *
     generalize acc++[(([],true):Cel)]=acc2 at *
     simp (config:={maxSteps:=1000000}) (disch:=((try simp only [awL]);omega)) only [QR,QS,QT,QU,QV,QW,QX,QY,QZ,Q0,Q1,Q2,al,tl,↓awU,awV,awF,Qa,Qb,Qc,Qd,forall_const,↓reduceIte,↓reduceDIte,↓Qe,Qf,Qg,Qh,Qi,Qj,Qk,Ql,Qm,Qn,Qo,Qp,Qq,Qr,Qs,implies_true,Qt,Qu,Qv,Qw,Qx,Qy,Qz,QA,QB,QC,QD,QE,QF,QG,QH,QI,QJ,QK,QL,QM,QN,QO,QP,QQ]
     have st2:List.take (acc.length*2) (celsD acc1)++[D.bool true,D.str ByteArray.empty]++List.drop (acc.length*2+2) (celsD acc1)=celsD acc2:=st
     rw [st2]
     first
     | exact ⟨by rw [celsD_length];omega,(acc2,n,p3+1),⟨by simp only;omega,h4,h3⟩,by simp only;omega,⟨[some 0,some 1,some 2,some 5],rfl,by simp,by simp [setsA,keepA,SWeak,AWeak],by simp [HWeak,BWeak,SWeak,AWeak,tl2]⟩⟩
    ·rw [if_neg q] at h2
     have q0:(pk t p3 6=0)=False:=eq_false q
     have h4:r=(acc++[(x,false)])++(tmL t kind n (p3+1)).1:=by rw [h2];simp
     generalize acc++[(x,false)]=acc2 at *
     simp (config:={maxSteps:=1000000}) (disch:=((try simp only [awL]);omega)) only [QR,QS,QT,QU,QV,QW,QX,QY,QZ,Q0,Q1,Q2,al,q0,↓awU,awV,awF,Qa,Qb,Qc,Qd,forall_const,↓reduceIte,↓reduceDIte,↓Qe,Qf,Qg,Qh,Qi,Qj,Qk,Ql,Qm,Qn,Qo,Qp,Qq,Qr,Qs,implies_true,Qt,Qu,Qv,Qw,Qx,Qy,Qz,QA,QB,QC,QD,QE,QF,QG,QH,QI,QJ,QK,QL,QM,QN,QO,QP,QQ]
     first
     | exact ⟨(acc2,n,p3+1),⟨by simp only;omega,h4,h3⟩,by simp only;omega,⟨[some 0,some 1,some 2,some 5],rfl,by simp,by simp [setsA,keepA,SWeak,AWeak],by simp [HWeak,BWeak,SWeak,AWeak,tl]⟩⟩
   ·have e70:(pk t p 7=0)=False:=eq_false e7
    simp only [if_neg e7] at h2 h3
    simp (config:={maxSteps:=1000000}) (disch:=((try simp only [awL]);omega)) only [QR,QS,QT,QU,QV,QW,QX,QY,QZ,Q0,Q1,Q2,e70,al,↓awU,awV,awF,Qa,Qb,Qc,Qd,forall_const,↓reduceIte,↓reduceDIte,↓Qe,Qf,Qg,Qh,Qi,Qj,Qk,Ql,Qm,Qn,Qo,Qp,Qq,Qr,Qs,implies_true,Qt,Qu,Qv,Qw,Qx,Qy,Qz,QA,QB,QC,QD,QE,QF,QG,QH,QI,QJ,QK,QL,QM,QN,QO,QP,QQ]
    refine CallC.by (field_mspec t (p+1) kind ht (by omega)) (by rfl) (by rfl) (Nat.le_refl _) ?_
    have xl:=(fieldM_ok t (p+1) kind).2
    generalize fieldM t (p+1) kind=x at *
    generalize fieldK t (p+1) kind=p3 at *
    have sp:=celsD_pushY acc (x,false)
    have tl:(acc++[(x,false)]).length=acc.length+1:=by simp
    have st:=@celsD_setY acc (x,false) ([],true)
    simp only at sp
    have cu2:cut [D.bool false,D.str (bs x)] 0 2=[D.bool false,D.str (bs x)]:=rfl
    simp (config:={maxSteps:=1000000}) (disch:=((try simp only [awL]);omega)) only [QR,QS,QT,QU,QV,QW,QX,QY,QZ,Q0,Q1,Q2,al,cu2,sp,List.length_cons,List.length_nil,↓awU,awV,awF,Qa,Qb,Qc,Qd,forall_const,↓reduceIte,↓reduceDIte,↓Qe,Qf,Qg,Qh,Qi,Qj,Qk,Ql,Qm,Qn,Qo,Qp,Qq,Qr,Qs,implies_true,Qt,Qu,Qv,Qw,Qx,Qy,Qz,QA,QB,QC,QD,QE,QF,QG,QH,QI,QJ,QK,QL,QM,QN,QO,QP,QQ]
    try refine ⟨by rfl,?_⟩
    try simp (config:={maxSteps:=1000000}) (disch:=((try simp only [awL]);omega)) only [QR,QS,QT,QU,QV,QW,QX,QY,QZ,Q0,Q1,Q2,al,cu2,sp,List.length_cons,List.length_nil,↓awU,awV,awF,Qa,Qb,Qc,Qd,forall_const,↓reduceIte,↓reduceDIte,↓Qe,Qf,Qg,Qh,Qi,Qj,Qk,Ql,Qm,Qn,Qo,Qp,Qq,Qr,Qs,implies_true,Qt,Qu,Qv,Qw,Qx,Qy,Qz,QA,QB,QC,QD,QE,QF,QG,QH,QI,QJ,QK,QL,QM,QN,QO,QP,QQ]
    refine CallC.by (pick_spec t p3 6 ht (by decide) (by decide)) (by rfl) (by rfl) (Nat.le_refl _) ?_
    by_cases q:pk t p3 6=0
    ·rw [if_pos q] at h2
     rw [q]
     have h4:r=(acc++[([],true)])++(tmL t kind n (p3+1)).1:=by rw [h2];simp
     have tl2:(acc++[(([],true):Cel)]).length=acc.length+1:=by simp
     generalize acc++[(x,false)]=acc1 at *
     generalize acc++[(([],true):Cel)]=acc2 at *
     simp (config:={maxSteps:=1000000}) (disch:=((try simp only [awL]);omega)) only [QR,QS,QT,QU,QV,QW,QX,QY,QZ,Q0,Q1,Q2,al,tl,↓awU,awV,awF,Qa,Qb,Qc,Qd,forall_const,↓reduceIte,↓reduceDIte,↓Qe,Qf,Qg,Qh,Qi,Qj,Qk,Ql,Qm,Qn,Qo,Qp,Qq,Qr,Qs,implies_true,Qt,Qu,Qv,Qw,Qx,Qy,Qz,QA,QB,QC,QD,QE,QF,QG,QH,QI,QJ,QK,QL,QM,QN,QO,QP,QQ]
     have st2:List.take (acc.length*2) (celsD acc1)++[D.bool true,D.str ByteArray.empty]++List.drop (acc.length*2+2) (celsD acc1)=celsD acc2:=st
     rw [st2]
     first
     | exact ⟨by rw [celsD_length];omega,(acc2,n,p3+1),⟨by simp only;omega,h4,h3⟩,by simp only;omega,⟨[some 0,some 1,some 2,some 5],rfl,by simp,by simp [setsA,keepA,SWeak,AWeak],by simp [HWeak,BWeak,SWeak,AWeak,tl2]⟩⟩
    ·rw [if_neg q] at h2
     have q0:(pk t p3 6=0)=False:=eq_false q
     have h4:r=(acc++[(x,false)])++(tmL t kind n (p3+1)).1:=by rw [h2];simp
     generalize acc++[(x,false)]=acc2 at *
     simp (config:={maxSteps:=1000000}) (disch:=((try simp only [awL]);omega)) only [QR,QS,QT,QU,QV,QW,QX,QY,QZ,Q0,Q1,Q2,al,q0,↓awU,awV,awF,Qa,Qb,Qc,Qd,forall_const,↓reduceIte,↓reduceDIte,↓Qe,Qf,Qg,Qh,Qi,Qj,Qk,Ql,Qm,Qn,Qo,Qp,Qq,Qr,Qs,implies_true,Qt,Qu,Qv,Qw,Qx,Qy,Qz,QA,QB,QC,QD,QE,QF,QG,QH,QI,QJ,QK,QL,QM,QN,QO,QP,QQ]
     first
     | exact ⟨(acc2,n,p3+1),⟨by simp only;omega,h4,h3⟩,by simp only;omega,⟨[some 0,some 1,some 2,some 5],rfl,by simp,by simp [setsA,keepA,SWeak,AWeak],by simp [HWeak,BWeak,SWeak,AWeak,tl]⟩⟩
end Go.Proofs.YtdpjcghiegggbaaGreatDoor
namespace Go.Proofs.YtdpjcghiegggbaaGreatDoor.Dst
open Go Go.Proofs Go.Abs
variable {G:Globals}
def strs (l:List (List UInt8)):List D:=l.map fun s=>S s
theorem strs_length {l:List (List UInt8)}:(strs l).length=l.length:=by simp [strs]
theorem strs_unf {l:List (List UInt8)}:(strs l).map unf0=strs l:=by simp [strs,unf0]
theorem strs_getD {l:List (List UInt8)} {i:Nat} (h:i<l.length):(strs l).getD i .nilp=S (l.getD i []):=by
 simp [strs,List.getD_eq_getElem?_getD,h]
abbrev Ss (l:List (List UInt8)) (full:Bool):D:=.sl l.length full (strs l)
end Go.Proofs.YtdpjcghiegggbaaGreatDoor.Dst
namespace Go.Proofs.YtdpjcghiegggbaaGreatDoor.Dst
open Go Go.Proofs Go.Abs
variable {G:Globals}
end Go.Proofs.YtdpjcghiegggbaaGreatDoor.Dst
namespace Go.Proofs.YtdpjcghiegggbaaGreatDoor.Dst
open Go Go.Proofs Go.Abs
variable {G:Globals}
end Go.Proofs.YtdpjcghiegggbaaGreatDoor.Dst
namespace Go.Proofs.YtdpjcghiegggbaaGreatDoor.Dst
open Go Go.Proofs Go.Abs
variable {G:Globals}
end Go.Proofs.YtdpjcghiegggbaaGreatDoor.Dst
namespace Go.Proofs.YtdpjcghiegggbaaGreatDoor.Dst
open Go Go.Proofs Go.Abs
variable {G:Globals}
end Go.Proofs.YtdpjcghiegggbaaGreatDoor.Dst
namespace Go.Proofs.YtdpjcghiegggbaaGreatDoor.Dst
open Go Go.Proofs Go.Abs
variable {G:Globals}
end Go.Proofs.YtdpjcghiegggbaaGreatDoor.Dst
namespace Go.Proofs.YtdpjcghiegggbaaGreatDoor.Dst
open Go Go.Proofs Go.Abs
variable {G:Globals}
abbrev Ru (kind lim num den:Int):D:=.agg [.int .i64 kind,.int .i64 lim,.int .i64 num,.int .i64 den]
end Go.Proofs.YtdpjcghiegggbaaGreatDoor.Dst
namespace Go.Proofs.YtdpjcghiegggbaaGreatDoor.Dst
open Go Go.Proofs Go.Abs
variable {G:Globals}
end Go.Proofs.YtdpjcghiegggbaaGreatDoor.Dst
namespace Go.Proofs.YtdpjcghiegggbaaGreatDoor.Dst
open Go Go.Proofs Go.Abs
variable {G:Globals}
abbrev DiceM (t:List Int) (k:Nat):ABlk:=.box [.d (.sl t.length false (ints .u8 t)),.d (.int .i64 (min k t.length:Nat))]
def OkM (t:List Int):Prop:=t.length≤300∧∀ i,0≤t.getD i 0∧t.getD i 0≤255
theorem new_spec (t:List Int) (ht:t.length≤9223372036854775807):Ctr Tryz.prog G 13 [.d (.sl t.length false (ints .u8 t))] [] (.ptr 0 0) [DiceM (t.take 300) 0]:=by
 refine Ctr.body (M:=M0) hmix Tryz.func13 rfl go13 ?_
 rcases Nat.lt_or_ge 300 t.length with h | h
 ·have e:(t.take 300).length=300:=by rw [List.length_take];omega
  simp (config:={maxSteps:=1000000}) (disch:=((try simp only [awL]);omega)) only [Tryz.f13,e,↓awU,awV,awF,Qa,Qb,Qc,Qd,forall_const,↓reduceIte,↓reduceDIte,↓Qe,Qf,Qg,Qh,Qi,Qj,Qk,Ql,Qm,Qn,Qo,Qp,Qq,Qr,Qs,implies_true,Qt,Qu,Qv,Qw,Qx,Qy,Qz,QA,QB,QC,QD,QE,QF,QG,QH,QI,QJ,QK,QL,QM,QN,QO,QP,QQ]
  exact ⟨[some 0],rfl,by simp,by simp [HWeak,BWeak,SWeak,AWeak];omega,.inl (by simp [AWeak])⟩
 ·have e:t.take 300=t:=List.take_of_length_le h
  simp (config:={maxSteps:=1000000}) (disch:=((try simp only [awL]);omega)) only [Tryz.f13,e,↓awU,awV,awF,Qa,Qb,Qc,Qd,forall_const,↓reduceIte,↓reduceDIte,↓Qe,Qf,Qg,Qh,Qi,Qj,Qk,Ql,Qm,Qn,Qo,Qp,Qq,Qr,Qs,implies_true,Qt,Qu,Qv,Qw,Qx,Qy,Qz,QA,QB,QC,QD,QE,QF,QG,QH,QI,QJ,QK,QL,QM,QN,QO,QP,QQ]
  exact ⟨[some 0],rfl,by simp,by simp [HWeak,BWeak,SWeak,AWeak],.inl (by simp [AWeak,SWeak])⟩
def pk (t:List Int) (k:Nat) (n:Int):Int:=t.getD k 0 % n
theorem pk_range {t:List Int} {k:Nat} {n:Int} (h:0<n):0≤pk t k n∧pk t k n<n:=⟨Int.emod_nonneg _ (by omega),Int.emod_lt_of_pos _ h⟩
theorem pk_nat (t:List Int) (k:Nat) (n:Int) (h:0<n):∃ c:Nat,pk t k n=c∧(c:Int)<n:=⟨(pk t k n).toNat,by have:=@pk_range t k n h;omega,by have:=@pk_range t k n h;omega⟩
set_option maxHeartbeats 4000000 in
set_option maxRecDepth 100000 in
theorem pick_spec (t:List Int) (k:Nat) (n:Int) (ht:OkM t) (h0:0<n) (h1:n≤1000) :
  Ctr Tryz.prog G 41 [.ptr 0 0,.d (.int .i64 n)] [DiceM t k] (.d (.int .i64 (pk t k n))) [DiceM t (k+1)]:=by
 obtain ⟨ht,htt⟩:=ht
 refine Ctr.body (M:=M0) hmix Tryz.func41 rfl go41 ?_
 rcases Nat.lt_or_ge k t.length with h | h
 ·have e1:min k t.length=k:=by omega
  have e2:min (k+1) t.length=k+1:=by omega
  obtain ⟨b1,b2⟩:=htt k
  have e3:(t.getD k 0).tmod n=pk t k n:=Int.tmod_eq_emod_of_nonneg b1
  simp only [e1,e2,DiceM]
  simp (config:={maxSteps:=1000000}) (disch:=((try simp only [awL]);omega)) only [Tryz.f41,e3,↓awU,awV,awF,Qa,Qb,Qc,Qd,forall_const,↓reduceIte,↓reduceDIte,↓Qe,Qf,Qg,Qh,Qi,Qj,Qk,Ql,Qm,Qn,Qo,Qp,Qq,Qr,Qs,implies_true,Qt,Qu,Qv,Qw,Qx,Qy,Qz,QA,QB,QC,QD,QE,QF,QG,QH,QI,QJ,QK,QL,QM,QN,QO,QP,QQ]
  refine ⟨by rfl,by rfl,?_⟩
  exact ⟨[some 0],rfl,by simp,by simp [HWeak,BWeak,SWeak,AWeak],.inl (by simp [AWeak,SWeak])⟩
 ·have e1:min k t.length=t.length:=by omega
  have e2:min (k+1) t.length=t.length:=by omega
  have e3:pk t k n=0:=by rw [pk,List.getD_eq_getElem?_getD,List.getElem?_eq_none h];simp
  simp only [e1,e2,e3,DiceM]
  simp (config:={maxSteps:=1000000}) (disch:=((try simp only [awL]);omega)) only [Tryz.f41,↓awU,awV,awF,Qa,Qb,Qc,Qd,forall_const,↓reduceIte,↓reduceDIte,↓Qe,Qf,Qg,Qh,Qi,Qj,Qk,Ql,Qm,Qn,Qo,Qp,Qq,Qr,Qs,implies_true,Qt,Qu,Qv,Qw,Qx,Qy,Qz,QA,QB,QC,QD,QE,QF,QG,QH,QI,QJ,QK,QL,QM,QN,QO,QP,QQ]
  refine ⟨by rfl,?_⟩
  exact ⟨[some 0],rfl,by simp,by simp [HWeak,BWeak,SWeak,AWeak],.inl (by simp [AWeak,SWeak])⟩
set_option maxRecDepth 100000 in
theorem words_spec:Ctr Tryz.prog G 43 [] [] (.d (Ss wordsL false)) []:=by
 refine Ctr.pure (M:=M0) hmix Tryz.func43 rfl go43 ?_
 simp (config:={maxSteps:=1000000}) (disch:=((try simp only [awL]);omega)) only [QR,QS,QT,QU,QV,QW,QX,QY,QZ,Q0,Q1,Q2,Tryz.f43,↓awU,awV,awF,Qa,Qb,Qc,Qd,forall_const,↓reduceIte,↓reduceDIte,↓Qe,Qf,Qg,Qh,Qi,Qj,Qk,Ql,Qm,Qn,Qo,Qp,Qq,Qr,Qs,implies_true,Qt,Qu,Qv,Qw,Qx,Qy,Qz,QA,QB,QC,QD,QE,QF,QG,QH,QI,QJ,QK,QL,QM,QN,QO,QP,QQ]
 try rfl
end Go.Proofs.YtdpjcghiegggbaaGreatDoor.Dst
namespace Go.Proofs.YtdpjcghiegggbaaGreatDoor.Dst
open Go Go.Proofs Go.Abs
variable {G:Globals}
end Go.Proofs.YtdpjcghiegggbaaGreatDoor.Dst
namespace Go.Proofs.YtdpjcghiegggbaaGreatDoor.Dst
open Go Go.Proofs Go.Abs
variable {G:Globals}
structure RuV where
 kind:Int
 lim:Int
 num:Int
 den:Int
abbrev RuV.D (r:RuV):D:=Ru r.kind r.lim r.num r.den
end Go.Proofs.YtdpjcghiegggbaaGreatDoor.Dst
namespace Go.Proofs.YtdpjcghiegggbaaGreatDoor.Dst
open Go Go.Proofs Go.Abs
variable {G:Globals}
end Go.Proofs.YtdpjcghiegggbaaGreatDoor.Dst
namespace Go.Proofs.YtdpjcghiegggbaaGreatDoor
open Go Go.Proofs Go.Abs
variable {G:Globals}
set_option maxRecDepth 100000 in
theorem ex_dec:Num.decOk (Lib.trimB [43,48,48,55,46,53,48] 32)=true∧canD (Lib.trimB [43,48,48,55,46,53,48] 32)=[55,46,53]∧Num.decOk (Lib.trimB [45,48,46,48] 32)=true∧canD (Lib.trimB [45,48,46,48] 32)=[48]:=by decide +kernel
theorem ex_day:okDt 1969 12 31=true∧dayV 1969 12 31=-1:=by decide +kernel
theorem ex_date:IsDt (0+719162) 1970 0 0:=by unfold IsDt;decide +kernel
set_option maxHeartbeats 4000000 in
set_option maxRecDepth 100000 in
theorem tsane_spec (hG:Num.HG G):Ctr Tryz.prog G 8 [] [] (.d (.bool true)) []:=by
 refine Ctr.pure (M:=M0) hmix Tryz.func8 rfl go8 ?_
 obtain ⟨a1,a2,a3,a4⟩:=ex_dec
 have s1:=canon4_spec hG [43,48,48,55,46,53,48] (by decide)
 have s2:=canon4_spec hG [45,48,46,48] (by decide)
 rw [a1,if_pos rfl,a2] at s1
 rw [a3,if_pos rfl,a4] at s2
 have s3:=day_spec (G:=G) 1969 12 31 (by decide) (by decide) (by decide) (by decide) (by decide) (by decide)
 rw [ex_day.1,ex_day.2] at s3
 have s4:=tdate_spec (G:=G) 0 ex_date
 simp (config:={maxSteps:=1000000}) (disch:=((try simp only [awL]);omega)) only [QR,QS,QT,QU,QV,QW,QX,QY,QZ,Q0,Q1,Q2,Tryz.f8,↓awU,awV,awF,Qa,Qb,Qc,Qd,forall_const,↓reduceIte,↓reduceDIte,↓Qe,Qf,Qg,Qh,Qi,Qj,Qk,Ql,Qm,Qn,Qo,Qp,Qq,Qr,Qs,implies_true,Qt,Qu,Qv,Qw,Qx,Qy,Qz,QA,QB,QC,QD,QE,QF,QG,QH,QI,QJ,QK,QL,QM,QN,QO,QP,QQ]
 refine CallC.of s1 (by rfl) ?_
 simp (config:={maxSteps:=1000000}) (disch:=((try simp only [awL]);omega)) only [QR,QS,QT,QU,QV,QW,QX,QY,QZ,Q0,Q1,Q2,↓awU,awV,awF,Qa,Qb,Qc,Qd,forall_const,↓reduceIte,↓reduceDIte,↓Qe,Qf,Qg,Qh,Qi,Qj,Qk,Ql,Qm,Qn,Qo,Qp,Qq,Qr,Qs,implies_true,Qt,Qu,Qv,Qw,Qx,Qy,Qz,QA,QB,QC,QD,QE,QF,QG,QH,QI,QJ,QK,QL,QM,QN,QO,QP,QQ]
 refine CallC.of s2 (by rfl) ?_
 simp (config:={maxSteps:=1000000}) (disch:=((try simp only [awL]);omega)) only [QR,QS,QT,QU,QV,QW,QX,QY,QZ,Q0,Q1,Q2,↓awU,awV,awF,Qa,Qb,Qc,Qd,forall_const,↓reduceIte,↓reduceDIte,↓Qe,Qf,Qg,Qh,Qi,Qj,Qk,Ql,Qm,Qn,Qo,Qp,Qq,Qr,Qs,implies_true,Qt,Qu,Qv,Qw,Qx,Qy,Qz,QA,QB,QC,QD,QE,QF,QG,QH,QI,QJ,QK,QL,QM,QN,QO,QP,QQ]
 refine CallC.of s3 (by rfl) ?_
 simp (config:={maxSteps:=1000000}) (disch:=((try simp only [awL]);omega)) only [QR,QS,QT,QU,QV,QW,QX,QY,QZ,Q0,Q1,Q2,↓awU,awV,awF,Qa,Qb,Qc,Qd,forall_const,↓reduceIte,↓reduceDIte,↓Qe,Qf,Qg,Qh,Qi,Qj,Qk,Ql,Qm,Qn,Qo,Qp,Qq,Qr,Qs,implies_true,Qt,Qu,Qv,Qw,Qx,Qy,Qz,QA,QB,QC,QD,QE,QF,QG,QH,QI,QJ,QK,QL,QM,QN,QO,QP,QQ]
 refine CallC.of s4 (by rfl) ?_
 simp (config:={maxSteps:=1000000}) (disch:=((try simp only [awL]);omega)) only [QR,QS,QT,QU,QV,QW,QX,QY,QZ,Q0,Q1,Q2,↓awU,awV,awF,Qa,Qb,Qc,Qd,forall_const,↓reduceIte,↓reduceDIte,↓Qe,Qf,Qg,Qh,Qi,Qj,Qk,Ql,Qm,Qn,Qo,Qp,Qq,Qr,Qs,implies_true,Qt,Qu,Qv,Qw,Qx,Qy,Qz,QA,QB,QC,QD,QE,QF,QG,QH,QI,QJ,QK,QL,QM,QN,QO,QP,QQ]
 first | done | rfl | decide
end Go.Proofs.YtdpjcghiegggbaaGreatDoor
namespace Go.Proofs.YtdpjcghiegggbaaGreatDoor
open Go Go.Proofs Go.Abs
variable {G:Globals}
theorem nmK_inj {a b:Int} (ha:kOf a) (hb:kOf b) (h:nmK a=nmK b):a=b:=by
 have e1:nmdK (nmK a)=a:=nmd_of ha
 have e2:nmdK (nmK b)=b:=nmd_of hb
 rw [← e1,← e2,h]
theorem opts_at (l:List Cel) {i:Nat} (h:i<5):∃ k,kOf k∧(optsT l).getD i noO=optT l k∧((optC (optsT l)).drop (i*3)).take 3=(optT l k).cells:=by
 have ln:=optsT_len l
 obtain ⟨k,hk,e⟩:=opts_mem.1 (memD (d:=noO) (show i<(optsT l).length by omega))
 refine ⟨k,hk,e,?_⟩
 rw [optC_get (l:=optsT l) (k:=i) (by omega),e]
def fndO (L:List Opt) (s:List UInt8) (j:Nat):Bool:=(L.take j).any fun p=>decide (p.txt=s)
theorem fndO_step {L:List Opt} {s:List UInt8} {j:Nat} (h:j<L.length):fndO L s (j+1)=(fndO L s j || decide ((L.getD j noO).txt=s)):=by
 unfold fndO
 rw [List.take_add_one,getD_some (d:=noO) h];simp
theorem fndO_all {l:List Cel} {k:Int} (h:kOf k):fndO (optsT l) (nmK k) 5=true:=by
 unfold fndO
 rw [List.take_of_length_le (by rw [optsT_len];exact Nat.le_refl _)]
 exact List.any_eq_true.2 ⟨_,opts_mem.2 ⟨k,h,rfl⟩,decide_eq_true rfl⟩
theorem gsT_kOf (l:List Cel):kOf (gsT l):=by
 obtain ⟨k,hk,_,_,e⟩:=gsT_of l
 rw [e]
 split
 ·exact .inl rfl
 ·exact hk
theorem gsT_fits (l:List Cel):l.all (fitT (gsT l))=true:=by
 obtain ⟨k,hk,_,z,e⟩:=gsT_of l
 rw [e,List.all_eq_true]
 intro x hx
 unfold fitT
 split
 ·next c =>
  have:=List.countP_eq_zero.1 c x hx
  unfold vsT at this
  cases q:x.2<;>simp_all
 ·have:=List.countP_eq_zero.1 z x hx
  unfold noT at this
  cases q:x.2<;>simp_all
theorem tapE_pre {l m:List Cel}:tapE (gsT (l++m)) l=0:=by
 have h:=gsT_fits (l++m)
 rw [List.all_append] at h
 unfold tapE
 rw [if_pos (gsT_kOf _),if_pos (by rw [Bool.and_eq_true] at h;exact h.1)]
theorem tapR_any (nm:List UInt8) {k:Int} (h:kOf k) (l:List Cel):∃ c n,(c=[]∨True)∧tapR nm k l=.tup [.agg [S c,CelS n false],.int .i64 (tapE k l)]∧(tapE k l=0∨tapE k l=4):=by
 unfold tapR
 by_cases e:tapE k l=0
 ·rw [if_pos e];exact ⟨nm,l.map (apT k),.inr trivial,rfl,.inl e⟩
 ·rw [if_neg e]
  refine ⟨[],[],.inl rfl,rfl,.inr ?_⟩
  unfold tapE at e ⊢
  rw [if_pos h] at e ⊢
  split at e
  ·exact absurd rfl e
  ·next q=>rw [if_neg q]
theorem cutAT (L:List D) (n:Nat) (h:L.length≤n):cut L 0 n=L:=by unfold cut;rw [List.drop_zero,List.take_of_length_le h]
set_option maxHeartbeats 32000000 in
set_option maxRecDepth 100000 in
theorem tmore_law (hG:Num.HG G) (hE:HE G) (hP:HP G) (hO:HO G) (t:List Int) (ht:OkS t) (hl:t.length≤9223372036854775807) :
  Ctr Tryz.prog G 5 [.d (.sl t.length false (ints .u8 t))] [] (.d (.bool true)) []:=by
 refine Ctr.pure (M:=M0) hmix Tryz.func5 rfl go5 ?_
 have hmm:=ht.take
 simp (config:={maxSteps:=1000000}) (disch:=((try simp only [awL]);omega)) only [QR,QS,QT,QU,QV,QW,QX,QY,QZ,Q0,Q1,Q2,Tryz.f5,↓awU,awV,awF,Qa,Qb,Qc,Qd,forall_const,↓reduceIte,↓reduceDIte,↓Qe,Qf,Qg,Qh,Qi,Qj,Qk,Ql,Qm,Qn,Qo,Qp,Qq,Qr,Qs,implies_true,Qt,Qu,Qv,Qw,Qx,Qy,Qz,QA,QB,QC,QD,QE,QF,QG,QH,QI,QJ,QK,QL,QM,QN,QO,QP,QQ]
 refine CallC.pure (tsane_spec (G:=G) hG) ?_
 simp (config:={maxSteps:=1000000}) (disch:=((try simp only [awL]);omega)) only [QR,QS,QT,QU,QV,QW,QX,QY,QZ,Q0,Q1,Q2,↓awU,awV,awF,Qa,Qb,Qc,Qd,forall_const,↓reduceIte,↓reduceDIte,↓Qe,Qf,Qg,Qh,Qi,Qj,Qk,Ql,Qm,Qn,Qo,Qp,Qq,Qr,Qs,implies_true,Qt,Qu,Qv,Qw,Qx,Qy,Qz,QA,QB,QC,QD,QE,QF,QG,QH,QI,QJ,QK,QL,QM,QN,QO,QP,QQ]
 refine CallC.by (new_spec t hl) (by rfl) (by rfl) (Nat.zero_le _) ?_
 generalize t.take 300=t0 at *
 simp (config:={maxSteps:=1000000}) (disch:=((try simp only [awL]);omega)) only [QR,QS,QT,QU,QV,QW,QX,QY,QZ,Q0,Q1,Q2,↓awU,awV,awF,Qa,Qb,Qc,Qd,forall_const,↓reduceIte,↓reduceDIte,↓Qe,Qf,Qg,Qh,Qi,Qj,Qk,Ql,Qm,Qn,Qo,Qp,Qq,Qr,Qs,implies_true,Qt,Qu,Qv,Qw,Qx,Qy,Qz,QA,QB,QC,QD,QE,QF,QG,QH,QI,QJ,QK,QL,QM,QN,QO,QP,QQ]
 refine CallC.by (tmade_spec t0 0 hmm) (by rfl) (by rfl) (Nat.le_refl _) ?_
 have l7:=(madeT_ok t0 0).1
 have x30:=(madeT_ok t0 0).2
 generalize madeTK t0 0=k2 at *
 generalize madeT t0 0=l at *
 have lc:=celsD_length l
 simp (config:={maxSteps:=1000000}) (disch:=((try simp only [awL]);omega)) only [QR,QS,QT,QU,QV,QW,QX,QY,QZ,Q0,Q1,Q2,lc,↓awU,awV,awF,Qa,Qb,Qc,Qd,forall_const,↓reduceIte,↓reduceDIte,↓Qe,Qf,Qg,Qh,Qi,Qj,Qk,Ql,Qm,Qn,Qo,Qp,Qq,Qr,Qs,implies_true,Qt,Qu,Qv,Qw,Qx,Qy,Qz,QA,QB,QC,QD,QE,QF,QG,QH,QI,QJ,QK,QL,QM,QN,QO,QP,QQ]
 refine CallC.by (tmade_spec t0 k2 hmm) (by rfl) (by rfl) (Nat.le_refl _) ?_
 have m7:=(madeT_ok t0 k2).1
 have y30:=(madeT_ok t0 k2).2
 generalize madeTK t0 k2=k3 at *
 generalize madeT t0 k2=l2 at *
 have lc2:=celsD_length l2
 have ok:okY l:=⟨by omega,fun x hx=>by have:=x30 x hx;omega⟩
 have okm:okY (l++l2):=⟨by simp;omega,fun x hx=>by
  rcases List.mem_append.1 hx with hx | hx
  ·have:=x30 x hx;omega
  ·have:=y30 x hx;omega⟩
 have lm:(l++l2).length=l.length+l2.length:=by simp
 have ap:celsD l++celsD l2=celsD (l++l2):=(celsD_app l l2).symm
 have cu2:cut (celsD l2) 0 (l2.length*2)=celsD l2:=cutAT _ _ (by omega)
 simp (config:={maxSteps:=1000000}) (disch:=((try simp only [awL]);omega)) only [QR,QS,QT,QU,QV,QW,QX,QY,QZ,Q0,Q1,Q2,lc,lc2,cu2,ap,↓awU,awV,awF,Qa,Qb,Qc,Qd,forall_const,↓reduceIte,↓reduceDIte,↓Qe,Qf,Qg,Qh,Qi,Qj,Qk,Ql,Qm,Qn,Qo,Qp,Qq,Qr,Qs,implies_true,Qt,Qu,Qv,Qw,Qx,Qy,Qz,QA,QB,QC,QD,QE,QF,QG,QH,QI,QJ,QK,QL,QM,QN,QO,QP,QQ]
 have cu3:cut (celsD (l++l2)) 0 ((l.length+l2.length)*2)=celsD (l++l2):=cutAT _ _ (by rw [celsD_length,lm];omega)
 have lcm:=celsD_length (l++l2)
 rw [lm] at lcm
 have gl1:=gsT_kOf l
 have gm1:=gsT_kOf (l++l2)
 have oc:=toptions_spec hG hE hP hO [99] l false ok
 have om:=toptions_spec hG hE hP hO [99] (l++l2) false okm
 have ap1:=tapply_spec hG hE hP [99] (l++l2) false okm (gsT l) (by unfold kOf at gl1;omega) (by unfold kOf at gl1;omega)
 have ap2:=tapply_spec hG hE hP [99] l false ok (gsT (l++l2)) (by unfold kOf at gm1;omega) (by unfold kOf at gm1;omega)
 have gs1:=guess_spec hG hE hP hO [99] l false ok
 have gs2:=guess_spec hG hE hP hO [99] (l++l2) false okm
 have pre:=@tapE_pre l l2
 obtain ⟨c1,n1,-,r1,r1'⟩:=tapR_any [99] gl1 (l++l2)
 obtain ⟨c2,n2,-,r2,-⟩:=tapR_any [99] gm1 l
 rw [r1] at ap1
 rw [r2,pre] at ap2
 have on1:=optsT_len l
 have on2:=optsT_len (l++l2)
 rw [on1] at oc
 rw [on2] at om
 have ol1:=optC_length (optsT l)
 have ol2:=optC_length (optsT (l++l2))
 rw [on1] at ol1
 rw [on2] at ol2
 have cA:=fun (k:Int)=>cnt_T k l
 have c7:∀ k:Int,l.countP (isT k)≤7∧l.countP (noT k)≤7:=fun k=>⟨Nat.le_trans List.countP_le_length l7,Nat.le_trans List.countP_le_length l7⟩
 have m14:∀ k:Int,(l++l2).countP (isT k)=l.countP (isT k)+l2.countP (isT k)∧(l++l2).countP (noT k)=l.countP (noT k)+l2.countP (noT k):=fun k=>⟨List.countP_append,List.countP_append⟩
 have d7:∀ k:Int,l2.countP (isT k)≤7∧l2.countP (noT k)≤7:=fun k=>⟨Nat.le_trans List.countP_le_length m7,Nat.le_trans List.countP_le_length m7⟩
 have oA:=fun {i:Nat} (h:i<5)=>opts_at l h
 have oB:=fun {i:Nat} (h:i<5)=>opts_at (l++l2) h
 have fS:=fun (s:List UInt8) {j:Nat} (h:j<5)=>fndO_step (L:=optsT (l++l2)) (s:=s) (j:=j) (by omega)
 have fA:=fun {k:Int} (h:kOf k)=>fndO_all (l:=l++l2) h
 have okm':okY (l++l2):=okm
 unfold CelS at om ap1 ap2 gs1 gs2 oc
 rw [lm] at om ap1 gs2
 generalize gsT l=K1 at *
 generalize gsT (l++l2)=K2 at *
 generalize hM:optsT (l++l2)=M at *
 generalize hN:optsT l=N at *
 refine ⟨by rfl,?_⟩
 refine LoopC.fx 206158430256 (α:=Nat) (β:=Unit) (fun x=>l.length - x) (fun x=>[(6,.d (.int .i64 ((l.take x).countP vsT:Nat))),(38,.d (.int .i64 (x:Nat)))])
  (fun _=>[.dead,.box [.d (S [99]),.d (.sl l.length false (celsD l))],.dead,.dead,.row false (celsD (l++l2)),.box [.d (S [99]),.lsl 4 2 0 (l.length+l2.length)]]) (fun x=>x≤l.length)
  48 (fun _=>[(6,.d (.int .i64 (l.countP vsT:Nat)))]) (fun _=>[.dead,.box [.d (S [99]),.d (.sl l.length false (celsD l))],.dead,.dead,.row false (celsD (l++l2)),.box [.d (S [99]),.lsl 4 2 0 (l.length+l2.length)]]) (fun _=>True) 0 (Nat.zero_le _) ?_ ?_ ?_
 ·first | exact ⟨[some 0,some 1,some 2,some 3,some 4,some 5],rfl,by simp,by simp [setsA,keepA,SWeak,AWeak],by simp [HWeak,BWeak,SWeak,AWeak]⟩
 ·intro i h1
  have ct:=countP_le_n9 vsT (m:=7) l7 i
  simp only [awK,Nat.reduceMod,Nat.reduceDiv,reduceIte]
  rcases Nat.lt_or_ge i l.length with h | h
  ·have gc:=celsD_get h
   have co:=countP_step9 vsT h
   generalize l.getD i noC=x at *
   obtain ⟨tx,nul⟩:=x
   have gc:((celsD l).drop (i*2)).take 2=[.bool nul,S tx]:=gc
   cases nul
   ·rw [show vsT (tx,false)=true from rfl,if_pos rfl] at co
    simp (config:={maxSteps:=1000000}) (disch:=((try simp only [awL]);omega)) only [QR,QS,QT,QU,QV,QW,QX,QY,QZ,Q0,Q1,Q2,lc,gc,↓awU,awV,awF,Qa,Qb,Qc,Qd,forall_const,↓reduceIte,↓reduceDIte,↓Qe,Qf,Qg,Qh,Qi,Qj,Qk,Ql,Qm,Qn,Qo,Qp,Qq,Qr,Qs,implies_true,Qt,Qu,Qv,Qw,Qx,Qy,Qz,QA,QB,QC,QD,QE,QF,QG,QH,QI,QJ,QK,QL,QM,QN,QO,QP,QQ]
    first
    | exact ⟨i+1,h,by simp only;omega,⟨[some 0,some 1,some 2,some 3,some 4,some 5],rfl,by simp,by simp [setsA,keepA,SWeak,AWeak,co],by simp [HWeak,BWeak,SWeak,AWeak]⟩⟩
    | exact ⟨by rfl,i+1,h,by simp only;omega,⟨[some 0,some 1,some 2,some 3,some 4,some 5],rfl,by simp,by simp [setsA,keepA,SWeak,AWeak,co],by simp [HWeak,BWeak,SWeak,AWeak]⟩⟩
   ·rw [show vsT (tx,true)=false from rfl,if_neg Bool.false_ne_true,Nat.add_zero] at co
    simp (config:={maxSteps:=1000000}) (disch:=((try simp only [awL]);omega)) only [QR,QS,QT,QU,QV,QW,QX,QY,QZ,Q0,Q1,Q2,lc,gc,↓awU,awV,awF,Qa,Qb,Qc,Qd,forall_const,↓reduceIte,↓reduceDIte,↓Qe,Qf,Qg,Qh,Qi,Qj,Qk,Ql,Qm,Qn,Qo,Qp,Qq,Qr,Qs,implies_true,Qt,Qu,Qv,Qw,Qx,Qy,Qz,QA,QB,QC,QD,QE,QF,QG,QH,QI,QJ,QK,QL,QM,QN,QO,QP,QQ]
    first
    | exact ⟨i+1,h,by simp only;omega,⟨[some 0,some 1,some 2,some 3,some 4,some 5],rfl,by simp,by simp [setsA,keepA,SWeak,AWeak,co],by simp [HWeak,BWeak,SWeak,AWeak]⟩⟩
  ·have e:i=l.length:=by omega
   subst e
   simp (config:={maxSteps:=1000000}) (disch:=((try simp only [awL]);omega)) only [QR,QS,QT,QU,QV,QW,QX,QY,QZ,Q0,Q1,Q2,lc,List.take_length,↓awU,awV,awF,Qa,Qb,Qc,Qd,forall_const,↓reduceIte,↓reduceDIte,↓Qe,Qf,Qg,Qh,Qi,Qj,Qk,Ql,Qm,Qn,Qo,Qp,Qq,Qr,Qs,implies_true,Qt,Qu,Qv,Qw,Qx,Qy,Qz,QA,QB,QC,QD,QE,QF,QG,QH,QI,QJ,QK,QL,QM,QN,QO,QP,QQ]
   first | exact ⟨(),trivial,⟨[some 0,some 1,some 2,some 3,some 4,some 5],rfl,by simp,by simp [setsA,keepA,SWeak,AWeak],by simp [HWeak,BWeak,SWeak,AWeak]⟩⟩
 ·rintro ⟨⟩ -
  simp only [awK,Nat.reduceMod,Nat.reduceDiv,reduceIte]
  have ct:l.countP vsT≤7:=Nat.le_trans List.countP_le_length l7
  simp (config:={maxSteps:=1000000}) (disch:=((try simp only [awL]);omega)) only [QR,QS,QT,QU,QV,QW,QX,QY,QZ,Q0,Q1,Q2,lc,↓awU,awV,awF,Qa,Qb,Qc,Qd,forall_const,↓reduceIte,↓reduceDIte,↓Qe,Qf,Qg,Qh,Qi,Qj,Qk,Ql,Qm,Qn,Qo,Qp,Qq,Qr,Qs,implies_true,Qt,Qu,Qv,Qw,Qx,Qy,Qz,QA,QB,QC,QD,QE,QF,QG,QH,QI,QJ,QK,QL,QM,QN,QO,QP,QQ]
  refine CallC.of oc (by rfl) ?_
  simp (config:={maxSteps:=1000000}) (disch:=((try simp only [awL]);omega)) only [QR,QS,QT,QU,QV,QW,QX,QY,QZ,Q0,Q1,Q2,lc,ol1,↓awU,awV,awF,Qa,Qb,Qc,Qd,forall_const,↓reduceIte,↓reduceDIte,↓Qe,Qf,Qg,Qh,Qi,Qj,Qk,Ql,Qm,Qn,Qo,Qp,Qq,Qr,Qs,implies_true,Qt,Qu,Qv,Qw,Qx,Qy,Qz,QA,QB,QC,QD,QE,QF,QG,QH,QI,QJ,QK,QL,QM,QN,QO,QP,QQ]
  refine LoopC.fx 1688849860264048 (α:=Nat) (β:=Unit) (fun x=>5 - x) (fun x=>[(51,.d (.int .i64 (x:Nat)))])
   (fun _=>[.dead,.box [.d (S [99]),.d (.sl l.length false (celsD l))],.dead,.dead,.row true (celsD (l++l2)),.box [.d (S [99]),.lsl 4 2 0 (l.length+l2.length)]]) (fun x=>x≤5)
   48 (fun _=>[]) (fun _=>[.dead,.box [.d (S [99]),.d (.sl l.length false (celsD l))],.dead,.dead,.row true (celsD (l++l2)),.box [.d (S [99]),.lsl 4 2 0 (l.length+l2.length)]]) (fun _=>True) 0 (Nat.zero_le _) ?_ ?_ ?_
  ·first | exact ⟨[some 0,some 1,some 2,some 3,some 4,some 5],rfl,by simp,by simp [setsA,keepA,SWeak,AWeak],by simp [HWeak,BWeak,SWeak,AWeak]⟩
  ·intro i hi
   simp only [awK,Nat.reduceMod,Nat.reduceDiv,reduceIte]
   rcases Nat.lt_or_ge i 5 with h | h
   ·obtain ⟨k,hk,-,go⟩:=oA h
    have go:((optC N).drop (i*3)).take 3=[S (nmK k),.int .i64 (l.countP (isT k):Nat),.int .i64 (l.countP (noT k):Nat)]:=go
    have cAk:=cA k
    have c7k:=c7 k
    have m14k:=m14 k
    have d7k:=d7 k
    have fS:=fun {j:Nat} (h:j<5)=>fS (nmK k) h
    have fAk:=fA hk
    generalize l.countP (isT k)=f at *
    generalize l.countP (noT k)=g at *
    have fg:(f:Int)+g=((l.countP vsT:Nat):Int):=by omega
    simp (config:={maxSteps:=1000000}) (disch:=((try simp only [awL]);omega)) only [QR,QS,QT,QU,QV,QW,QX,QY,QZ,Q0,Q1,Q2,ol1,go,↓awU,awV,awF,Qa,Qb,Qc,Qd,forall_const,↓reduceIte,↓reduceDIte,↓Qe,Qf,Qg,Qh,Qi,Qj,Qk,Ql,Qm,Qn,Qo,Qp,Qq,Qr,Qs,implies_true,Qt,Qu,Qv,Qw,Qx,Qy,Qz,QA,QB,QC,QD,QE,QF,QG,QH,QI,QJ,QK,QL,QM,QN,QO,QP,QQ]
    refine CallC.frozenE om (by first | rfl | rw [cu3] | (rw [cu3];rfl)) ?_
    simp (config:={maxSteps:=1000000}) (disch:=((try simp only [awL]);omega)) only [QR,QS,QT,QU,QV,QW,QX,QY,QZ,Q0,Q1,Q2,ol2,↓awU,awV,awF,Qa,Qb,Qc,Qd,forall_const,↓reduceIte,↓reduceDIte,↓Qe,Qf,Qg,Qh,Qi,Qj,Qk,Ql,Qm,Qn,Qo,Qp,Qq,Qr,Qs,implies_true,Qt,Qu,Qv,Qw,Qx,Qy,Qz,QA,QB,QC,QD,QE,QF,QG,QH,QI,QJ,QK,QL,QM,QN,QO,QP,QQ]
    refine LoopC.fx 220113431787734128 (α:=Nat) (β:=Unit) (fun x=>5 - x) (fun x=>[(11,.d (.bool (fndO M (nmK k) x))),(58,.d (.int .i64 (x:Nat)))])
     (fun _=>[.dead,.box [.d (S [99]),.d (.sl l.length false (celsD l))],.dead,.dead,.row true (celsD (l++l2)),.box [.d (S [99]),.lsl 4 2 0 (l.length+l2.length)],.box [.d (S (nmK k)),.d (.int .i64 f),.d (.int .i64 g)]]) (fun x=>x≤5)
     3940649673950320 (fun _=>[(11,.d (.bool true))]) (fun _=>[.dead,.box [.d (S [99]),.d (.sl l.length false (celsD l))],.dead,.dead,.row true (celsD (l++l2)),.box [.d (S [99]),.lsl 4 2 0 (l.length+l2.length)],.box [.d (S (nmK k)),.d (.int .i64 f),.d (.int .i64 g)]]) (fun _=>True) 0 (Nat.zero_le _) ?_ ?_ ?_
    ·first | exact ⟨[some 0,some 1,some 2,some 3,some 4,some 5,some 6],rfl,by simp,by simp [setsA,keepA,SWeak,AWeak,fndO],by simp [HWeak,BWeak,SWeak,AWeak]⟩
    ·intro j hj
     simp only [awK,Nat.reduceMod,Nat.reduceDiv,reduceIte]
     rcases Nat.lt_or_ge j 5 with h5 | h5
     ·obtain ⟨k',hk',eo,go'⟩:=oB h5
      have st:=fS h5
      have eo:M.getD j noO=optT (l++l2) k':=eo
      rw [eo] at st
      have st:fndO M (nmK k) (j+1)=(fndO M (nmK k) j || decide (nmK k'=nmK k)):=st
      have go':((optC M).drop (j*3)).take 3=[S (nmK k'),.int .i64 ((l++l2).countP (isT k'):Nat),.int .i64 ((l++l2).countP (noT k'):Nat)]:=go'
      by_cases q:nmK k'=nmK k
      ·have qk:=nmK_inj hk' hk q
       subst qk
       rw [decide_eq_true rfl,Bool.or_true] at st
       rw [m14k.1,m14k.2] at go'
       generalize l2.countP (isT k')=f2 at *
       generalize l2.countP (noT k')=g2 at *
       simp (config:={maxSteps:=1000000}) (disch:=((try simp only [awL]);omega)) only [QR,QS,QT,QU,QV,QW,QX,QY,QZ,Q0,Q1,Q2,ol2,go',↓awU,awV,awF,Qa,Qb,Qc,Qd,forall_const,↓reduceIte,↓reduceDIte,↓Qe,Qf,Qg,Qh,Qi,Qj,Qk,Ql,Qm,Qn,Qo,Qp,Qq,Qr,Qs,implies_true,Qt,Qu,Qv,Qw,Qx,Qy,Qz,QA,QB,QC,QD,QE,QF,QG,QH,QI,QJ,QK,QL,QM,QN,QO,QP,QQ]
       first
       | exact ⟨j+1,h5,by simp only;omega,⟨[some 0,some 1,some 2,some 3,some 4,some 5,some 6],rfl,by simp,by simp [setsA,keepA,SWeak,AWeak,st],by simp [HWeak,BWeak,SWeak,AWeak]⟩⟩
       | exact ⟨by rfl,j+1,h5,by simp only;omega,⟨[some 0,some 1,some 2,some 3,some 4,some 5,some 6],rfl,by simp,by simp [setsA,keepA,SWeak,AWeak,st],by simp [HWeak,BWeak,SWeak,AWeak]⟩⟩
      ·rw [decide_eq_false q,Bool.or_false] at st
       have q':(nmK k'=nmK k)=False:=eq_false q
       simp (config:={maxSteps:=1000000}) (disch:=((try simp only [awL]);omega)) only [QR,QS,QT,QU,QV,QW,QX,QY,QZ,Q0,Q1,Q2,ol2,go',q',↓awU,awV,awF,Qa,Qb,Qc,Qd,forall_const,↓reduceIte,↓reduceDIte,↓Qe,Qf,Qg,Qh,Qi,Qj,Qk,Ql,Qm,Qn,Qo,Qp,Qq,Qr,Qs,implies_true,Qt,Qu,Qv,Qw,Qx,Qy,Qz,QA,QB,QC,QD,QE,QF,QG,QH,QI,QJ,QK,QL,QM,QN,QO,QP,QQ]
       first
       | exact ⟨j+1,h5,by simp only;omega,⟨[some 0,some 1,some 2,some 3,some 4,some 5,some 6],rfl,by simp,by simp [setsA,keepA,SWeak,AWeak,st],by simp [HWeak,BWeak,SWeak,AWeak]⟩⟩
     ·have e:j=5:=by omega
      subst e
      rw [fAk]
      simp (config:={maxSteps:=1000000}) (disch:=((try simp only [awL]);omega)) only [QR,QS,QT,QU,QV,QW,QX,QY,QZ,Q0,Q1,Q2,ol2,↓awU,awV,awF,Qa,Qb,Qc,Qd,forall_const,↓reduceIte,↓reduceDIte,↓Qe,Qf,Qg,Qh,Qi,Qj,Qk,Ql,Qm,Qn,Qo,Qp,Qq,Qr,Qs,implies_true,Qt,Qu,Qv,Qw,Qx,Qy,Qz,QA,QB,QC,QD,QE,QF,QG,QH,QI,QJ,QK,QL,QM,QN,QO,QP,QQ]
      first | exact ⟨(),trivial,⟨[some 0,some 1,some 2,some 3,some 4,some 5,some 6],rfl,by simp,by simp [setsA,keepA,SWeak,AWeak],by simp [HWeak,BWeak,SWeak,AWeak]⟩⟩
    ·rintro ⟨⟩ -
     simp only [awK,Nat.reduceMod,Nat.reduceDiv,reduceIte]
     simp (config:={maxSteps:=1000000}) (disch:=((try simp only [awL]);omega)) only [QR,QS,QT,QU,QV,QW,QX,QY,QZ,Q0,Q1,Q2,fg,↓awU,awV,awF,Qa,Qb,Qc,Qd,forall_const,↓reduceIte,↓reduceDIte,↓Qe,Qf,Qg,Qh,Qi,Qj,Qk,Ql,Qm,Qn,Qo,Qp,Qq,Qr,Qs,implies_true,Qt,Qu,Qv,Qw,Qx,Qy,Qz,QA,QB,QC,QD,QE,QF,QG,QH,QI,QJ,QK,QL,QM,QN,QO,QP,QQ]
     first
     | exact ⟨i+1,h,by simp only;omega,⟨[some 0,some 1,some 2,some 3,some 4,some 5],rfl,by simp,by simp [setsA,keepA,SWeak,AWeak],by simp [HWeak,BWeak,SWeak,AWeak]⟩⟩
   ·have e:i=5:=by omega
    subst e
    simp (config:={maxSteps:=1000000}) (disch:=((try simp only [awL]);omega)) only [QR,QS,QT,QU,QV,QW,QX,QY,QZ,Q0,Q1,Q2,ol1,↓awU,awV,awF,Qa,Qb,Qc,Qd,forall_const,↓reduceIte,↓reduceDIte,↓Qe,Qf,Qg,Qh,Qi,Qj,Qk,Ql,Qm,Qn,Qo,Qp,Qq,Qr,Qs,implies_true,Qt,Qu,Qv,Qw,Qx,Qy,Qz,QA,QB,QC,QD,QE,QF,QG,QH,QI,QJ,QK,QL,QM,QN,QO,QP,QQ]
    first | exact ⟨(),trivial,⟨[some 0,some 1,some 2,some 3,some 4,some 5],rfl,by simp,by simp [setsA,keepA,SWeak,AWeak],by simp [HWeak,BWeak,SWeak,AWeak]⟩⟩
  ·rintro ⟨⟩ -
   simp only [awK,Nat.reduceMod,Nat.reduceDiv,reduceIte]
   simp (config:={maxSteps:=1000000}) (disch:=((try simp only [awL]);omega)) only [QR,QS,QT,QU,QV,QW,QX,QY,QZ,Q0,Q1,Q2,lc,↓awU,awV,awF,Qa,Qb,Qc,Qd,forall_const,↓reduceIte,↓reduceDIte,↓Qe,Qf,Qg,Qh,Qi,Qj,Qk,Ql,Qm,Qn,Qo,Qp,Qq,Qr,Qs,implies_true,Qt,Qu,Qv,Qw,Qx,Qy,Qz,QA,QB,QC,QD,QE,QF,QG,QH,QI,QJ,QK,QL,QM,QN,QO,QP,QQ]
   refine CallC.of gs1 (by rfl) ?_
   simp (config:={maxSteps:=1000000}) (disch:=((try simp only [awL]);omega)) only [QR,QS,QT,QU,QV,QW,QX,QY,QZ,Q0,Q1,Q2,lc,↓awU,awV,awF,Qa,Qb,Qc,Qd,forall_const,↓reduceIte,↓reduceDIte,↓Qe,Qf,Qg,Qh,Qi,Qj,Qk,Ql,Qm,Qn,Qo,Qp,Qq,Qr,Qs,implies_true,Qt,Qu,Qv,Qw,Qx,Qy,Qz,QA,QB,QC,QD,QE,QF,QG,QH,QI,QJ,QK,QL,QM,QN,QO,QP,QQ]
   refine CallC.frozenE ap1 (by first | rfl | rw [cu3] | (rw [cu3];rfl)) ?_
   rcases r1' with e1 | e1
   ·rw [e1]
    simp (config:={maxSteps:=1000000}) (disch:=((try simp only [awL]);omega)) only [QR,QS,QT,QU,QV,QW,QX,QY,QZ,Q0,Q1,Q2,lc,↓awU,awV,awF,Qa,Qb,Qc,Qd,forall_const,↓reduceIte,↓reduceDIte,↓Qe,Qf,Qg,Qh,Qi,Qj,Qk,Ql,Qm,Qn,Qo,Qp,Qq,Qr,Qs,implies_true,Qt,Qu,Qv,Qw,Qx,Qy,Qz,QA,QB,QC,QD,QE,QF,QG,QH,QI,QJ,QK,QL,QM,QN,QO,QP,QQ]
    refine ⟨by rfl,?_⟩
    refine CallC.frozenE gs2 (by first | rfl | rw [cu3] | (rw [cu3];rfl)) ?_
    simp (config:={maxSteps:=1000000}) (disch:=((try simp only [awL]);omega)) only [QR,QS,QT,QU,QV,QW,QX,QY,QZ,Q0,Q1,Q2,lc,↓awU,awV,awF,Qa,Qb,Qc,Qd,forall_const,↓reduceIte,↓reduceDIte,↓Qe,Qf,Qg,Qh,Qi,Qj,Qk,Ql,Qm,Qn,Qo,Qp,Qq,Qr,Qs,implies_true,Qt,Qu,Qv,Qw,Qx,Qy,Qz,QA,QB,QC,QD,QE,QF,QG,QH,QI,QJ,QK,QL,QM,QN,QO,QP,QQ]
    refine CallC.of ap2 (by rfl) ?_
    simp (config:={maxSteps:=1000000}) (disch:=((try simp only [awL]);omega)) only [QR,QS,QT,QU,QV,QW,QX,QY,QZ,Q0,Q1,Q2,lc,↓awU,awV,awF,Qa,Qb,Qc,Qd,forall_const,↓reduceIte,↓reduceDIte,↓Qe,Qf,Qg,Qh,Qi,Qj,Qk,Ql,Qm,Qn,Qo,Qp,Qq,Qr,Qs,implies_true,Qt,Qu,Qv,Qw,Qx,Qy,Qz,QA,QB,QC,QD,QE,QF,QG,QH,QI,QJ,QK,QL,QM,QN,QO,QP,QQ]
    first | done | rfl | exact ⟨by rfl,by rfl⟩
   ·rw [e1]
    simp (config:={maxSteps:=1000000}) (disch:=((try simp only [awL]);omega)) only [QR,QS,QT,QU,QV,QW,QX,QY,QZ,Q0,Q1,Q2,lc,↓awU,awV,awF,Qa,Qb,Qc,Qd,forall_const,↓reduceIte,↓reduceDIte,↓Qe,Qf,Qg,Qh,Qi,Qj,Qk,Ql,Qm,Qn,Qo,Qp,Qq,Qr,Qs,implies_true,Qt,Qu,Qv,Qw,Qx,Qy,Qz,QA,QB,QC,QD,QE,QF,QG,QH,QI,QJ,QK,QL,QM,QN,QO,QP,QQ]
    refine ⟨by rfl,?_⟩
    refine CallC.frozenE gs2 (by first | rfl | rw [cu3] | (rw [cu3];rfl)) ?_
    simp (config:={maxSteps:=1000000}) (disch:=((try simp only [awL]);omega)) only [QR,QS,QT,QU,QV,QW,QX,QY,QZ,Q0,Q1,Q2,lc,↓awU,awV,awF,Qa,Qb,Qc,Qd,forall_const,↓reduceIte,↓reduceDIte,↓Qe,Qf,Qg,Qh,Qi,Qj,Qk,Ql,Qm,Qn,Qo,Qp,Qq,Qr,Qs,implies_true,Qt,Qu,Qv,Qw,Qx,Qy,Qz,QA,QB,QC,QD,QE,QF,QG,QH,QI,QJ,QK,QL,QM,QN,QO,QP,QQ]
    refine CallC.of ap2 (by rfl) ?_
    simp (config:={maxSteps:=1000000}) (disch:=((try simp only [awL]);omega)) only [QR,QS,QT,QU,QV,QW,QX,QY,QZ,Q0,Q1,Q2,lc,↓awU,awV,awF,Qa,Qb,Qc,Qd,forall_const,↓reduceIte,↓reduceDIte,↓Qe,Qf,Qg,Qh,Qi,Qj,Qk,Ql,Qm,Qn,Qo,Qp,Qq,Qr,Qs,implies_true,Qt,Qu,Qv,Qw,Qx,Qy,Qz,QA,QB,QC,QD,QE,QF,QG,QH,QI,QJ,QK,QL,QM,QN,QO,QP,QQ]
    first | done | rfl | exact ⟨by rfl,by rfl⟩
end Go.Proofs.YtdpjcghiegggbaaGreatDoor
