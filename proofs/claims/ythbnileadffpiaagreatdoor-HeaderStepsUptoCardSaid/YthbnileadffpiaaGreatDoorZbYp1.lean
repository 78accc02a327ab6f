/-
  A world that lays the variables of headerSteps.
-/
import Derived.Test.YthbnileadffpiaaGreatDoorMb2
import Derived.Lib.Strings
import Derived.Lib.Slices
import Derived.Lib.Walk
import Derived.Lib.Bytealg
set_option linter.all false
open Go.Abs renaming ofVal→Qa,ofVal0→Qb,isShift→Qc,aggK→Qd,purePost→Qe,combine→Qf,idsA→Qg,cellsA→Qh,numsOf→Qi,srcA→Qj,calleeA→Qk,refsA→Ql,isScalar→Qm,scalarD→Qn,scalar0→Qo,putL→Qr,unfA→Qs,sidsB→QJ,keyKD→QL,isIntK→QM,aggD→QN,aggL→QO,eqKs→QP,boxRow→QQ,nextC_more→QT,nextC_over→QU,bs_size→QV,bs_extract→QW,bs_toList→QX,bs_append→QY,byteAt_bs→QZ,bs_cells→Q0,nums_length→Q1,nums_getD→Q2
open Go.Abs.AV renaming one→Qp
open Go.Abs.D renaming one→Qq
open Go.IntKind renaming signed→Qt
open Nat renaming reduceAdd→Qu,reduceSub→Qv,reduceMul→Qw,reducePow→Qx,reduceDiv→Qy,reduceMod→Qz,reduceEqDiff→QI,reduceBEq→QK
open Int renaming reduceAdd→QA,reduceSub→QB,reduceMul→QC,reducePow→QD,reduceNeg→QE,reduceToNat→QF,reduceLT→QG,reduceLE→QH
open Option renaming toList_some→QR,toList_none→QS
namespace Go.Proofs.YthbnileadffpiaaGreatDoor
open Go Go.Proofs Go.Abs Go.RowKit Go.ChangeShapes Go.WideShapes Go.ChangeAt
noncomputable def laidWorld_headerSteps (os:Os):World :=
 {World.holding Tryz.prog os ⟨#[.cells #[.int .u32 1] 110],#[],[]⟩ with heap:=(((((((World.holding Tryz.prog os ⟨#[.cells #[.int .u32 1] 110],#[],[]⟩).heap.modify 6 fun
   | .cells _ t frozen=>.cells #[.int .u8 0,.int .u8 1,.int .u8 28,.int .u8 2,.int .u8 29,.int .u8 14,.int .u8 24,.int .u8 3,.int .u8 30,.int .u8 22,.int .u8 20,.int .u8 15,.int .u8 25,.int .u8 17,.int .u8 4,.int .u8 8,.int .u8 31,.int .u8 27,.int .u8 13,.int .u8 23,.int .u8 21,.int .u8 19,.int .u8 16,.int .u8 7,.int .u8 26,.int .u8 12,.int .u8 18,.int .u8 6,.int .u8 11,.int .u8 5,.int .u8 10,.int .u8 9] t frozen
   | o=>o).modify 7 fun
   | .cells _ t frozen=>.cells #[.int .u8 0,.int .u8 1,.int .u8 56,.int .u8 2,.int .u8 57,.int .u8 49,.int .u8 28,.int .u8 3,.int .u8 61,.int .u8 58,.int .u8 42,.int .u8 50,.int .u8 38,.int .u8 29,.int .u8 17,.int .u8 4,.int .u8 62,.int .u8 47,.int .u8 59,.int .u8 36,.int .u8 45,.int .u8 43,.int .u8 51,.int .u8 22,.int .u8 53,.int .u8 39,.int .u8 33,.int .u8 30,.int .u8 24,.int .u8 18,.int .u8 12,.int .u8 5,.int .u8 63,.int .u8 55,.int .u8 48,.int .u8 27,.int .u8 60,.int .u8 41,.int .u8 37,.int .u8 16,.int .u8 46,.int .u8 35,.int .u8 44,.int .u8 21,.int .u8 52,.int .u8 32,.int .u8 23,.int .u8 11,.int .u8 54,.int .u8 26,.int .u8 40,.int .u8 15,.int .u8 34,.int .u8 20,.int .u8 31,.int .u8 10,.int .u8 25,.int .u8 14,.int .u8 19,.int .u8 9,.int .u8 13,.int .u8 8,.int .u8 7,.int .u8 6] t frozen
   | o=>o).modify 3 fun
   | .cells _ t frozen=>.cells #[.int .u64 1,.int .u64 10,.int .u64 100,.int .u64 1000,.int .u64 10000,.int .u64 100000,.int .u64 1000000,.int .u64 10000000,.int .u64 100000000,.int .u64 1000000000,.int .u64 10000000000,.int .u64 100000000000,.int .u64 1000000000000,.int .u64 10000000000000,.int .u64 100000000000000,.int .u64 1000000000000000,.int .u64 10000000000000000,.int .u64 100000000000000000,.int .u64 1000000000000000000,.int .u64 10000000000000000000] t frozen
   | o=>o).modify 2 fun
   | .cells _ t frozen=>.cells #[.int .u8 128,.int .u8 191,.int .u8 160,.int .u8 191,.int .u8 128,.int .u8 159,.int .u8 144,.int .u8 191,.int .u8 128,.int .u8 143,.int .u8 0,.int .u8 0,.int .u8 0,.int .u8 0,.int .u8 0,.int .u8 0,.int .u8 0,.int .u8 0,.int .u8 0,.int .u8 0,.int .u8 0,.int .u8 0,.int .u8 0,.int .u8 0,.int .u8 0,.int .u8 0,.int .u8 0,.int .u8 0,.int .u8 0,.int .u8 0,.int .u8 0,.int .u8 0] t frozen
   | o=>o).modify 0 fun
   | .cells _ t frozen=>.cells #[.slice (some ⟨(World.settled Tryz.prog os).heap.size,0,none⟩) 1 1] t frozen
   | o=>o).modify 1 fun
   | .cells _ t frozen=>.cells (Go.Pinned.utf8FirstZ.map fun (n:Nat)=>Value.int .u8 (n:Int)).toArray t frozen
   | o=>o)}
set_option maxRecDepth 100000 in
theorem laid_met_headerSteps (os:Os) (args:Array Value):laidMet Tryz.prog [("math/bits.deBruijn32tab",Rows.laid_math_bits_deBruijn32tab),("math/bits.deBruijn64tab",Rows.laid_math_bits_deBruijn64tab),("internal/strconv.uint64pow10",Rows.laid_internal_strconv_uint64pow10),("unicode/utf8.acceptRanges",Rows.laid_unicode_utf8_acceptRanges),("tablefinder/fraction.one",Rows.laid_tablefinder_fraction_one),("unicode/utf8.first",Rows.laid_unicode_utf8_first)] ((laidWorld_headerSteps os).forCall (fun _ _=>0) ⟨#[],args,[]⟩).memory :=
 laidMet_of_run' 8 (by kernel_rfl) (by kernel_rfl)
end Go.Proofs.YthbnileadffpiaaGreatDoor
namespace Go.Proofs.YthbnileadffpiaaGreatDoor
open Go Go.Proofs Go.Abs Go.RowKit Go.ChangeShapes Go.WideShapes Go.ChangeAt Go.Joins Go.Deep
theorem bulk_part {H:Type} {d:DataW H}:∀ {l:List (DataW H)},d∈l→Rows.uptoBulk d≤Rows.uptoBulkAll l
 | [],h=>by cases h
 | x::r,h=>by
   simp only [Rows.uptoBulkAll]
   rcases List.mem_cons.1 h with e | e
   ·subst e;omega
   ·have:=bulk_part e;omega
theorem bulk_le {H:Type} {l:List (DataW H)} (hk:Rows.uptoSmall H l=true):Rows.uptoBulkAll l≤1048576:=of_decide_eq_true hk
theorem bulk_of {H:Type} {l:List (DataW H)} {d:DataW H} (hk:Rows.uptoSmall H l=true) (h:d∈l):Rows.uptoBulk d≤1048576:=Nat.le_trans (bulk_part h) (bulk_le hk)
theorem bulk_str {H:Type} {x:List UInt8} (h:Rows.uptoBulk (DataW.lit (H:=H) (.string (bs x).data.toList))≤1048576):x.length≤1048576:=by
 simp only [Rows.uptoBulk] at h
 have e:(bs x).data.toList.length=x.length:=by rw [Array.length_toList];first | done | rfl | exact bs_size
 omega
theorem open_strlistB {H:Type} {enc:TypeId × Value→H} {P:Program} {W:World} {base:Nat} {held:Bool} {t e:TypeId} {fuel:Nat} {v:Value} {x:DataW H × List MemPlace} (ht:P.underlying t=some (.slice e)) (he:P.underlying e=some .string) (hc:P.cellsOf e=1)
  (hv:∃ a n c,v=.slice a n c) (h:DataW.trod enc P W base (fun _=>true) held fuel t v.cells.toList=some x) :
  ∃ l:List (List UInt8),R (heldW W) (fun _=>none) v (.d (.sl l.length false (l.map fun s=>.str (bs s))))∧(∀ s∈l,s.length≤maxLen∧s.length≤Rows.uptoBulk x.1)∧l.length≤maxLen:=by
 obtain ⟨a,n,c,rfl⟩:=hv
 rcases open_strings ht he hc h with ⟨hcs,_⟩ | ⟨x,l,cp,zs,hcs,_,hl,hm,hz,hxx,hcell,hwz⟩
 ·simp [Value.cells] at hcs
  obtain ⟨rfl,rfl,rfl⟩:=hcs
  exact ⟨[],.d _ _ (.sl0 _ _),by simp,by simp⟩
 ·simp [Value.cells] at hcs
  obtain ⟨rfl,rfl,rfl⟩:=hcs
  subst hxx
  have hz:zs.length=c:=by simpa using hz
  have lt:(zs.take n).length=n:=by rw [List.length_take];omega
  rcases RD_strings hl (by omega) hcell with hr | h0
  ·refine ⟨(zs.take n).map fun s=>s.data.toList,?_,?_,by rw [List.length_map,lt];omega⟩
   ·have e:(((zs.take n).map fun s=>s.data.toList).map fun s=>D.str (bs s))=(zs.take n).map fun s=>.str s:=by
     rw [List.map_map]
     exact List.map_congr_left fun s _=>by show D.str (bs s.data.toList)=.str s;rw [← bs_of s]
    rw [e,List.length_map,lt]
    exact .d _ _ hr
   ·intro s hs
    obtain ⟨z,hz1,rfl⟩:=List.mem_map.1 hs
    refine ⟨hwz z (List.mem_of_mem_take hz1),?_⟩
    have hm:(DataW.lit (H:=H) (.string z.data.toList))∈Go.ChangeShapes.strs (zs.take n):=List.mem_map.2 ⟨z,hz1,rfl⟩
    have:=bulk_part hm
    simp only [Rows.uptoBulk] at this ⊢
    omega
  ·subst h0
   refine ⟨[],?_,by simp,by simp⟩
   rcases Nat.eq_zero_or_pos c with h1 | h1
   ·subst h1;exact .d _ _ (.sl0 _ _)
   ·obtain ⟨b,off,spot⟩:=x
    have hs:spot=none:=by simpa [Addr.add] using World.cell?_spot (hcell 0 (by omega))
    subst hs
    exact .d _ _ (.sl b off 0 c false _ (fun _=>undef) (by omega) (fun h=>by cases h) (by simp) (by simp) (by simp))
theorem open_gridlistB {H:Type} {enc:TypeId × Value→H} {P:Program} {W:World} {base:Nat} {held:Bool} {t e q:TypeId} {fuel:Nat} {v:Value} {x:DataW H × List MemPlace} (ht:P.underlying t=some (.slice e)) (he:P.underlying e=some (.slice q)) (hq:P.underlying q=some .string)
  (ce:P.cellsOf e=1) (cq:P.cellsOf q=1) (hv:∃ a n c,v=.slice a n c) (h:DataW.trod enc P W base (fun _=>true) held fuel t v.cells.toList=some x) (hB:Rows.uptoBulk x.1≤1048576) :
  ∃ g:List (List (List UInt8)),R (heldW W) (fun _=>none) v (.d (.sl g.length false (g.map fun r=>.sl r.length false (r.map fun s=>.str (bs s)))))∧g.length≤maxLen∧∀ r∈g,r.length≤maxLen∧∀ s∈r,s.length≤1048576:=by
 obtain ⟨a,n,c,rfl⟩:=hv
 rcases open_slice1 ht ce h with ⟨hcs,_⟩ | ⟨x,len,cap,m,k,V,D,Pl,hcs,hb,hl,hm,hmm,hxx,hx⟩
 ·simp [Value.cells] at hcs
  obtain ⟨rfl,rfl,rfl⟩:=hcs
  exact ⟨[],.d _ _ (.sl0 _ _),by simp,by simp⟩
 ·simp [Value.cells] at hcs
  obtain ⟨rfl,rfl,rfl⟩:=hcs
  subst hxx
  simp only [if_true] at hmm
  have each:∀ i,i<n→∃ l:List (List UInt8),RD (heldW W) (V i) (.sl l.length false (l.map fun s=>.str (bs s)))∧l.length≤maxLen∧∀ s∈l,s.length≤1048576:=by
   intro i hi
   have h2:=(hx i (by omega)).2
   have hs:∃ a n c,V i=.slice a n c:=by
    rcases open_strings he hq cq h2 with ⟨hcs,_⟩ | ⟨a',len',cap',ss,hcs,_⟩
    ·exact ⟨_,_,_,by simpa using hcs⟩
    ·exact ⟨_,_,_,by simpa using hcs⟩
   obtain ⟨a',n',c',e'⟩:=hs
   rw [e'] at h2 ⊢
   obtain ⟨l,r,l1,l2⟩:=open_strlistB (v:=.slice a' n' c') he hq cq ⟨_,_,_,rfl⟩ h2
   have hD:D i∈(List.range n).map D:=List.mem_map.2 ⟨i,List.mem_range.2 hi,rfl⟩
   have b1:=bulk_part hD
   simp only [Rows.uptoBulk] at hB
   cases r with
   | d _ _ r=>exact ⟨l,r,l2,fun s hs=>by have:=(l1 s hs).2;simp only at this;omega⟩
  obtain ⟨F,hF⟩:=choose_lt each
  have gl:((List.range n).map F).length=n:=by simp
  refine ⟨(List.range n).map F,?_,by rw [gl];omega,fun r hr=>?_⟩
  ·rw [gl]
   rcases Nat.eq_zero_or_pos c with h1 | h1
   ·obtain rfl:n=0:=by omega
    rw [h1]
    exact .d _ _ (.sl0 _ _)
   ·obtain ⟨b,off,spot⟩:=x
    have hs:spot=none:=by simpa [Addr.add] using World.cell?_spot (hx 0 (by omega)).1
    subst hs
    refine .d _ _ (.sl b off n c false _ V hl (fun h=>by cases h) (fun i x hx'=>?_) (fun i x hx'=>?_) (fun i x hx'=>?_))
    all_goals
     have hi:i<n:=by have:=(List.getElem?_eq_some_iff.1 hx').1;simp at this;omega
     rw [List.map_map,List.getElem?_map,List.getElem?_range hi] at hx'
     simp only [Option.map_some,Function.comp,Option.some.injEq] at hx'
     subst hx'
    ·have:=(hx i (by omega)).1
     have e:Addr.add ⟨b,off,none⟩ i=⟨b,off+i,none⟩:=by unfold Addr.add;split<;>simp_all
     rw [e] at this
     exact this
    ·exact (hF i hi).1
    ·rfl
  ·obtain ⟨i,hi,rfl⟩:=List.mem_map.1 hr
   exact (hF i (List.mem_range.1 hi)).2
end Go.Proofs.YthbnileadffpiaaGreatDoor
namespace Go.Proofs.YthbnileadffpiaaGreatDoor
open Go Go.Proofs Go.Abs
variable {G:Globals}
theorem getD_le {l:List Nat} {m:Nat} (h:∀ i,i<l.length→l.getD i 0≤m) (i:Nat):l.getD i 0≤m:=by
 rcases Nat.lt_or_ge i l.length with h1 | h1
 ·exact h i h1
 ·rw [List.getD_eq_getElem?_getD,List.getElem?_eq_none h1];exact Nat.zero_le _
end Go.Proofs.YthbnileadffpiaaGreatDoor
namespace Go.Proofs.YthbnileadffpiaaGreatDoor
open Go Go.Proofs Go.Abs
variable {G:Globals}
end Go.Proofs.YthbnileadffpiaaGreatDoor
namespace Go.Proofs.YthbnileadffpiaaGreatDoor
open Go Go.Proofs Go.Abs
variable {G:Globals}
def nots (q:List Bool):List Bool:=q.map not
end Go.Proofs.YthbnileadffpiaaGreatDoor
namespace Go.Proofs.YthbnileadffpiaaGreatDoor
open Go Go.Proofs Go.Abs
variable {G:Globals}
theorem dg_byte {n:Nat} (h:n<10):(UInt8.ofNat (48+n)).toNat=48+n:=by simp;omega
theorem dec_ne (n:Nat):Lib.decDigits n≠[]:=by
 intro e
 have:=congrArg List.length e
 rw [Lib.decDigits_length] at this
 have:=Lib.nDigits_pos n
 simp at *;omega
theorem dec_bytes:∀ (n:Nat),∀ c∈Lib.decDigits n,48≤c.toNat∧c.toNat≤57:=by
 intro n
 induction n using Nat.strongRecOn with
 | _ n ih =>
  intro c hc
  rw [Lib.decDigits] at hc
  split at hc
  ·simp only [List.mem_singleton] at hc
   rw [hc,dg_byte (by omega)];omega
  ·rcases List.mem_append.1 hc with h | h
   ·exact ih _ (by omega) c h
   ·simp only [List.mem_singleton] at h
    rw [h,dg_byte (by omega)];omega
theorem natGo_dec:∀ (n:Nat) (t:List UInt8),n<100000000→natGo 0 0 (Lib.decDigits n++t)=natGo n (Lib.decDigits n).length t:=by
 intro n
 induction n using Nat.strongRecOn with
 | _ n ih =>
  intro t hn
  rw [Lib.decDigits]
  split
  ·rw [List.singleton_append,natGo,dg_byte (by omega),if_neg (by omega)]
   congr 1;omega
  ·rw [List.append_assoc,ih _ (by omega) _ (by omega),List.singleton_append,natGo,dg_byte (by omega),if_neg (by omega),List.length_append]
   congr 1;omega
def natO (p:List UInt8):Option Nat:=match natGo 0 0 p with | some n=>if p=[] then none else some n | none=>none
theorem natO_dec {n:Nat} (hn:n<100000000):natO (Lib.decDigits n)=some n:=by
 have:=natGo_dec n [] hn
 rw [List.append_nil] at this
 rw [natO,this,natGo]
 simp only [if_neg (dec_ne n)]
end Go.Proofs.YthbnileadffpiaaGreatDoor
namespace Go.Proofs.YthbnileadffpiaaGreatDoor
open Go Go.Proofs Go.Abs
variable {G:Globals}
end Go.Proofs.YthbnileadffpiaaGreatDoor
namespace Go.Proofs.YthbnileadffpiaaGreatDoor
open Go Go.Proofs Go.Abs
variable {G:Globals}
end Go.Proofs.YthbnileadffpiaaGreatDoor
namespace Go.Proofs.YthbnileadffpiaaGreatDoor
open Go Go.Proofs Go.Abs
variable {G:Globals}
def LayI (l:List Nat):Prop:=l≠[]∧l.getD 0 0=0∧l.length≤4∧(∀ i,i<l.length→l.getD i 0≤12*i)∧∀ i,i+1<l.length→l.getD i 0<l.getD (i+1) 0
theorem LayI.step {l:List Nat} (h:LayI l) (hl:l.length<4) {c:Nat} (hc:c<12):LayI (l++[l.getD (l.length - 1) 0+1+c]):=by
 obtain ⟨h1,h2,h3,h4,h5⟩:=h
 have lp:0<l.length:=List.length_pos_iff.2 h1
 have old:∀ i,i<l.length→(l++[l.getD (l.length - 1) 0+1+c]).getD i 0=l.getD i 0:=fun i hi=>by
  rw [List.getD_eq_getElem?_getD,List.getElem?_append_left hi,← List.getD_eq_getElem?_getD]
 have new:(l++[l.getD (l.length - 1) 0+1+c]).getD l.length 0=l.getD (l.length - 1) 0+1+c:=by
  rw [List.getD_eq_getElem?_getD,List.getElem?_append_right (Nat.le_refl _),Nat.sub_self];rfl
 refine ⟨by simp,by rw [old 0 lp,h2],by rw [List.length_append,List.length_singleton];omega,fun i hi=>?_,fun i hi=>?_⟩
 ·rw [List.length_append,List.length_singleton] at hi
  rcases Nat.lt_or_ge i l.length with h | h
  ·rw [old i h];exact h4 i h
  ·obtain rfl:i=l.length:=by omega
   rw [new]
   have:=h4 (l.length - 1) (by omega)
   omega
 ·rw [List.length_append,List.length_singleton] at hi
  rcases Nat.lt_or_ge (i+1) l.length with h | h
  ·rw [old i (by omega),old (i+1) h];exact h5 i h
  ·have e:i+1=l.length:=by omega
   rw [e,new,old i (by omega)]
   have:i=l.length - 1:=by omega
   rw [this];omega
end Go.Proofs.YthbnileadffpiaaGreatDoor
namespace Go.Proofs.YthbnileadffpiaaGreatDoor
open Go Go.Proofs Go.Abs
theorem valid_ascii:∀ s:List UInt8,(∀ c∈s,c.toNat<128)→Lib.validD s=true
 | [],_=>rfl
 | c::r,h=>by rw [Lib.validD_cons _ _ (h c (by simp))];exact valid_ascii r fun x hx=>h x (by simp [hx])
def asciiL (s:List UInt8):Prop:=∀ c∈s,c.toNat<128
theorem ascii_app {a b:List UInt8} (ha:asciiL a) (hb:asciiL b):asciiL (a++b):=fun c hc=>by
 rcases List.mem_append.1 hc with h | h
 ·exact ha c h
 ·exact hb c h
theorem get_all {P:List UInt8→Prop} {l:List (List UInt8)} (h0:P []) (h:∀ s∈l,P s) (i:Nat):P (l.getD i []):=by
 rcases Nat.lt_or_ge i l.length with h1 | h1
 ·exact h _ (memD h1)
 ·rw [List.getD_eq_getElem?_getD,List.getElem?_eq_none h1];exact h0
theorem ascii_nil:asciiL []:=fun c h=>by cases h
theorem ascii_cons {c:UInt8} {r:List UInt8} (hc:c.toNat<128) (hr:asciiL r):asciiL (c::r):=fun x hx=>by
 rcases List.mem_cons.1 hx with rfl | h
 ·exact hc
 ·exact hr x h
theorem ascii_itoa {n:Nat} (h:n<100):asciiL (itoaL n):=by
 unfold itoaL
 split
 ·intro c hc;rw [List.mem_singleton.1 hc];simp;omega
 ·intro c hc
  rcases List.mem_cons.1 hc with rfl | hc
  ·simp;omega
  ·rw [List.mem_singleton.1 hc];simp;omega
theorem ascii_num (t:List Int) (k:Nat):asciiL (numM t k):=by
 have h1:asciiL (num1 t k):=by
  obtain ⟨b,hb,hb2⟩:=pk_nat t (k+1) 40 (by decide)
  unfold num1
  rw [hb]
  exact ascii_app (get_all ascii_nil (by unfold asciiL;decide) _) (ascii_itoa (by simp;omega))
 have h2:asciiL (num2 t k):=by
  unfold num2
  split
  ·split
   ·exact h1
   ·exact ascii_cons (by decide) h1
  ·exact h1
 unfold numM
 split
 ·exact ascii_app h2 (ascii_cons (by decide) (get_all ascii_nil (by unfold asciiL;decide) _))
 ·exact h2
theorem ascii_date (t:List Int) (k:Nat):asciiL (dateM t k)∧(dateM t k).length≤10:=by
 have a1:asciiL (yearsL.getD (pk t k 6).toNat []):=get_all ascii_nil (by unfold asciiL;decide) _
 have a2:asciiL (monthsL.getD (pk t (k+1) 5).toNat []):=get_all ascii_nil (by unfold asciiL;decide) _
 have a3:asciiL (daysL.getD (pk t (k+2) 5).toNat []):=get_all ascii_nil (by unfold asciiL;decide) _
 have l1:=get_len (l:=yearsL) (m:=4) (by decide) (pk t k 6).toNat
 have l2:=get_len (l:=monthsL) (m:=2) (by decide) (pk t (k+1) 5).toNat
 have l3:=get_len (l:=daysL) (m:=2) (by decide) (pk t (k+2) 5).toNat
 have one:∀ n:UInt8,n.toNat<128→asciiL [n]:=fun n h=>ascii_cons h ascii_nil
 unfold dateM
 simp only
 split
 ·exact ⟨ascii_app (ascii_app (ascii_app (ascii_app a1 (one _ (by decide))) a2) (one _ (by decide))) a3,by simp only [List.length_append,List.length_cons,List.length_nil];omega⟩
 ·split
  ·exact ⟨ascii_app (ascii_app (ascii_app (ascii_app a1 (one _ (by decide))) a2) (one _ (by decide))) a3,by simp only [List.length_append,List.length_cons,List.length_nil];omega⟩
  ·exact ⟨ascii_app (ascii_app (ascii_app (ascii_app a3 (one _ (by decide))) a2) (one _ (by decide))) a1,by simp only [List.length_append,List.length_cons,List.length_nil];omega⟩
def okT (s:List UInt8):Prop:=Lib.validD s=true∧s.length≤30
instance (s:List UInt8):Decidable (okT s):=by unfold okT;exact inferInstance
theorem okT_nil:okT []:=by decide
set_option maxRecDepth 100000 in
theorem okT_words:∀ s∈wordsL,okT s:=by decide
set_option maxRecDepth 100000 in
theorem okT_bools:∀ s∈boolsL,okT s:=by decide
set_option maxRecDepth 100000 in
theorem okT_nulls:∀ s∈nullsL,okT s:=by decide
set_option maxRecDepth 100000 in
theorem okT_odds:∀ s∈oddsL,okT s:=by decide
theorem fieldM_ok (t:List Int) (k c:Nat):okT (fieldM t k c):=by
 unfold fieldM
 repeat' split
 ·exact get_all okT_nil okT_words _
 ·exact ⟨valid_ascii _ (ascii_num t k),by have:=(numM_len t k).2;omega⟩
 ·exact ⟨valid_ascii _ (ascii_date t k).1,by have:=(ascii_date t k).2;omega⟩
 ·exact get_all okT_nil okT_bools _
 ·have:=(numM_len t k).2
  have l2:=get_len (l:=unitsL) (m:=4) (by decide) (pk t (numK t k) 7).toNat
  exact ⟨valid_ascii _ (ascii_app (ascii_num t k) (get_all ascii_nil (by unfold asciiL;decide) _)),by rw [List.length_append];omega⟩
 ·exact get_all okT_nil okT_nulls _
 ·exact get_all okT_nil okT_odds _
theorem oddRow_ok (t:List Int):∀ (n k:Nat),(oddRow t n k).1.length=n∧∀ s∈(oddRow t n k).1,okT s
 | 0,_=>⟨rfl,fun s h=>by cases h⟩
 | n+1,k=>by
   obtain ⟨h1,h2⟩:=oddRow_ok t n (fieldK t (k+1) (pk t k 9).toNat)
   refine ⟨by simp only [oddRow,List.length_cons,h1],fun s hs=>?_⟩
   rcases List.mem_cons.1 hs with rfl | hs
   ·exact fieldM_ok _ _ _
   ·exact h2 s hs
structure OddG (g:List Row) (m n:Nat):Prop where
 len:g.length≤m
 row:∀ r∈g,r≠[]∧r.length≤n
 txt:∀ r∈g,∀ s∈r,okT s
theorem oddRows_ok (t:List Int) (cols:Nat) (hc:0<cols):∀ (m k:Nat),OddG (oddRows t cols m k).1 m cols
 | 0,_=>⟨Nat.le_refl _,fun r h=>(by cases h),fun r h=>(by cases h)⟩
 | m+1,k=>by
   have ih:=oddRows_ok t cols hc m (oddRow t (1+(pk t k cols).toNat) (k+1)).2
   obtain ⟨h1,h2⟩:=oddRow_ok t (1+(pk t k cols).toNat) (k+1)
   have hp:=@pk_range t k cols (by omega)
   refine ⟨by simp only [oddRows,List.length_cons];have:=ih.len;omega,fun r hr=>?_,fun r hr=>?_⟩
   ·rcases List.mem_cons.1 hr with rfl | hr
    ·refine ⟨fun e=>?_,by rw [h1];omega⟩
     rw [e] at h1;simp at h1;omega
    ·exact ih.row r hr
   ·rcases List.mem_cons.1 hr with rfl | hr
    ·exact h2
    ·exact ih.txt r hr
theorem oddG_ok (t:List Int) (k rows cols:Nat) (hc:0<cols):OddG (oddG t k rows cols) rows cols:=by
 have h:=oddRows_ok t cols hc (pk t k (rows+1:Nat)).toNat (k+1)
 have hp:=@pk_range t k (rows+1:Nat) (by omega)
 exact ⟨by have:=h.len;unfold oddG;omega,h.row,h.txt⟩
end Go.Proofs.YthbnileadffpiaaGreatDoor
namespace Go.Proofs.YthbnileadffpiaaGreatDoor
open Go Go.Proofs Go.Abs
variable {G:Globals}
def OkS (t:List Int):Prop:=∀ i,0≤t.getD i 0∧t.getD i 0≤255
theorem OkS.take {t:List Int} (h:OkS t):OkM (t.take 300):=by
 refine ⟨by rw [List.length_take];omega,fun i=>?_⟩
 rcases Nat.lt_or_ge i 300 with h1 | h1
 ·have:=h i
  rw [List.getD_eq_getElem?_getD,List.getElem?_take,if_pos h1,← List.getD_eq_getElem?_getD]
  exact this
 ·rw [List.getD_eq_getElem?_getD,List.getElem?_take,if_neg (by omega)];decide
end Go.Proofs.YthbnileadffpiaaGreatDoor
namespace Go.Proofs.YthbnileadffpiaaGreatDoor
open Go Go.Proofs Go.Abs
variable {G:Globals}
def okGW (g:List Row):Prop:=g.length≤1000000000∧∀ r∈g,r.length≤1000000000∧∀ s∈r,s.length≤9223372036854775807
theorem okGrid.w {g:List Row} (h:okGrid g):okGW g:=⟨h.1,fun r hr=>⟨(h.2 r hr).1,fun s hs=>by have:=(h.2 r hr).2 s hs;omega⟩⟩
def atG (g:List Row) (r c:Int):List UInt8:=if r<0∨c<0 then [] else (g.getD r.toNat []).getD c.toNat []
def widG (g:List Row):Nat:=g.foldl (fun m r=>max m r.length) 0
theorem widG_take {g:List Row} {i:Nat} (h:i<g.length):widG (g.take (i+1))=max (widG (g.take i)) (g.getD i []).length:=by
 rw [List.take_add_one,getD_some (d:=[]) h,widG,List.foldl_append];rfl
theorem widG_le {m:Nat} {g:List Row} (h:∀ r∈g,r.length≤m):widG g≤m:=by
 have:∀ (g:List Row) (k:Nat),k≤m→(∀ r∈g,r.length≤m)→g.foldl (fun m r=>max m r.length) k≤m:=by
  intro g
  induction g with
  | nil=>intro k h _;exact h
  | cons r g ih=>intro k hk h;rw [List.foldl_cons];exact ih _ (by have:=h r (by simp);omega) fun x hx=>h x (by simp [hx])
 exact this g 0 (Nat.zero_le _) h
set_option maxHeartbeats 4000000 in
set_option maxRecDepth 100000 in
theorem width_spec (g:List Row) (full:Bool) (hg:okGW g):Ctr Tryz.prog G 36 [.d (.agg [Gr g full])] [] (.d (.int .i64 (widG g))) []:=by
 obtain ⟨r,hr⟩:∃ r,r=widG g:=⟨_,rfl⟩
 rw [← hr]
 refine Ctr.pure (M:=M0) hmix Tryz.func36 rfl go36 ?_
 have gl:=@rowsD_length g
 have hgl:=hg.1
 simp (config:={maxSteps:=1000000}) (disch:=((try simp only [awL]);omega)) only [QR,QS,QT,QU,QV,QW,QX,QY,QZ,Q0,Q1,Q2,gl,Tryz.f36,↓awU,awV,awF,Qa,Qb,Qc,Qd,forall_const,↓reduceIte,↓reduceDIte,↓Qe,Qf,Qg,Qh,Qi,Qj,Qk,Ql,Qm,Qn,Qo,Qp,Qq,Qr,Qs,implies_true,Qt,Qu,Qv,Qw,Qx,Qy,Qz,QA,QB,QC,QD,QE,QF,QG,QH,QI,QJ,QK,QL,QM,QN,QO,QP,QQ]
 refine LoopC.fr 384 (α:=Nat) (fun i=>g.length - i) (fun i=>[(3,.d (.int .i64 (widG (g.take i)))),(9,.d (.int .i64 i))]) (fun _=>[]) (fun i=>i≤g.length) 0 (Nat.zero_le _) ?_ ?_
 ·exact ⟨[],rfl,by simp,by simp [setsA,keepA,SWeak,AWeak,widG],by simp [HWeak,BWeak,SWeak,AWeak]⟩
 ·intro i hi
  simp only [awK,Nat.reduceMod,Nat.reduceDiv,reduceIte]
  rcases Nat.lt_or_ge i g.length with h | h
  ·have gr:=rowsD_getD (g:=g) (i:=i) h
   have ok:=(hg.2 _ (memD (d:=[]) h)).1
   have wt:=widG_take h
   have wl:=widG_le (m:=1000000000) (g:=g.take i) (fun r hr=>(hg.2 r (List.mem_of_mem_take hr)).1)
   generalize g.getD i []=ro at *
   generalize widG (g.take i)=m at *
   simp (config:={maxSteps:=1000000}) (disch:=((try simp only [awL]);omega)) only [QR,QS,QT,QU,QV,QW,QX,QY,QZ,Q0,Q1,Q2,gl,gr,↓awU,awV,awF,Qa,Qb,Qc,Qd,forall_const,↓reduceIte,↓reduceDIte,↓Qe,Qf,Qg,Qh,Qi,Qj,Qk,Ql,Qm,Qn,Qo,Qp,Qq,Qr,Qs,implies_true,Qt,Qu,Qv,Qw,Qx,Qy,Qz,QA,QB,QC,QD,QE,QF,QG,QH,QI,QJ,QK,QL,QM,QN,QO,QP,QQ]
   exact ⟨i+1,h,by simp only;omega,⟨[],rfl,by simp,by simp [setsA,keepA,SWeak,AWeak,wt],by simp [HWeak,BWeak,SWeak,AWeak]⟩⟩
  ·rw [List.take_of_length_le h,← hr]
   simp (config:={maxSteps:=1000000}) (disch:=((try simp only [awL]);omega)) only [QR,QS,QT,QU,QV,QW,QX,QY,QZ,Q0,Q1,Q2,gl,↓awU,awV,awF,Qa,Qb,Qc,Qd,forall_const,↓reduceIte,↓reduceDIte,↓Qe,Qf,Qg,Qh,Qi,Qj,Qk,Ql,Qm,Qn,Qo,Qp,Qq,Qr,Qs,implies_true,Qt,Qu,Qv,Qw,Qx,Qy,Qz,QA,QB,QC,QD,QE,QF,QG,QH,QI,QJ,QK,QL,QM,QN,QO,QP,QQ]
set_option maxHeartbeats 4000000 in
set_option maxRecDepth 100000 in
theorem gat_spec (g:List Row) (full:Bool) (hg:okGW g) (r c:Int) (r1:-9223372036854775808≤r) (r2:r≤9223372036854775807) (c1:-9223372036854775808≤c) (c2:c≤9223372036854775807) :
  Ctr Tryz.prog G 38 [.d (.agg [Gr g full]),.d (.int .i64 r),.d (.int .i64 c)] [] (.d (S (atG g r c))) []:=by
 obtain ⟨x,hx⟩:∃ x,x=atG g r c:=⟨_,rfl⟩
 rw [← hx]
 unfold atG at hx
 refine Ctr.pure (M:=M0) hmix Tryz.func38 rfl go38 ?_
 have gl:=@rowsD_length g
 have hgl:=hg.1
 rcases (by omega:r<0∨0≤r) with h1 | h1
 ·rw [if_pos (.inl h1)] at hx
  subst hx
  simp (config:={maxSteps:=1000000}) (disch:=((try simp only [awL]);omega)) only [QR,QS,QT,QU,QV,QW,QX,QY,QZ,Q0,Q1,Q2,gl,Tryz.f38,↓awU,awV,awF,Qa,Qb,Qc,Qd,forall_const,↓reduceIte,↓reduceDIte,↓Qe,Qf,Qg,Qh,Qi,Qj,Qk,Ql,Qm,Qn,Qo,Qp,Qq,Qr,Qs,implies_true,Qt,Qu,Qv,Qw,Qx,Qy,Qz,QA,QB,QC,QD,QE,QF,QG,QH,QI,QJ,QK,QL,QM,QN,QO,QP,QQ]
  try rfl
 ·obtain ⟨p,rfl⟩:∃ p:Nat,r=p:=⟨r.toNat,by omega⟩
  rcases Nat.lt_or_ge p g.length with h2 | h2
  ·have gr:=rowsD_getD (g:=g) (i:=p) h2
   have ok:=(hg.2 _ (memD (d:=[]) h2)).1
   rw [Int.toNat_natCast] at hx
   generalize g.getD p []=ro at *
   have sl:=@strs_length ro
   rcases (by omega:c<0∨0≤c) with h3 | h3
   ·rw [if_pos (.inr h3)] at hx
    subst hx
    simp (config:={maxSteps:=1000000}) (disch:=((try simp only [awL]);omega)) only [QR,QS,QT,QU,QV,QW,QX,QY,QZ,Q0,Q1,Q2,gl,gr,sl,Tryz.f38,↓awU,awV,awF,Qa,Qb,Qc,Qd,forall_const,↓reduceIte,↓reduceDIte,↓Qe,Qf,Qg,Qh,Qi,Qj,Qk,Ql,Qm,Qn,Qo,Qp,Qq,Qr,Qs,implies_true,Qt,Qu,Qv,Qw,Qx,Qy,Qz,QA,QB,QC,QD,QE,QF,QG,QH,QI,QJ,QK,QL,QM,QN,QO,QP,QQ]
    try rfl
   ·obtain ⟨q,rfl⟩:∃ q:Nat,c=q:=⟨c.toNat,by omega⟩
    rw [if_neg (by omega),Int.toNat_natCast] at hx
    rcases Nat.lt_or_ge q ro.length with h4 | h4
    ·have gs:=strs_getD h4
     rw [← hx] at gs
     simp (config:={maxSteps:=1000000}) (disch:=((try simp only [awL]);omega)) only [QR,QS,QT,QU,QV,QW,QX,QY,QZ,Q0,Q1,Q2,gl,gr,sl,gs,Tryz.f38,↓awU,awV,awF,Qa,Qb,Qc,Qd,forall_const,↓reduceIte,↓reduceDIte,↓Qe,Qf,Qg,Qh,Qi,Qj,Qk,Ql,Qm,Qn,Qo,Qp,Qq,Qr,Qs,implies_true,Qt,Qu,Qv,Qw,Qx,Qy,Qz,QA,QB,QC,QD,QE,QF,QG,QH,QI,QJ,QK,QL,QM,QN,QO,QP,QQ]
     try rfl
    ·rw [List.getD_eq_getElem?_getD,List.getElem?_eq_none h4] at hx
     subst hx
     simp (config:={maxSteps:=1000000}) (disch:=((try simp only [awL]);omega)) only [QR,QS,QT,QU,QV,QW,QX,QY,QZ,Q0,Q1,Q2,gl,gr,sl,Tryz.f38,↓awU,awV,awF,Qa,Qb,Qc,Qd,forall_const,↓reduceIte,↓reduceDIte,↓Qe,Qf,Qg,Qh,Qi,Qj,Qk,Ql,Qm,Qn,Qo,Qp,Qq,Qr,Qs,implies_true,Qt,Qu,Qv,Qw,Qx,Qy,Qz,QA,QB,QC,QD,QE,QF,QG,QH,QI,QJ,QK,QL,QM,QN,QO,QP,QQ]
     try rfl
  ·have e:g.getD p []=[]:=by rw [List.getD_eq_getElem?_getD,List.getElem?_eq_none h2];rfl
   rw [Int.toNat_natCast,e] at hx
   have e2:x=[]:=by
    rw [hx];split<;>simp
   subst e2
   simp (config:={maxSteps:=1000000}) (disch:=((try simp only [awL]);omega)) only [QR,QS,QT,QU,QV,QW,QX,QY,QZ,Q0,Q1,Q2,gl,Tryz.f38,↓awU,awV,awF,Qa,Qb,Qc,Qd,forall_const,↓reduceIte,↓reduceDIte,↓Qe,Qf,Qg,Qh,Qi,Qj,Qk,Ql,Qm,Qn,Qo,Qp,Qq,Qr,Qs,implies_true,Qt,Qu,Qv,Qw,Qx,Qy,Qz,QA,QB,QC,QD,QE,QF,QG,QH,QI,QJ,QK,QL,QM,QN,QO,QP,QQ]
   try rfl
set_option maxHeartbeats 4000000 in
set_option maxRecDepth 100000 in
theorem rwidth_spec (g:List Row) (full:Bool) (hg:okGW g):Ctr Tryz.prog G 26 [.d (.agg [Gr g full])] [] (.d (.int .i64 (widG g))) []:=by
 obtain ⟨r,hr⟩:∃ r,r=widG g:=⟨_,rfl⟩
 rw [← hr]
 refine Ctr.pure (M:=M0) hmix Tryz.func26 rfl go26 ?_
 have gl:=@rowsD_length g
 have hgl:=hg.1
 simp (config:={maxSteps:=1000000}) (disch:=((try simp only [awL]);omega)) only [QR,QS,QT,QU,QV,QW,QX,QY,QZ,Q0,Q1,Q2,gl,Tryz.f26,↓awU,awV,awF,Qa,Qb,Qc,Qd,forall_const,↓reduceIte,↓reduceDIte,↓Qe,Qf,Qg,Qh,Qi,Qj,Qk,Ql,Qm,Qn,Qo,Qp,Qq,Qr,Qs,implies_true,Qt,Qu,Qv,Qw,Qx,Qy,Qz,QA,QB,QC,QD,QE,QF,QG,QH,QI,QJ,QK,QL,QM,QN,QO,QP,QQ]
 refine LoopC.fr 384 (α:=Nat) (fun i=>g.length - i) (fun i=>[(3,.d (.int .i64 (widG (g.take i)))),(9,.d (.int .i64 i))]) (fun _=>[]) (fun i=>i≤g.length) 0 (Nat.zero_le _) ?_ ?_
 ·exact ⟨[],rfl,by simp,by simp [setsA,keepA,SWeak,AWeak,widG],by simp [HWeak,BWeak,SWeak,AWeak]⟩
 ·intro i hi
  simp only [awK,Nat.reduceMod,Nat.reduceDiv,reduceIte]
  rcases Nat.lt_or_ge i g.length with h | h
  ·have gr:=rowsD_getD (g:=g) (i:=i) h
   have ok:=(hg.2 _ (memD (d:=[]) h)).1
   have wt:=widG_take h
   have wl:=widG_le (m:=1000000000) (g:=g.take i) (fun r hr=>(hg.2 r (List.mem_of_mem_take hr)).1)
   generalize g.getD i []=ro at *
   generalize widG (g.take i)=m at *
   simp (config:={maxSteps:=1000000}) (disch:=((try simp only [awL]);omega)) only [QR,QS,QT,QU,QV,QW,QX,QY,QZ,Q0,Q1,Q2,gl,gr,↓awU,awV,awF,Qa,Qb,Qc,Qd,forall_const,↓reduceIte,↓reduceDIte,↓Qe,Qf,Qg,Qh,Qi,Qj,Qk,Ql,Qm,Qn,Qo,Qp,Qq,Qr,Qs,implies_true,Qt,Qu,Qv,Qw,Qx,Qy,Qz,QA,QB,QC,QD,QE,QF,QG,QH,QI,QJ,QK,QL,QM,QN,QO,QP,QQ]
   exact ⟨i+1,h,by simp only;omega,⟨[],rfl,by simp,by simp [setsA,keepA,SWeak,AWeak,wt],by simp [HWeak,BWeak,SWeak,AWeak]⟩⟩
  ·rw [List.take_of_length_le h,← hr]
   simp (config:={maxSteps:=1000000}) (disch:=((try simp only [awL]);omega)) only [QR,QS,QT,QU,QV,QW,QX,QY,QZ,Q0,Q1,Q2,gl,↓awU,awV,awF,Qa,Qb,Qc,Qd,forall_const,↓reduceIte,↓reduceDIte,↓Qe,Qf,Qg,Qh,Qi,Qj,Qk,Ql,Qm,Qn,Qo,Qp,Qq,Qr,Qs,implies_true,Qt,Qu,Qv,Qw,Qx,Qy,Qz,QA,QB,QC,QD,QE,QF,QG,QH,QI,QJ,QK,QL,QM,QN,QO,QP,QQ]
set_option maxHeartbeats 4000000 in
set_option maxRecDepth 100000 in
theorem rgat_spec (g:List Row) (full:Bool) (hg:okGW g) (r c:Int) (r1:-9223372036854775808≤r) (r2:r≤9223372036854775807) (c1:-9223372036854775808≤c) (c2:c≤9223372036854775807) :
  Ctr Tryz.prog G 28 [.d (.agg [Gr g full]),.d (.int .i64 r),.d (.int .i64 c)] [] (.d (S (atG g r c))) []:=by
 obtain ⟨x,hx⟩:∃ x,x=atG g r c:=⟨_,rfl⟩
 rw [← hx]
 unfold atG at hx
 refine Ctr.pure (M:=M0) hmix Tryz.func28 rfl go28 ?_
 have gl:=@rowsD_length g
 have hgl:=hg.1
 rcases (by omega:r<0∨0≤r) with h1 | h1
 ·rw [if_pos (.inl h1)] at hx
  subst hx
  simp (config:={maxSteps:=1000000}) (disch:=((try simp only [awL]);omega)) only [QR,QS,QT,QU,QV,QW,QX,QY,QZ,Q0,Q1,Q2,gl,Tryz.f28,↓awU,awV,awF,Qa,Qb,Qc,Qd,forall_const,↓reduceIte,↓reduceDIte,↓Qe,Qf,Qg,Qh,Qi,Qj,Qk,Ql,Qm,Qn,Qo,Qp,Qq,Qr,Qs,implies_true,Qt,Qu,Qv,Qw,Qx,Qy,Qz,QA,QB,QC,QD,QE,QF,QG,QH,QI,QJ,QK,QL,QM,QN,QO,QP,QQ]
  try rfl
 ·obtain ⟨p,rfl⟩:∃ p:Nat,r=p:=⟨r.toNat,by omega⟩
  rcases Nat.lt_or_ge p g.length with h2 | h2
  ·have gr:=rowsD_getD (g:=g) (i:=p) h2
   have ok:=(hg.2 _ (memD (d:=[]) h2)).1
   rw [Int.toNat_natCast] at hx
   generalize g.getD p []=ro at *
   have sl:=@strs_length ro
   rcases (by omega:c<0∨0≤c) with h3 | h3
   ·rw [if_pos (.inr h3)] at hx
    subst hx
    simp (config:={maxSteps:=1000000}) (disch:=((try simp only [awL]);omega)) only [QR,QS,QT,QU,QV,QW,QX,QY,QZ,Q0,Q1,Q2,gl,gr,sl,Tryz.f28,↓awU,awV,awF,Qa,Qb,Qc,Qd,forall_const,↓reduceIte,↓reduceDIte,↓Qe,Qf,Qg,Qh,Qi,Qj,Qk,Ql,Qm,Qn,Qo,Qp,Qq,Qr,Qs,implies_true,Qt,Qu,Qv,Qw,Qx,Qy,Qz,QA,QB,QC,QD,QE,QF,QG,QH,QI,QJ,QK,QL,QM,QN,QO,QP,QQ]
    try rfl
   ·obtain ⟨q,rfl⟩:∃ q:Nat,c=q:=⟨c.toNat,by omega⟩
    rw [if_neg (by omega),Int.toNat_natCast] at hx
    rcases Nat.lt_or_ge q ro.length with h4 | h4
    ·have gs:=strs_getD h4
     rw [← hx] at gs
     simp (config:={maxSteps:=1000000}) (disch:=((try simp only [awL]);omega)) only [QR,QS,QT,QU,QV,QW,QX,QY,QZ,Q0,Q1,Q2,gl,gr,sl,gs,Tryz.f28,↓awU,awV,awF,Qa,Qb,Qc,Qd,forall_const,↓reduceIte,↓reduceDIte,↓Qe,Qf,Qg,Qh,Qi,Qj,Qk,Ql,Qm,Qn,Qo,Qp,Qq,Qr,Qs,implies_true,Qt,Qu,Qv,Qw,Qx,Qy,Qz,QA,QB,QC,QD,QE,QF,QG,QH,QI,QJ,QK,QL,QM,QN,QO,QP,QQ]
     try rfl
    ·rw [List.getD_eq_getElem?_getD,List.getElem?_eq_none h4] at hx
     subst hx
     simp (config:={maxSteps:=1000000}) (disch:=((try simp only [awL]);omega)) only [QR,QS,QT,QU,QV,QW,QX,QY,QZ,Q0,Q1,Q2,gl,gr,sl,Tryz.f28,↓awU,awV,awF,Qa,Qb,Qc,Qd,forall_const,↓reduceIte,↓reduceDIte,↓Qe,Qf,Qg,Qh,Qi,Qj,Qk,Ql,Qm,Qn,Qo,Qp,Qq,Qr,Qs,implies_true,Qt,Qu,Qv,Qw,Qx,Qy,Qz,QA,QB,QC,QD,QE,QF,QG,QH,QI,QJ,QK,QL,QM,QN,QO,QP,QQ]
     try rfl
  ·have e:g.getD p []=[]:=by rw [List.getD_eq_getElem?_getD,List.getElem?_eq_none h2];rfl
   rw [Int.toNat_natCast,e] at hx
   have e2:x=[]:=by
    rw [hx];split<;>simp
   subst e2
   simp (config:={maxSteps:=1000000}) (disch:=((try simp only [awL]);omega)) only [QR,QS,QT,QU,QV,QW,QX,QY,QZ,Q0,Q1,Q2,gl,Tryz.f28,↓awU,awV,awF,Qa,Qb,Qc,Qd,forall_const,↓reduceIte,↓reduceDIte,↓Qe,Qf,Qg,Qh,Qi,Qj,Qk,Ql,Qm,Qn,Qo,Qp,Qq,Qr,Qs,implies_true,Qt,Qu,Qv,Qw,Qx,Qy,Qz,QA,QB,QC,QD,QE,QF,QG,QH,QI,QJ,QK,QL,QM,QN,QO,QP,QQ]
   try rfl
end Go.Proofs.YthbnileadffpiaaGreatDoor
namespace Go.Proofs.YthbnileadffpiaaGreatDoor.Num
open Go Go.Proofs Go.Abs
variable {G:Globals}
abbrev S (l:List UInt8):D:=.str (bs l)
def hasP (s p:List UInt8):Bool:=decide (s.take p.length=p)
theorem hasP_le {s p:List UInt8} (h:hasP s p=true):p.length≤s.length:=by
 have:=of_decide_eq_true h
 have h2:=congrArg List.length this
 simp at h2;omega
theorem hasPrefix_spec (s p:List UInt8):Ctr Tryz.prog G 130 [.d (S s),.d (S p)] [] (.d (.bool (hasP s p))) []:=by
 refine Ctr.pure (M:=M0) hmix Tryz.func130 rfl go130 ?_
 simp (config:={maxSteps:=1000000}) (disch:=((try simp only [awL]);omega)) only [QR,QS,QT,QU,QV,QW,QX,QY,QZ,Q0,Q1,Q2,Tryz.f130,↓awU,awV,awF,Qa,Qb,Qc,Qd,forall_const,↓reduceIte,↓reduceDIte,↓Qe,Qf,Qg,Qh,Qi,Qj,Qk,Ql,Qm,Qn,Qo,Qp,Qq,Qr,Qs,implies_true,Qt,Qu,Qv,Qw,Qx,Qy,Qz,QA,QB,QC,QD,QE,QF,QG,QH,QI,QJ,QK,QL,QM,QN,QO,QP,QQ]
 refine ⟨fun _=>rfl,fun h=>(decide_eq_false fun e=>h ?_).symm⟩
 have:=congrArg List.length e
 simp at this
 omega
theorem cutPrefixL_spec (s p:List UInt8):Ctr Tryz.prog G 103 [.d (S s),.d (S p)] [] (.d (.tup [S (if hasP s p then s.drop p.length else s),.bool (hasP s p)])) []:=by
 refine Ctr.pure (M:=M0) hmix Tryz.func103 rfl go103 ?_
 simp (config:={maxSteps:=1000000}) (disch:=((try simp only [awL]);omega)) only [QR,QS,QT,QU,QV,QW,QX,QY,QZ,Q0,Q1,Q2,Tryz.f103,↓awU,awV,awF,Qa,Qb,Qc,Qd,forall_const,↓reduceIte,↓reduceDIte,↓Qe,Qf,Qg,Qh,Qi,Qj,Qk,Ql,Qm,Qn,Qo,Qp,Qq,Qr,Qs,implies_true,Qt,Qu,Qv,Qw,Qx,Qy,Qz,QA,QB,QC,QD,QE,QF,QG,QH,QI,QJ,QK,QL,QM,QN,QO,QP,QQ]
 refine CallC.pure (hasPrefix_spec s p) ?_
 cases h:hasP s p
 ·simp (config:={maxSteps:=1000000}) (disch:=((try simp only [awL]);omega)) only [QR,QS,QT,QU,QV,QW,QX,QY,QZ,Q0,Q1,Q2,↓awU,awV,awF,Qa,Qb,Qc,Qd,forall_const,↓reduceIte,↓reduceDIte,↓Qe,Qf,Qg,Qh,Qi,Qj,Qk,Ql,Qm,Qn,Qo,Qp,Qq,Qr,Qs,implies_true,Qt,Qu,Qv,Qw,Qx,Qy,Qz,QA,QB,QC,QD,QE,QF,QG,QH,QI,QJ,QK,QL,QM,QN,QO,QP,QQ]
 ·have:=hasP_le h
  simp (config:={maxSteps:=1000000}) (disch:=((try simp only [awL]);omega)) only [QR,QS,QT,QU,QV,QW,QX,QY,QZ,Q0,Q1,Q2,↓awU,awV,awF,Qa,Qb,Qc,Qd,forall_const,↓reduceIte,↓reduceDIte,↓Qe,Qf,Qg,Qh,Qi,Qj,Qk,Ql,Qm,Qn,Qo,Qp,Qq,Qr,Qs,implies_true,Qt,Qu,Qv,Qw,Qx,Qy,Qz,QA,QB,QC,QD,QE,QF,QG,QH,QI,QJ,QK,QL,QM,QN,QO,QP,QQ]
theorem cutPrefix_spec (s p:List UInt8):Ctr Tryz.prog G 72 [.d (S s),.d (S p)] [] (.d (.tup [S (if hasP s p then s.drop p.length else s),.bool (hasP s p)])) []:=by
 refine Ctr.pure (M:=M0) hmix Tryz.func72 rfl go72 ?_
 simp (config:={maxSteps:=1000000}) (disch:=((try simp only [awL]);omega)) only [QR,QS,QT,QU,QV,QW,QX,QY,QZ,Q0,Q1,Q2,Tryz.f72,↓awU,awV,awF,Qa,Qb,Qc,Qd,forall_const,↓reduceIte,↓reduceDIte,↓Qe,Qf,Qg,Qh,Qi,Qj,Qk,Ql,Qm,Qn,Qo,Qp,Qq,Qr,Qs,implies_true,Qt,Qu,Qv,Qw,Qx,Qy,Qz,QA,QB,QC,QD,QE,QF,QG,QH,QI,QJ,QK,QL,QM,QN,QO,QP,QQ]
 refine CallC.pure (cutPrefixL_spec s p) ?_
 simp (config:={maxSteps:=1000000}) (disch:=((try simp only [awL]);omega)) only [QR,QS,QT,QU,QV,QW,QX,QY,QZ,Q0,Q1,Q2,↓awU,awV,awF,Qa,Qb,Qc,Qd,forall_const,↓reduceIte,↓reduceDIte,↓Qe,Qf,Qg,Qh,Qi,Qj,Qk,Ql,Qm,Qn,Qo,Qp,Qq,Qr,Qs,implies_true,Qt,Qu,Qv,Qw,Qx,Qy,Qz,QA,QB,QC,QD,QE,QF,QG,QH,QI,QJ,QK,QL,QM,QN,QO,QP,QQ]
theorem trimPrefixL_spec (s p:List UInt8):Ctr Tryz.prog G 104 [.d (S s),.d (S p)] [] (.d (S (if hasP s p then s.drop p.length else s))) []:=by
 refine Ctr.pure (M:=M0) hmix Tryz.func104 rfl go104 ?_
 simp (config:={maxSteps:=1000000}) (disch:=((try simp only [awL]);omega)) only [QR,QS,QT,QU,QV,QW,QX,QY,QZ,Q0,Q1,Q2,Tryz.f104,↓awU,awV,awF,Qa,Qb,Qc,Qd,forall_const,↓reduceIte,↓reduceDIte,↓Qe,Qf,Qg,Qh,Qi,Qj,Qk,Ql,Qm,Qn,Qo,Qp,Qq,Qr,Qs,implies_true,Qt,Qu,Qv,Qw,Qx,Qy,Qz,QA,QB,QC,QD,QE,QF,QG,QH,QI,QJ,QK,QL,QM,QN,QO,QP,QQ]
 refine CallC.pure (hasPrefix_spec s p) ?_
 cases h:hasP s p
 ·simp (config:={maxSteps:=1000000}) (disch:=((try simp only [awL]);omega)) only [QR,QS,QT,QU,QV,QW,QX,QY,QZ,Q0,Q1,Q2,↓awU,awV,awF,Qa,Qb,Qc,Qd,forall_const,↓reduceIte,↓reduceDIte,↓Qe,Qf,Qg,Qh,Qi,Qj,Qk,Ql,Qm,Qn,Qo,Qp,Qq,Qr,Qs,implies_true,Qt,Qu,Qv,Qw,Qx,Qy,Qz,QA,QB,QC,QD,QE,QF,QG,QH,QI,QJ,QK,QL,QM,QN,QO,QP,QQ]
 ·have:=hasP_le h
  simp (config:={maxSteps:=1000000}) (disch:=((try simp only [awL]);omega)) only [QR,QS,QT,QU,QV,QW,QX,QY,QZ,Q0,Q1,Q2,↓awU,awV,awF,Qa,Qb,Qc,Qd,forall_const,↓reduceIte,↓reduceDIte,↓Qe,Qf,Qg,Qh,Qi,Qj,Qk,Ql,Qm,Qn,Qo,Qp,Qq,Qr,Qs,implies_true,Qt,Qu,Qv,Qw,Qx,Qy,Qz,QA,QB,QC,QD,QE,QF,QG,QH,QI,QJ,QK,QL,QM,QN,QO,QP,QQ]
theorem trimPrefix_spec (s p:List UInt8):Ctr Tryz.prog G 73 [.d (S s),.d (S p)] [] (.d (S (if hasP s p then s.drop p.length else s))) []:=by
 refine Ctr.pure (M:=M0) hmix Tryz.func73 rfl go73 ?_
 simp (config:={maxSteps:=1000000}) (disch:=((try simp only [awL]);omega)) only [QR,QS,QT,QU,QV,QW,QX,QY,QZ,Q0,Q1,Q2,Tryz.f73,↓awU,awV,awF,Qa,Qb,Qc,Qd,forall_const,↓reduceIte,↓reduceDIte,↓Qe,Qf,Qg,Qh,Qi,Qj,Qk,Ql,Qm,Qn,Qo,Qp,Qq,Qr,Qs,implies_true,Qt,Qu,Qv,Qw,Qx,Qy,Qz,QA,QB,QC,QD,QE,QF,QG,QH,QI,QJ,QK,QL,QM,QN,QO,QP,QQ]
 refine CallC.pure (trimPrefixL_spec s p) ?_
 simp (config:={maxSteps:=1000000}) (disch:=((try simp only [awL]);omega)) only [QR,QS,QT,QU,QV,QW,QX,QY,QZ,Q0,Q1,Q2,↓awU,awV,awF,Qa,Qb,Qc,Qd,forall_const,↓reduceIte,↓reduceDIte,↓Qe,Qf,Qg,Qh,Qi,Qj,Qk,Ql,Qm,Qn,Qo,Qp,Qq,Qr,Qs,implies_true,Qt,Qu,Qv,Qw,Qx,Qy,Qz,QA,QB,QC,QD,QE,QF,QG,QH,QI,QJ,QK,QL,QM,QN,QO,QP,QQ]
set_option maxHeartbeats 1000000 in
set_option maxRecDepth 100000 in
theorem indexByte_calls (s:ByteArray) (c:Int) (w:World) :
  Calls Tryz.prog 150 #[.string s,.int .u8 c] w fun e w'=>e=.returned (.int .i64 (Lib.indexByte s.data.toList c.toNat.toUInt8))∧w'=w:=by
 go_enter Tryz.func150,Tryz.ntmps150
 go_wp2
 rw [run_callFunc_extern Tryz.func162 (by kernel_rfl) (by kernel_rfl) (by kernel_rfl) (e:=Extern.BytealgIndexByte.indexByte) (by kernel_rfl),Lib.run_indexByteString]
 simp only [Result.andThen]
 rw [Oper.upon_value]
 go_wp2
 go_ret
 exact ⟨rfl,rfl⟩
theorem indexByte_spec (s:List UInt8) (c:UInt8):Ctr Tryz.prog G 150 [.d (S s),.d (.int .u8 c.toNat)] [] (.d (.int .i64 (Lib.indexByte s c))) []:=by
 refine Ctr.of_calls go150 fun h ρ w vs q r=>?_
 obtain ⟨v,u,rfl,hv,hu⟩:=r.inv2
 rw [hv.str_inv,hu.int_inv]
 refine (indexByte_calls (bs s) c.toNat w).mono ?_
 rintro e w' ⟨rfl,rfl⟩
 refine ⟨_,rfl,?_,.refl _ _⟩
 have:((c.toNat:Int)).toNat.toUInt8=c:=by simp
 rw [this]
 exact .int _ _
def cutL (c:UInt8):List UInt8→List UInt8
 | []=>[]
 | b::l=>if b=c then [] else b::cutL c l
def cutR (c:UInt8):List UInt8→List UInt8
 | []=>[]
 | b::l=>if b=c then l else cutR c l
theorem cut_index (c:UInt8):∀ s:List UInt8,(c∈s→∃ k:Nat,Lib.indexByte s c=k∧k<s.length∧s.take k=cutL c s∧s.drop (k+1)=cutR c s)∧(c∉s→Lib.indexByte s c=-1∧cutL c s=s∧cutR c s=[])
 | []=>⟨fun h=>absurd h List.not_mem_nil,fun _=>⟨rfl,rfl,rfl⟩⟩
 | b::l=>by
   obtain ⟨i1,i2⟩:=cut_index c l
   by_cases e:b=c
   ·subst e
    refine ⟨fun _=>⟨0,?_,by simp,by simp [cutL],by simp [cutR]⟩,fun h=>absurd (List.mem_cons_self ..) h⟩
    simp [Lib.indexByte]
   ·have e2:¬ c=b:=fun h=>e h.symm
    refine ⟨fun h=>?_,fun h=>?_⟩
    ·obtain ⟨k,h1,h2,h3,h4⟩:=i1 ((List.mem_cons.1 h).resolve_left e2)
     refine ⟨k+1,?_,by simpa using h2,by simp [cutL,e,h3],by simp [cutR,e,h4]⟩
     simp only [Lib.indexByte,h1]
     rw [if_neg (by simpa using e),if_neg (by simp)]
     omega
    ·obtain ⟨h1,h2,h3⟩:=i2 (fun h2=>h (List.mem_cons_of_mem _ h2))
     refine ⟨?_,by simp [cutL,e,h2],by simp [cutR,e,h3]⟩
     simp only [Lib.indexByte,h1]
     rw [if_neg (by simpa using e),if_pos (by decide)]
theorem index1_spec (s:List UInt8) (c:UInt8) (hs:s.length<2 ^ 62):Ctr Tryz.prog G 131 [.d (S s),.d (S [c])] [] (.d (.int .i64 (Lib.indexByte s c))) []:=by
 refine Ctr.pure (M:=M0) hmix Tryz.func131 rfl go131 ?_
 simp (config:={maxSteps:=1000000}) (disch:=((try simp only [awL]);omega)) only [QR,QS,QT,QU,QV,QW,QX,QY,QZ,Q0,Q1,Q2,Tryz.f131,↓awU,awV,awF,Qa,Qb,Qc,Qd,forall_const,↓reduceIte,↓reduceDIte,↓Qe,Qf,Qg,Qh,Qi,Qj,Qk,Ql,Qm,Qn,Qo,Qp,Qq,Qr,Qs,implies_true,Qt,Qu,Qv,Qw,Qx,Qy,Qz,QA,QB,QC,QD,QE,QF,QG,QH,QI,QJ,QK,QL,QM,QN,QO,QP,QQ]
 refine ⟨fun h=>?_,fun h=>?_⟩
 ·rw [← h];simp [Lib.indexByte]
 ·refine CallC.pure (indexByte_spec s c) ?_
  simp (config:={maxSteps:=1000000}) (disch:=((try simp only [awL]);omega)) only [QR,QS,QT,QU,QV,QW,QX,QY,QZ,Q0,Q1,Q2,↓awU,awV,awF,Qa,Qb,Qc,Qd,forall_const,↓reduceIte,↓reduceDIte,↓Qe,Qf,Qg,Qh,Qi,Qj,Qk,Ql,Qm,Qn,Qo,Qp,Qq,Qr,Qs,implies_true,Qt,Qu,Qv,Qw,Qx,Qy,Qz,QA,QB,QC,QD,QE,QF,QG,QH,QI,QJ,QK,QL,QM,QN,QO,QP,QQ]
theorem cutS_spec (s:List UInt8) (c:UInt8) (hs:s.length<2 ^ 62):Ctr Tryz.prog G 105 [.d (S s),.d (S [c])] [] (.d (.tup [S (cutL c s),S (cutR c s),.bool (decide (c∈s))])) []:=by
 refine Ctr.pure (M:=M0) hmix Tryz.func105 rfl go105 ?_
 simp (config:={maxSteps:=1000000}) (disch:=((try simp only [awL]);omega)) only [QR,QS,QT,QU,QV,QW,QX,QY,QZ,Q0,Q1,Q2,Tryz.f105,↓awU,awV,awF,Qa,Qb,Qc,Qd,forall_const,↓reduceIte,↓reduceDIte,↓Qe,Qf,Qg,Qh,Qi,Qj,Qk,Ql,Qm,Qn,Qo,Qp,Qq,Qr,Qs,implies_true,Qt,Qu,Qv,Qw,Qx,Qy,Qz,QA,QB,QC,QD,QE,QF,QG,QH,QI,QJ,QK,QL,QM,QN,QO,QP,QQ]
 refine CallC.pure (index1_spec s c hs) ?_
 obtain ⟨i1,i2⟩:=cut_index c s
 by_cases h:c∈s
 ·obtain ⟨k,h1,h2,h3,h4⟩:=i1 h
  rw [h1,decide_eq_true h,← h3,← h4]
  simp (config:={maxSteps:=1000000}) (disch:=((try simp only [awL]);omega)) only [QR,QS,QT,QU,QV,QW,QX,QY,QZ,Q0,Q1,Q2,↓awU,awV,awF,Qa,Qb,Qc,Qd,forall_const,↓reduceIte,↓reduceDIte,↓Qe,Qf,Qg,Qh,Qi,Qj,Qk,Ql,Qm,Qn,Qo,Qp,Qq,Qr,Qs,implies_true,Qt,Qu,Qv,Qw,Qx,Qy,Qz,QA,QB,QC,QD,QE,QF,QG,QH,QI,QJ,QK,QL,QM,QN,QO,QP,QQ]
  rfl
 ·obtain ⟨h1,h3,h4⟩:=i2 h
  rw [h1,decide_eq_false h,h3,h4]
  simp (config:={maxSteps:=1000000}) (disch:=((try simp only [awL]);omega)) only [QR,QS,QT,QU,QV,QW,QX,QY,QZ,Q0,Q1,Q2,↓awU,awV,awF,Qa,Qb,Qc,Qd,forall_const,↓reduceIte,↓reduceDIte,↓Qe,Qf,Qg,Qh,Qi,Qj,Qk,Ql,Qm,Qn,Qo,Qp,Qq,Qr,Qs,implies_true,Qt,Qu,Qv,Qw,Qx,Qy,Qz,QA,QB,QC,QD,QE,QF,QG,QH,QI,QJ,QK,QL,QM,QN,QO,QP,QQ]
theorem cut_spec (s:List UInt8) (c:UInt8) (hs:s.length<2 ^ 62):Ctr Tryz.prog G 74 [.d (S s),.d (S [c])] [] (.d (.tup [S (cutL c s),S (cutR c s),.bool (decide (c∈s))])) []:=by
 refine Ctr.pure (M:=M0) hmix Tryz.func74 rfl go74 ?_
 simp (config:={maxSteps:=1000000}) (disch:=((try simp only [awL]);omega)) only [QR,QS,QT,QU,QV,QW,QX,QY,QZ,Q0,Q1,Q2,Tryz.f74,↓awU,awV,awF,Qa,Qb,Qc,Qd,forall_const,↓reduceIte,↓reduceDIte,↓Qe,Qf,Qg,Qh,Qi,Qj,Qk,Ql,Qm,Qn,Qo,Qp,Qq,Qr,Qs,implies_true,Qt,Qu,Qv,Qw,Qx,Qy,Qz,QA,QB,QC,QD,QE,QF,QG,QH,QI,QJ,QK,QL,QM,QN,QO,QP,QQ]
 refine CallC.pure (cutS_spec s c hs) ?_
 simp (config:={maxSteps:=1000000}) (disch:=((try simp only [awL]);omega)) only [QR,QS,QT,QU,QV,QW,QX,QY,QZ,Q0,Q1,Q2,↓awU,awV,awF,Qa,Qb,Qc,Qd,forall_const,↓reduceIte,↓reduceDIte,↓Qe,Qf,Qg,Qh,Qi,Qj,Qk,Ql,Qm,Qn,Qo,Qp,Qq,Qr,Qs,implies_true,Qt,Qu,Qv,Qw,Qx,Qy,Qz,QA,QB,QC,QD,QE,QF,QG,QH,QI,QJ,QK,QL,QM,QN,QO,QP,QQ]
end Go.Proofs.YthbnileadffpiaaGreatDoor.Num
namespace Go.Proofs.YthbnileadffpiaaGreatDoor.Num
open Go Go.Proofs Go.Abs
variable {G:Globals}
def setD (l:List UInt8):List D:=(List.range 256).map fun i=>.bool (l.any fun b=>b.toNat == i)
def setB (l:List UInt8):List AV:=(setD l).map .d
theorem setB_length {l:List UInt8}:(setB l).length=256:=by simp [setB,setD]
theorem setD_length {l:List UInt8}:(setD l).length=256:=by simp [setD]
set_option maxRecDepth 10000 in
theorem setB_nil:setB []=List.replicate 256 (.d (.bool false)):=by rfl
theorem setD_get {l:List UInt8} {c:UInt8} {d:D}:(setD l).getD c.toNat d=.bool (l.contains c):=by
 have hc:=c.toNat_lt
 simp only [setD,List.getD_eq_getElem?_getD,List.getElem?_map,List.getElem?_range (show c.toNat<256 by omega),Option.map_some,Option.getD_some]
 rw [List.contains_eq_any_beq]
 refine congrArg (fun f=>D.bool (l.any f)) ?_
 funext b
 show (b.toNat == c.toNat)=_
 by_cases h:b=c
 ·subst h;simp
 ·have:¬ b.toNat=c.toNat:=fun e=>h (UInt8.toNat_inj.1 e)
  have h':¬ c=b:=fun e=>h e.symm
  rw [beq_eq_false_iff_ne.2 this];exact (beq_eq_false_iff_ne.2 h').symm
theorem setB_get {l:List UInt8} {c:UInt8} {d:AV}:(setB l).getD c.toNat d=.d (.bool (l.contains c)):=by
 have hc:=c.toNat_lt
 have:=@setD_get l c .nilp
 rw [List.getD_eq_getElem?_getD,List.getElem?_eq_getElem (by rw [setD_length];omega)] at this
 rw [setB,List.getD_eq_getElem?_getD,List.getElem?_map,List.getElem?_eq_getElem (by rw [setD_length];omega)]
 simp only [Option.getD_some] at this
 rw [Option.map_some,Option.getD_some,this]
theorem setB_set {l:List UInt8} {c:UInt8}:(setB l).set c.toNat (.d (.bool true))=setB (l++[c]):=by
 have hc:=c.toNat_lt
 apply List.ext_getElem
 ·rw [List.length_set,setB_length,setB_length]
 ·intro i h1 h2
  rw [List.length_set,setB_length] at h1
  rw [List.getElem_set]
  simp only [setB,setD,List.getElem_map,List.getElem_range,List.any_append,List.any_cons,List.any_nil,Bool.or_false]
  split
  ·rename_i e;subst e;simp
  ·rename_i e
   have:(c.toNat == i)=false:=by simpa using e
   rw [this,Bool.or_false]
theorem SWeak_map {fl:List (Option Nat)}:∀ l:List D,SWeak fl (l.map .d) (l.map .d)
 | []=>by simp [SWeak]
 | x::l=>by simp only [List.map_cons,SWeak];exact ⟨by simp [AWeak],SWeak_map l⟩
theorem setB_weak {fl:List (Option Nat)} {l:List UInt8}:SWeak fl (setB l) (setB l)=True:=eq_true (SWeak_map _)
theorem mem_getDU {α:Type} {l:List α} {i:Nat} {d:α} (h:i<l.length):l.getD i d∈l:=by
 rw [List.getD_eq_getElem?_getD,List.getElem?_eq_getElem h];exact List.getElem_mem h
theorem setB_two (l:List UInt8):∃ a b cs,setB l=a::b::cs:=by
 have:=@setB_length l
 match h:setB l with
 | []=>rw [h] at this;cases this
 | [_]=>rw [h] at this;cases this
 | a::b::cs=>exact ⟨a,b,cs,rfl⟩
theorem setB_one {l:List UInt8}:(setB l).all AV.one=true:=by
 simp [setB,setD,AV.one,D.one]
theorem setB_seal {H:List ABlk} {l:List UInt8}:sealL H (setB l)=some (setD l):=by
 have:∀ m:List D,sealL H (m.map .d)=some m:=fun m=>by
  induction m with
  | nil=>rfl
  | cons x m ih=>simp only [List.map_cons,sealL,sealA,ih]
 exact this _
theorem setB_refs {l:List UInt8}:refsL (setB l)=[]:=by
 have:∀ m:List D,refsL (m.map .d)=[]:=fun m=>by
  induction m with
  | nil=>rfl
  | cons x m ih=>simp only [List.map_cons,refsL,refsA,ih,List.append_nil]
 exact this _
theorem setB_pass {H:List ABlk} {L:List Nat} {l:List UInt8}:passL H L (setB l)=some (setB l):=by
 have:∀ m:List D,passL H L (m.map .d)=some (m.map .d):=fun m=>by
  induction m with
  | nil=>rfl
  | cons x m ih=>simp only [List.map_cons,passL,passA,ih]
 exact this _
theorem setB_sids {H:List ABlk} {L:List Nat} {l:List UInt8}:sidsL H L (setB l)=[]:=by
 have:∀ m:List D,sidsL H L (m.map .d)=[]:=fun m=>by
  induction m with
  | nil=>rfl
  | cons x m ih=>simp only [List.map_cons,sidsL,sidsA,ih,List.append_nil]
 exact this _
theorem setB_ren {f:Nat→Nat} {l:List UInt8}:renL f (setB l)=setB l:=by
 have:∀ m:List D,renL f (m.map .d)=m.map .d:=fun m=>by
  induction m with
  | nil=>rfl
  | cons x m ih=>simp only [List.map_cons,renL,renA,ih]
 exact this _
theorem take_succ_getD {s:List UInt8} {i:Nat} (h:i<s.length):s.take i++[s.getD i 0]=s.take (i+1):=by
 rw [List.take_add_one,List.getElem?_eq_getElem h,List.getD_eq_getElem?_getD,List.getElem?_eq_getElem h];rfl
theorem contains_spec (l:List UInt8) (c:UInt8):Ctr Tryz.prog G 111 [.ptr 0 0,.d (.int .u8 c.toNat)] [.box (setB l)] (.d (.bool (l.contains c))) [.box (setB l)]:=by
 have hc:=c.toNat_lt
 have hl:=@setB_length l
 refine Ctr.body (M:=M0) hmix Tryz.func111 rfl go111 ?_
 simp (config:={maxSteps:=1000000}) (disch:=((try simp only [awL]);omega)) only [QR,QS,QT,QU,QV,QW,QX,QY,QZ,Q0,Q1,Q2,hl,setB_get,Tryz.f111,↓awU,awV,awF,Qa,Qb,Qc,Qd,forall_const,↓reduceIte,↓reduceDIte,↓Qe,Qf,Qg,Qh,Qi,Qj,Qk,Ql,Qm,Qn,Qo,Qp,Qq,Qr,Qs,implies_true,Qt,Qu,Qv,Qw,Qx,Qy,Qz,QA,QB,QC,QD,QE,QF,QG,QH,QI,QJ,QK,QL,QM,QN,QO,QP,QQ]
 exact ⟨[some 0],rfl,by simp,by simp [HWeak,BWeak,setB_weak],.inl (by simp [AWeak])⟩
set_option maxRecDepth 100000 in
theorem makeSet_spec (l:List UInt8) (hl:l.length<2 ^ 62) (ha:∀ b∈l,b.toNat<128):Ctr Tryz.prog G 84 [.d (S l)] [] (.d (.tup [.agg (setD l),.bool true])) []:=by
 refine Ctr.pure (M:=M0) hmix Tryz.func84 rfl go84 ?_
 simp (config:={maxSteps:=1000000}) (disch:=((try simp only [awL]);omega)) only [QR,QS,QT,QU,QV,QW,QX,QY,QZ,Q0,Q1,Q2,Tryz.f84,↓awU,awV,awF,Qa,Qb,Qc,Qd,forall_const,↓reduceIte,↓reduceDIte,↓Qe,Qf,Qg,Qh,Qi,Qj,Qk,Ql,Qm,Qn,Qo,Qp,Qq,Qr,Qs,implies_true,Qt,Qu,Qv,Qw,Qx,Qy,Qz,QA,QB,QC,QD,QE,QF,QG,QH,QI,QJ,QK,QL,QM,QN,QO,QP,QQ]
 refine LoopC.fr 5 (α:=Nat) (fun i=>l.length - i) (fun i=>[(4,.d (.int .i64 i))]) (fun i=>[.box (setB (l.take i))]) (fun i=>i≤l.length) 0 (Nat.zero_le _) ?_ ?_
 ·refine ⟨[some 0],rfl,by simp,by simp [setsA,keepA,SWeak,AWeak],?_⟩
  rw [List.take_zero,setB_nil]
  simp only [HWeak,BWeak,List.getElem?_cons_zero]
  refine ⟨SWeak_map (List.replicate 256 (.bool false)),trivial⟩
 ·intro i hi
  have sl:=@setB_length (l.take i)
  simp only [awK,Nat.reduceMod,Nat.reduceDiv,reduceIte]
  rcases Nat.lt_or_ge i l.length with h1 | h1
  ·have hb:=ha _ (mem_getDU (d:=0) h1)
   have hs:=take_succ_getD h1
   simp (config:={maxSteps:=1000000}) (disch:=((try simp only [awL]);omega)) only [QR,QS,QT,QU,QV,QW,QX,QY,QZ,Q0,Q1,Q2,sl,↓awU,awV,awF,Qa,Qb,Qc,Qd,forall_const,↓reduceIte,↓reduceDIte,↓Qe,Qf,Qg,Qh,Qi,Qj,Qk,Ql,Qm,Qn,Qo,Qp,Qq,Qr,Qs,implies_true,Qt,Qu,Qv,Qw,Qx,Qy,Qz,QA,QB,QC,QD,QE,QF,QG,QH,QI,QJ,QK,QL,QM,QN,QO,QP,QQ]
   exact ⟨i+1,h1,by simp only;omega,[some 0],rfl,by simp,by simp [setsA,keepA,SWeak,AWeak],by simp only [HWeak,BWeak,List.getElem?_cons_zero];rw [setB_set,hs];exact ⟨by rw [setB_weak];trivial,trivial⟩⟩
  ·have sl:=@setB_length l
   have tk:(setB l).take 256=setB l:=List.take_of_length_le (by omega)
   obtain ⟨a,b,cs,e⟩:=setB_two l
   have lc:cs.length=254:=by rw [e] at sl;simpa using sl
   have tc:cs.take 254=cs:=List.take_of_length_le (by omega)
   have dc:cs.drop cs.length=[]:=List.drop_length
   simp (config:={maxSteps:=1000000}) (disch:=((try simp only [awL]);omega)) only [QR,QS,QT,QU,QV,QW,QX,QY,QZ,Q0,Q1,Q2,sl,tk,↓awU,awV,awF,Qa,Qb,Qc,Qd,forall_const,↓reduceIte,↓reduceDIte,↓Qe,Qf,Qg,Qh,Qi,Qj,Qk,Ql,Qm,Qn,Qo,Qp,Qq,Qr,Qs,implies_true,Qt,Qu,Qv,Qw,Qx,Qy,Qz,QA,QB,QC,QD,QE,QF,QG,QH,QI,QJ,QK,QL,QM,QN,QO,QP,QQ]
   refine ⟨setB_one,?_⟩
   have pm:putL (setB l) 0 (setB l)=setB l:=by
    rw [e]
    simp only [putL,putL,List.take_zero,List.nil_append,Nat.zero_add,List.length_cons,List.drop_succ_cons,dc,List.append_nil]
   simp only [putL,putL,List.take_zero,List.nil_append,Nat.zero_add] at pm
   rw [pm,sl,tk]
   simp only [Nat.le_refl,if_true,sealA,sealL,setB_seal]
   rfl
end Go.Proofs.YthbnileadffpiaaGreatDoor.Num
namespace Go.Proofs.YthbnileadffpiaaGreatDoor.Num
open Go Go.Proofs Go.Abs
variable {G:Globals}
def trimL (l s:List UInt8):List UInt8:=s.dropWhile l.contains
def trimR (l s:List UInt8):List UInt8:=(s.reverse.dropWhile l.contains).reverse
theorem drop_cons' {s:List UInt8} {k:Nat} (h:k<s.length):s.drop k=s.getD k 0::s.drop (k+1):=by
 rw [List.drop_eq_getElem_cons h,List.getD_eq_getElem?_getD,List.getElem?_eq_getElem h];rfl
theorem drop_head {s:List UInt8} {k:Nat}:(s.drop k).getD 0 0=s.getD k 0:=by
 simp [List.getD_eq_getElem?_getD]
theorem take_snoc {s:List UInt8} {k:Nat} (h:k<s.length):s.take (k+1)=s.take k++[s.getD k 0]:=(take_succ_getD h).symm
theorem trimR_snoc {l s:List UInt8} {c:UInt8}:trimR l (s++[c])=if l.contains c then trimR l s else s++[c]:=by
 simp only [trimR,List.reverse_append,List.reverse_cons,List.reverse_nil,List.nil_append,List.singleton_append,List.dropWhile_cons]
 split<;>simp
theorem trimLA_spec (l s:List UInt8) (hs:s.length<2 ^ 62):Ctr Tryz.prog G 85 [.d (S s),.ptr 0 0] [.box (setB l)] (.d (S (trimL l s))) [.box (setB l)]:=by
 refine Ctr.body (M:=M0) hmix Tryz.func85 rfl go85 ?_
 simp (config:={maxSteps:=1000000}) (disch:=((try simp only [awL]);omega)) only [QR,QS,QT,QU,QV,QW,QX,QY,QZ,Q0,Q1,Q2,setB_refs,setB_pass,setB_sids,setB_ren,Tryz.f85,↓awU,awV,awF,Qa,Qb,Qc,Qd,forall_const,↓reduceIte,↓reduceDIte,↓Qe,Qf,Qg,Qh,Qi,Qj,Qk,Ql,Qm,Qn,Qo,Qp,Qq,Qr,Qs,implies_true,Qt,Qu,Qv,Qw,Qx,Qy,Qz,QA,QB,QC,QD,QE,QF,QG,QH,QI,QJ,QK,QL,QM,QN,QO,QP,QQ]
 refine LoopC.fr 2 (α:=Nat) (fun k=>s.length - k) (fun k=>[(0,.d (S (s.drop k)))]) (fun _=>[.box (setB l)]) (fun k=>k≤s.length∧trimL l (s.drop k)=trimL l s) 0 ⟨Nat.zero_le _,by rw [List.drop_zero]⟩ ?_ ?_
 ·exact ⟨[some 0],rfl,by simp,by simp [setsA,keepA,SWeak,AWeak],by simp [HWeak,BWeak,setB_weak]⟩
 ·rintro k ⟨hk,ht⟩
  simp only [awK,Nat.reduceMod,Nat.reduceDiv,reduceIte]
  rcases Nat.lt_or_ge k s.length with h1 | h1
  ·have hd:=drop_cons' h1
   simp (config:={maxSteps:=1000000}) (disch:=((try simp only [awL]);omega)) only [QR,QS,QT,QU,QV,QW,QX,QY,QZ,Q0,Q1,Q2,setB_refs,setB_pass,setB_sids,setB_ren,drop_head,↓awU,awV,awF,Qa,Qb,Qc,Qd,forall_const,↓reduceIte,↓reduceDIte,↓Qe,Qf,Qg,Qh,Qi,Qj,Qk,Ql,Qm,Qn,Qo,Qp,Qq,Qr,Qs,implies_true,Qt,Qu,Qv,Qw,Qx,Qy,Qz,QA,QB,QC,QD,QE,QF,QG,QH,QI,QJ,QK,QL,QM,QN,QO,QP,QQ]
   refine CallC.by (contains_spec l (s.getD k 0)) (by rfl) (by rfl) (Nat.le_refl _) ?_
   cases hc:l.contains (s.getD k 0)
   ·simp (config:={maxSteps:=1000000}) (disch:=((try simp only [awL]);omega)) only [QR,QS,QT,QU,QV,QW,QX,QY,QZ,Q0,Q1,Q2,setB_refs,setB_pass,setB_sids,setB_ren,↓awU,awV,awF,Qa,Qb,Qc,Qd,forall_const,↓reduceIte,↓reduceDIte,↓Qe,Qf,Qg,Qh,Qi,Qj,Qk,Ql,Qm,Qn,Qo,Qp,Qq,Qr,Qs,implies_true,Qt,Qu,Qv,Qw,Qx,Qy,Qz,QA,QB,QC,QD,QE,QF,QG,QH,QI,QJ,QK,QL,QM,QN,QO,QP,QQ]
    rw [← ht,trimL,hd,List.dropWhile_cons,hc]
    exact ⟨[some 0],rfl,by simp,by simp [HWeak,BWeak,setB_weak],.inl (by simp [AWeak])⟩
   ·simp (config:={maxSteps:=1000000}) (disch:=((try simp only [awL]);omega)) only [QR,QS,QT,QU,QV,QW,QX,QY,QZ,Q0,Q1,Q2,setB_refs,setB_pass,setB_sids,setB_ren,↓awU,awV,awF,Qa,Qb,Qc,Qd,forall_const,↓reduceIte,↓reduceDIte,↓Qe,Qf,Qg,Qh,Qi,Qj,Qk,Ql,Qm,Qn,Qo,Qp,Qq,Qr,Qs,implies_true,Qt,Qu,Qv,Qw,Qx,Qy,Qz,QA,QB,QC,QD,QE,QF,QG,QH,QI,QJ,QK,QL,QM,QN,QO,QP,QQ]
    exact ⟨k+1,⟨h1,by rw [← ht,trimL,trimL,hd,List.dropWhile_cons,hc];rfl⟩,by simp only;omega,[some 0],rfl,by simp,by simp [setsA,keepA,SWeak,AWeak],by simp [HWeak,BWeak,setB_weak]⟩
  ·simp (config:={maxSteps:=1000000}) (disch:=((try simp only [awL]);omega)) only [QR,QS,QT,QU,QV,QW,QX,QY,QZ,Q0,Q1,Q2,setB_refs,setB_pass,setB_sids,setB_ren,↓awU,awV,awF,Qa,Qb,Qc,Qd,forall_const,↓reduceIte,↓reduceDIte,↓Qe,Qf,Qg,Qh,Qi,Qj,Qk,Ql,Qm,Qn,Qo,Qp,Qq,Qr,Qs,implies_true,Qt,Qu,Qv,Qw,Qx,Qy,Qz,QA,QB,QC,QD,QE,QF,QG,QH,QI,QJ,QK,QL,QM,QN,QO,QP,QQ]
   have:s.drop k=[]:=List.drop_eq_nil_of_le h1
   rw [← ht,this]
   exact ⟨[some 0],rfl,by simp,by simp [HWeak,BWeak,setB_weak],.inl (by simp [AWeak,trimL])⟩
theorem trimRA_spec (l s:List UInt8) (hs:s.length<2 ^ 62):Ctr Tryz.prog G 86 [.d (S s),.ptr 0 0] [.box (setB l)] (.d (S (trimR l s))) [.box (setB l)]:=by
 refine Ctr.body (M:=M0) hmix Tryz.func86 rfl go86 ?_
 simp (config:={maxSteps:=1000000}) (disch:=((try simp only [awL]);omega)) only [QR,QS,QT,QU,QV,QW,QX,QY,QZ,Q0,Q1,Q2,setB_refs,setB_pass,setB_sids,setB_ren,Tryz.f86,↓awU,awV,awF,Qa,Qb,Qc,Qd,forall_const,↓reduceIte,↓reduceDIte,↓Qe,Qf,Qg,Qh,Qi,Qj,Qk,Ql,Qm,Qn,Qo,Qp,Qq,Qr,Qs,implies_true,Qt,Qu,Qv,Qw,Qx,Qy,Qz,QA,QB,QC,QD,QE,QF,QG,QH,QI,QJ,QK,QL,QM,QN,QO,QP,QQ]
 refine LoopC.fr 2 (α:=Nat) (fun k=>k) (fun k=>[(0,.d (S (s.take k)))]) (fun _=>[.box (setB l)]) (fun k=>k≤s.length∧trimR l (s.take k)=trimR l s) s.length ⟨Nat.le_refl _,by rw [List.take_length]⟩ ?_ ?_
 ·exact ⟨[some 0],rfl,by simp,by simp [setsA,keepA,SWeak,AWeak],by simp [HWeak,BWeak,setB_weak]⟩
 ·rintro k ⟨hk,ht⟩
  have lk:(s.take k).length=k:=by rw [List.length_take];omega
  simp only [awK,Nat.reduceMod,Nat.reduceDiv,reduceIte]
  rcases k with _ | k
  ·rw [List.take_zero] at *
   simp (config:={maxSteps:=1000000}) (disch:=((try simp only [awL]);omega)) only [QR,QS,QT,QU,QV,QW,QX,QY,QZ,Q0,Q1,Q2,setB_refs,setB_pass,setB_sids,setB_ren,↓awU,awV,awF,Qa,Qb,Qc,Qd,forall_const,↓reduceIte,↓reduceDIte,↓Qe,Qf,Qg,Qh,Qi,Qj,Qk,Ql,Qm,Qn,Qo,Qp,Qq,Qr,Qs,implies_true,Qt,Qu,Qv,Qw,Qx,Qy,Qz,QA,QB,QC,QD,QE,QF,QG,QH,QI,QJ,QK,QL,QM,QN,QO,QP,QQ]
   rw [← ht]
   exact ⟨[some 0],rfl,by simp,by simp [HWeak,BWeak,setB_weak],.inl (by simp [AWeak,trimR])⟩
  ·have hd:=take_snoc (show k<s.length by omega)
   have hg:(s.take (k+1)).getD k 0=s.getD k 0:=by
    rw [List.getD_eq_getElem?_getD,List.getElem?_take,if_pos (by omega),← List.getD_eq_getElem?_getD]
   have hx:(s.take (k+1)).take k=s.take k:=by rw [List.take_take];congr 1;omega
   simp (config:={maxSteps:=1000000}) (disch:=((try simp only [awL]);omega)) only [QR,QS,QT,QU,QV,QW,QX,QY,QZ,Q0,Q1,Q2,setB_refs,setB_pass,setB_sids,setB_ren,lk,hg,↓awU,awV,awF,Qa,Qb,Qc,Qd,forall_const,↓reduceIte,↓reduceDIte,↓Qe,Qf,Qg,Qh,Qi,Qj,Qk,Ql,Qm,Qn,Qo,Qp,Qq,Qr,Qs,implies_true,Qt,Qu,Qv,Qw,Qx,Qy,Qz,QA,QB,QC,QD,QE,QF,QG,QH,QI,QJ,QK,QL,QM,QN,QO,QP,QQ]
   refine CallC.by (contains_spec l (s.getD k 0)) (by rfl) (by rfl) (Nat.le_refl _) ?_
   cases hc:l.contains (s.getD k 0)
   ·simp (config:={maxSteps:=1000000}) (disch:=((try simp only [awL]);omega)) only [QR,QS,QT,QU,QV,QW,QX,QY,QZ,Q0,Q1,Q2,setB_refs,setB_pass,setB_sids,setB_ren,↓awU,awV,awF,Qa,Qb,Qc,Qd,forall_const,↓reduceIte,↓reduceDIte,↓Qe,Qf,Qg,Qh,Qi,Qj,Qk,Ql,Qm,Qn,Qo,Qp,Qq,Qr,Qs,implies_true,Qt,Qu,Qv,Qw,Qx,Qy,Qz,QA,QB,QC,QD,QE,QF,QG,QH,QI,QJ,QK,QL,QM,QN,QO,QP,QQ]
    rw [← ht,hd,trimR_snoc,hc]
    exact ⟨[some 0],rfl,by simp,by simp [HWeak,BWeak,setB_weak],.inl (by simp [AWeak])⟩
   ·simp (config:={maxSteps:=1000000}) (disch:=((try simp only [awL]);omega)) only [QR,QS,QT,QU,QV,QW,QX,QY,QZ,Q0,Q1,Q2,setB_refs,setB_pass,setB_sids,setB_ren,lk,hx,↓awU,awV,awF,Qa,Qb,Qc,Qd,forall_const,↓reduceIte,↓reduceDIte,↓Qe,Qf,Qg,Qh,Qi,Qj,Qk,Ql,Qm,Qn,Qo,Qp,Qq,Qr,Qs,implies_true,Qt,Qu,Qv,Qw,Qx,Qy,Qz,QA,QB,QC,QD,QE,QF,QG,QH,QI,QJ,QK,QL,QM,QN,QO,QP,QQ]
    exact ⟨k,⟨by omega,by rw [← ht,hd,trimR_snoc,hc];rfl⟩,by simp only;omega,[some 0],rfl,by simp,by simp [setsA,keepA,SWeak,AWeak],by simp [HWeak,BWeak,setB_weak]⟩
end Go.Proofs.YthbnileadffpiaaGreatDoor.Num
namespace Go.Proofs.YthbnileadffpiaaGreatDoor.Num
open Go Go.Proofs Go.Abs
variable {G:Globals}
theorem setB_fold {l:List UInt8}:(setD l).map AV.d=setB l:=rfl
theorem setB_putL {L:List AV} {l:List UInt8} (h:L.length=256):putL L 0 ((setD l).map AV.d)=setB l:=by
 rw [setB_fold]
 obtain ⟨a,b,cs,e⟩:=setB_two l
 have q:=@setB_length l
 rw [e] at q ⊢
 have hd:L.drop (0+(a::b::cs).length)=[]:=List.drop_eq_nil_of_le (by omega)
 simp only [putL,hd,List.take_zero,List.nil_append,List.append_nil]
set_option maxRecDepth 10000 in
theorem setB_putL' {l:List UInt8}:putL ([.d (.bool false),.d (.bool false),.d (.bool false),.d (.bool false),.d (.bool false),.d (.bool false),.d (.bool false),.d (.bool false),.d (.bool false),.d (.bool false),.d (.bool false),.d (.bool false),.d (.bool false),.d (.bool false),.d (.bool false),.d (.bool false),.d (.bool false),.d (.bool false),.d (.bool false),.d (.bool false),.d (.bool false),.d (.bool false),.d (.bool false),.d (.bool false),.d (.bool false),.d (.bool false),.d (.bool false),.d (.bool false),.d (.bool false),.d (.bool false),.d (.bool false),.d (.bool false),.d (.bool false),.d (.bool false),.d (.bool false),.d (.bool false),.d (.bool false),.d (.bool false),.d (.bool false),.d (.bool false),.d (.bool false),.d (.bool false),.d (.bool false),.d (.bool false),.d (.bool false),.d (.bool false),.d (.bool false),.d (.bool false),.d (.bool false),.d (.bool false),.d (.bool false),.d (.bool false),.d (.bool false),.d (.bool false),.d (.bool false),.d (.bool false),.d (.bool false),.d (.bool false),.d (.bool false),.d (.bool false),.d (.bool false),.d (.bool false),.d (.bool false),.d (.bool false),.d (.bool false),.d (.bool false),.d (.bool false),.d (.bool false),.d (.bool false),.d (.bool false),.d (.bool false),.d (.bool false),.d (.bool false),.d (.bool false),.d (.bool false),.d (.bool false),.d (.bool false),.d (.bool false),.d (.bool false),.d (.bool false),.d (.bool false),.d (.bool false),.d (.bool false),.d (.bool false),.d (.bool false),.d (.bool false),.d (.bool false),.d (.bool false),.d (.bool false),.d (.bool false),.d (.bool false),.d (.bool false),.d (.bool false),.d (.bool false),.d (.bool false),.d (.bool false),.d (.bool false),.d (.bool false),.d (.bool false),.d (.bool false),.d (.bool false),.d (.bool false),.d (.bool false),.d (.bool false),.d (.bool false),.d (.bool false),.d (.bool false),.d (.bool false),.d (.bool false),.d (.bool false),.d (.bool false),.d (.bool false),.d (.bool false),.d (.bool false),.d (.bool false),.d (.bool false),.d (.bool false),.d (.bool false),.d (.bool false),.d (.bool false),.d (.bool false),.d (.bool false),.d (.bool false),.d (.bool false),.d (.bool false),.d (.bool false),.d (.bool false),.d (.bool false),.d (.bool false),.d (.bool false),.d (.bool false),.d (.bool false),.d (.bool false),.d (.bool false),.d (.bool false),.d (.bool false),.d (.bool false),.d (.bool false),.d (.bool false),.d (.bool false),.d (.bool false),.d (.bool false),.d (.bool false),.d (.bool false),.d (.bool false),.d (.bool false),.d (.bool false),.d (.bool false),.d (.bool false),.d (.bool false),.d (.bool false),.d (.bool false),.d (.bool false),.d (.bool false),.d (.bool false),.d (.bool false),.d (.bool false),.d (.bool false),.d (.bool false),.d (.bool false),.d (.bool false),.d (.bool false),.d (.bool false),.d (.bool false),.d (.bool false),.d (.bool false),.d (.bool false),.d (.bool false),.d (.bool false),.d (.bool false),.d (.bool false),.d (.bool false),.d (.bool false),.d (.bool false),.d (.bool false),.d (.bool false),.d (.bool false),.d (.bool false),.d (.bool false),.d (.bool false),.d (.bool false),.d (.bool false),.d (.bool false),.d (.bool false),.d (.bool false),.d (.bool false),.d (.bool false),.d (.bool false),.d (.bool false),.d (.bool false),.d (.bool false),.d (.bool false),.d (.bool false),.d (.bool false),.d (.bool false),.d (.bool false),.d (.bool false),.d (.bool false),.d (.bool false),.d (.bool false),.d (.bool false),.d (.bool false),.d (.bool false),.d (.bool false),.d (.bool false),.d (.bool false),.d (.bool false),.d (.bool false),.d (.bool false),.d (.bool false),.d (.bool false),.d (.bool false),.d (.bool false),.d (.bool false),.d (.bool false),.d (.bool false),.d (.bool false),.d (.bool false),.d (.bool false),.d (.bool false),.d (.bool false),.d (.bool false),.d (.bool false),.d (.bool false),.d (.bool false),.d (.bool false),.d (.bool false),.d (.bool false),.d (.bool false),.d (.bool false),.d (.bool false),.d (.bool false),.d (.bool false),.d (.bool false),.d (.bool false),.d (.bool false),.d (.bool false),.d (.bool false),.d (.bool false),.d (.bool false),.d (.bool false),.d (.bool false),.d (.bool false),.d (.bool false),.d (.bool false),.d (.bool false),.d (.bool false),.d (.bool false),.d (.bool false),.d (.bool false),.d (.bool false),.d (.bool false),.d (.bool false),.d (.bool false),.d (.bool false),.d (.bool false)]:List AV) 0 (setB l)=setB l:=setB_putL rfl
set_option maxHeartbeats 4000000 in
set_option maxRecDepth 100000 in
theorem trim_spec (s l:List UInt8) (hs:s.length<2 ^ 62) (hl:l.length<2 ^ 62) (h2:2≤l.length) (ha:∀ b∈l,b.toNat<128):Ctr Tryz.prog G 53 [.d (S s),.d (S l)] [] (.d (S (trimL l (trimR l s)))) []:=by
 refine Ctr.pure (M:=M0) hmix Tryz.func53 rfl go53 ?_
 have q:=@setB_length l
 have tr:(trimR l s).length≤s.length:=by
  simp only [trimR,List.length_reverse]
  exact Nat.le_trans (List.dropWhile_sublist _).length_le (by simp)
 simp (config:={maxSteps:=1000000}) (disch:=((try simp only [awL]);omega)) only [QR,QS,QT,QU,QV,QW,QX,QY,QZ,Q0,Q1,Q2,setB_refs,setB_pass,setB_sids,setB_ren,Tryz.f53,↓awU,awV,awF,Qa,Qb,Qc,Qd,forall_const,↓reduceIte,↓reduceDIte,↓Qe,Qf,Qg,Qh,Qi,Qj,Qk,Ql,Qm,Qn,Qo,Qp,Qq,Qr,Qs,implies_true,Qt,Qu,Qv,Qw,Qx,Qy,Qz,QA,QB,QC,QD,QE,QF,QG,QH,QI,QJ,QK,QL,QM,QN,QO,QP,QQ]
 refine ⟨fun h=>⟨fun h3=>?_,fun h3=>?_⟩,fun h=>?_⟩
 ·subst h3;simp at h2
 ·refine CallC.pure (makeSet_spec l hl ha) ?_
  have tk:(setD l).take 256=setD l:=List.take_of_length_le (by rw [setD_length];omega)
  simp (config:={maxSteps:=1000000}) (disch:=((try simp only [awL]);omega)) only [QR,QS,QT,QU,QV,QW,QX,QY,QZ,Q0,Q1,Q2,↓ setB_putL',setB_putL',setB_fold,q,setB_refs,setB_pass,setB_sids,setB_ren,↓awU,awV,awF,Qa,Qb,Qc,Qd,forall_const,↓reduceIte,↓reduceDIte,↓Qe,Qf,Qg,Qh,Qi,Qj,Qk,Ql,Qm,Qn,Qo,Qp,Qq,Qr,Qs,implies_true,Qt,Qu,Qv,Qw,Qx,Qy,Qz,QA,QB,QC,QD,QE,QF,QG,QH,QI,QJ,QK,QL,QM,QN,QO,QP,QQ]
  refine ⟨setB_one,?_⟩
  refine CallC.by (trimRA_spec l s hs) (by rfl) (by rfl) (Nat.le_refl _) ?_
  simp (config:={maxSteps:=1000000}) (disch:=((try simp only [awL]);omega)) only [QR,QS,QT,QU,QV,QW,QX,QY,QZ,Q0,Q1,Q2,setB_fold,setB_refs,setB_pass,setB_sids,setB_ren,↓awU,awV,awF,Qa,Qb,Qc,Qd,forall_const,↓reduceIte,↓reduceDIte,↓Qe,Qf,Qg,Qh,Qi,Qj,Qk,Ql,Qm,Qn,Qo,Qp,Qq,Qr,Qs,implies_true,Qt,Qu,Qv,Qw,Qx,Qy,Qz,QA,QB,QC,QD,QE,QF,QG,QH,QI,QJ,QK,QL,QM,QN,QO,QP,QQ]
  refine CallC.by (trimLA_spec l (trimR l s) (by omega)) (by rfl) (by rfl) (Nat.le_refl _) ?_
  simp (config:={maxSteps:=1000000}) (disch:=((try simp only [awL]);omega)) only [QR,QS,QT,QU,QV,QW,QX,QY,QZ,Q0,Q1,Q2,setB_fold,setB_refs,setB_pass,setB_sids,setB_ren,↓awU,awV,awF,Qa,Qb,Qc,Qd,forall_const,↓reduceIte,↓reduceDIte,↓Qe,Qf,Qg,Qh,Qi,Qj,Qk,Ql,Qm,Qn,Qo,Qp,Qq,Qr,Qs,implies_true,Qt,Qu,Qv,Qw,Qx,Qy,Qz,QA,QB,QC,QD,QE,QF,QG,QH,QI,QJ,QK,QL,QM,QN,QO,QP,QQ]
 ·subst h;rfl
theorem dropWhile_nil {l:List UInt8} {p:UInt8→Bool}:l.dropWhile p=[]↔l.all p=true:=by
 induction l with
 | nil=>simp
 | cons b l ih =>
  rw [List.dropWhile_cons,List.all_cons]
  cases h:p b<;>simp [ih]
theorem trim_nil {l s:List UInt8}:trimL l (trimR l s)=[]↔s.all l.contains=true:=by
 rw [trimL,dropWhile_nil,trimR]
 rw [List.all_reverse]
 constructor
 ·intro h
  by_cases e:s.reverse.dropWhile l.contains=[]
  ·have:=dropWhile_nil.1 e
   rwa [List.all_reverse] at this
  ·exfalso
   have h1:=List.head_dropWhile_not l.contains e
   have h2:=List.all_eq_true.1 h _ (List.head_mem e)
   rw [h1] at h2;cases h2
 ·intro h
  have:s.reverse.dropWhile l.contains=[]:=dropWhile_nil.2 (by rwa [List.all_reverse])
  rw [this];rfl
abbrev dig10:List UInt8:=[48,49,50,51,52,53,54,55,56,57]
def digB (s:List UInt8) (m:Int):Bool:=decide (1≤s.length∧(s.length:Int)≤m) && s.all dig10.contains
theorem digits_spec (s:List UInt8) (m:Int) (hs:s.length<2 ^ 62):Ctr Tryz.prog G 75 [.d (S s),.d (.int .i64 m)] [] (.d (.bool (digB s m))) []:=by
 refine Ctr.pure (M:=M0) hmix Tryz.func75 rfl go75 ?_
 simp (config:={maxSteps:=1000000}) (disch:=((try simp only [awL]);omega)) only [QR,QS,QT,QU,QV,QW,QX,QY,QZ,Q0,Q1,Q2,Tryz.f75,↓awU,awV,awF,Qa,Qb,Qc,Qd,forall_const,↓reduceIte,↓reduceDIte,↓Qe,Qf,Qg,Qh,Qi,Qj,Qk,Ql,Qm,Qn,Qo,Qp,Qq,Qr,Qs,implies_true,Qt,Qu,Qv,Qw,Qx,Qy,Qz,QA,QB,QC,QD,QE,QF,QG,QH,QI,QJ,QK,QL,QM,QN,QO,QP,QQ]
 refine ⟨fun h1=>⟨fun h2=>?_,fun h2=>?_⟩,fun h1=>?_⟩
 ·refine CallC.pure (trim_spec s dig10 hs (by decide) (by decide) (by decide)) ?_
  simp (config:={maxSteps:=1000000}) (disch:=((try simp only [awL]);omega)) only [QR,QS,QT,QU,QV,QW,QX,QY,QZ,Q0,Q1,Q2,↓awU,awV,awF,Qa,Qb,Qc,Qd,forall_const,↓reduceIte,↓reduceDIte,↓Qe,Qf,Qg,Qh,Qi,Qj,Qk,Ql,Qm,Qn,Qo,Qp,Qq,Qr,Qs,implies_true,Qt,Qu,Qv,Qw,Qx,Qy,Qz,QA,QB,QC,QD,QE,QF,QG,QH,QI,QJ,QK,QL,QM,QN,QO,QP,QQ]
  rw [digB,decide_eq_true (show 1≤s.length∧(s.length:Int)≤m by omega),Bool.true_and]
  cases h:s.all dig10.contains
  ·rw [decide_eq_false fun e=>by rw [trim_nil,h] at e;cases e]
  ·rw [decide_eq_true (trim_nil.2 h)]
 ·rw [digB,decide_eq_false (by omega)];rfl
 ·rw [digB,decide_eq_false (by omega)];rfl
end Go.Proofs.YthbnileadffpiaaGreatDoor.Num
namespace Go.Proofs.YthbnileadffpiaaGreatDoor.Num
open Go Go.Proofs Go.Abs
variable {G:Globals}
end Go.Proofs.YthbnileadffpiaaGreatDoor.Num
namespace Go.Proofs.YthbnileadffpiaaGreatDoor.Num
open Go Go.Proofs Go.Abs
variable {G:Globals}
end Go.Proofs.YthbnileadffpiaaGreatDoor.Num
namespace Go.Proofs.YthbnileadffpiaaGreatDoor.Num
open Go Go.Proofs Go.Abs
variable {G:Globals}
def decNeg (s:List UInt8):Bool:=hasP s [45]
def decBody (s:List UInt8):List UInt8:=if hasP s [45] then s.drop 1 else if hasP s [43] then s.drop 1 else s
def decF (s:List UInt8):List UInt8:=cutL 46 (decBody s)
def decB (s:List UInt8):List UInt8:=cutR 46 (decBody s)
def decOk (s:List UInt8):Bool:=digB (decF s) 15 && (!decide (46∈decBody s) || digB (decB s) 9)
def decNum (l:List UInt8):Nat:=l.foldl (fun v b=>v*10+(b.toNat - 48)) 0
def decVal (s:List UInt8):Rat:=Rat.divInt (if decNeg s then -(decNum (decF s++decB s):Int) else (decNum (decF s++decB s):Int)) ((10 ^ (decB s).length:Nat):Int)
theorem decNum_push {l:List UInt8} {i:Nat} (h:i<l.length):decNum (l.take i)*10+((l.getD i 0).toNat - 48)=decNum (l.take (i+1)):=by
 rw [take_snoc h,decNum,decNum,List.foldl_append];rfl
theorem cutL_len {c:UInt8}:∀ s:List UInt8,(cutL c s).length≤s.length
 | []=>Nat.le_refl _
 | b::l=>by
   have:=cutL_len (c:=c) l
   rw [cutL];split<;>simp;exact this
theorem cutR_none {c:UInt8} {s:List UInt8} (h:c∉s):cutR c s=[]:=((cut_index c s).2 h).2.2
theorem cutR_len {c:UInt8}:∀ s:List UInt8,(cutR c s).length≤s.length
 | []=>Nat.le_refl _
 | b::l=>by
   have:=cutR_len (c:=c) l
   rw [cutR];split<;>simp;omega
theorem dig_range {b:UInt8} (h:dig10.contains b=true):48≤b.toNat∧b.toNat≤57:=by
 have:b∈dig10:=by simpa using h
 simp only [dig10,List.mem_cons,List.not_mem_nil,or_false] at this
 rcases this with rfl | rfl | rfl | rfl | rfl | rfl | rfl | rfl | rfl | rfl<;>decide
theorem decNum_lt {l:List UInt8} (h:∀ b∈l,dig10.contains b=true):decNum l<10 ^ l.length:=by
 have key:∀ (l:List UInt8) (v:Nat),(∀ b∈l,dig10.contains b=true)→l.foldl (fun v b=>v*10+(b.toNat - 48)) v<(v+1)*10 ^ l.length:=by
  intro l
  induction l with
  | nil=>intro v _;simp
  | cons b l ih =>
   intro v hl
   have hb:=dig_range (hl b (List.mem_cons_self ..))
   have:=ih (v*10+(b.toNat - 48)) (fun c hc=>hl c (List.mem_cons_of_mem _ hc))
   rw [List.foldl_cons,List.length_cons,Nat.pow_succ]
   refine Nat.lt_of_lt_of_le this ?_
   rw [Nat.mul_comm (10 ^ l.length) 10,← Nat.mul_assoc]
   exact Nat.mul_le_mul_right _ (by omega)
 have:=key l 0 h
 rw [Nat.zero_add,Nat.one_mul] at this
 exact this
theorem cells_nums {l:List UInt8}:(l.map fun b=>D.int .u8 (b.toNat:Int))=ints .u8 (nums l):=by simp [ints,nums]
theorem decOk_facts {s:List UInt8} (h:decOk s=true):(∀ b∈decF s++decB s,dig10.contains b=true)∧(decF s++decB s).length≤24∧(decB s).length≤9:=by
 unfold decOk at h
 rw [Bool.and_eq_true,Bool.or_eq_true] at h
 obtain ⟨h1,h2⟩:=h
 unfold digB at h1
 rw [Bool.and_eq_true,decide_eq_true_eq] at h1
 have hb:(decB s).length≤9∧∀ b∈decB s,dig10.contains b=true:=by
  rcases h2 with h2 | h2
  ·have e:decB s=[]:=cutR_none (by simpa using h2)
   rw [e];exact ⟨by simp,fun b hb=>by cases hb⟩
  ·unfold digB at h2
   rw [Bool.and_eq_true,decide_eq_true_eq] at h2
   exact ⟨by omega,fun b hb=>List.all_eq_true.1 h2.2 b hb⟩
 refine ⟨fun b hb'=>?_,by rw [List.length_append];omega,hb.1⟩
 rcases List.mem_append.1 hb' with h | h
 ·exact List.all_eq_true.1 h1.2 b h
 ·exact hb.2 b h
theorem toW_10:toW 10=[10]:=by rw [toW_pos (by decide),show 10 / B=0 from rfl,toW_zero];rfl
theorem sz_small {n k:Nat} (h:n<10 ^ k):(toW n).length≤k:=toW_length_le (Nat.lt_of_lt_of_le h (Nat.pow_le_pow_left (by decide) _))
set_option maxHeartbeats 4000000 in
set_option maxRecDepth 100000 in
theorem decimalF_spec (hG:HG G) (s:List UInt8) (hs:s.length≤1000000000):Ctr Tryz.prog G 52 [.d (S s)] [] (.d (.tup [if decOk s=true then Frac (decVal s) else Zf,.bool (decOk s)])) []:=by
 have hG':=hG
 unfold HG at hG
 refine Ctr.pure (M:=M0) hmix Tryz.func52 rfl go52 ?_
 simp (config:={maxSteps:=1000000}) (disch:=((try simp only [awL]);omega)) only [QR,QS,QT,QU,QV,QW,QX,QY,QZ,Q0,Q1,Q2,Tryz.f52,↓awU,awV,awF,Qa,Qb,Qc,Qd,forall_const,↓reduceIte,↓reduceDIte,↓Qe,Qf,Qg,Qh,Qi,Qj,Qk,Ql,Qm,Qn,Qo,Qp,Qq,Qr,Qs,implies_true,Qt,Qu,Qv,Qw,Qx,Qy,Qz,QA,QB,QC,QD,QE,QF,QG,QH,QI,QJ,QK,QL,QM,QN,QO,QP,QQ]
 refine CallC.pure (cutPrefix_spec s [45]) ?_
 have hbody:(decBody s).length≤s.length:=by
  unfold decBody
  split
  ·simp
  ·split<;>simp
 have l1:=cutL_len (c:=46) (decBody s)
 have l2:=cutR_len (c:=46) (decBody s)
 have hno:decide (46∈decBody s)=false→decB s=[]:=fun h=>cutR_none (of_decide_eq_false h)
 have hok:decOk s=(digB (decF s) 15 && (!decide (46∈decBody s) || digB (decB s) 9)):=rfl
 have hdv:decVal s=Rat.divInt (if decNeg s then -(decNum (decF s++decB s):Int) else (decNum (decF s++decB s):Int)) ((10 ^ (decB s).length:Nat):Int):=rfl
 have f1:cutL 46 (decBody s)=decF s:=rfl
 have f2:cutR 46 (decBody s)=decB s:=rfl
 rw [f1] at l1
 rw [f2] at l2
 cases h45:hasP s [45]
 ·simp (config:={maxSteps:=1000000}) (disch:=((try simp only [awL]);omega)) only [QR,QS,QT,QU,QV,QW,QX,QY,QZ,Q0,Q1,Q2,↓awU,awV,awF,Qa,Qb,Qc,Qd,forall_const,↓reduceIte,↓reduceDIte,↓Qe,Qf,Qg,Qh,Qi,Qj,Qk,Ql,Qm,Qn,Qo,Qp,Qq,Qr,Qs,implies_true,Qt,Qu,Qv,Qw,Qx,Qy,Qz,QA,QB,QC,QD,QE,QF,QG,QH,QI,QJ,QK,QL,QM,QN,QO,QP,QQ]
  refine CallC.pure (trimPrefix_spec s [43]) ?_
  have eb:(if hasP s [43] then s.drop ([43]:List UInt8).length else s)=decBody s:=by rw [decBody,h45];rfl
  have en:decNeg s=false:=h45
  rw [eb]
  rw [en] at hdv
  simp (config:={maxSteps:=1000000}) (disch:=((try simp only [awL]);omega)) only [QR,QS,QT,QU,QV,QW,QX,QY,QZ,Q0,Q1,Q2,↓awU,awV,awF,Qa,Qb,Qc,Qd,forall_const,↓reduceIte,↓reduceDIte,↓Qe,Qf,Qg,Qh,Qi,Qj,Qk,Ql,Qm,Qn,Qo,Qp,Qq,Qr,Qs,implies_true,Qt,Qu,Qv,Qw,Qx,Qy,Qz,QA,QB,QC,QD,QE,QF,QG,QH,QI,QJ,QK,QL,QM,QN,QO,QP,QQ]
  refine CallC.pure (cut_spec (decBody s) 46 (by omega)) ?_
  rw [f1,f2]
  simp (config:={maxSteps:=1000000}) (disch:=((try simp only [awL]);omega)) only [QR,QS,QT,QU,QV,QW,QX,QY,QZ,Q0,Q1,Q2,↓awU,awV,awF,Qa,Qb,Qc,Qd,forall_const,↓reduceIte,↓reduceDIte,↓Qe,Qf,Qg,Qh,Qi,Qj,Qk,Ql,Qm,Qn,Qo,Qp,Qq,Qr,Qs,implies_true,Qt,Qu,Qv,Qw,Qx,Qy,Qz,QA,QB,QC,QD,QE,QF,QG,QH,QI,QJ,QK,QL,QM,QN,QO,QP,QQ]
  refine CallC.pure (digits_spec (decF s) 15 (by omega)) ?_
  cases d1:digB (decF s) 15
  ·rw [hok,d1,Bool.false_and]
   simp (config:={maxSteps:=1000000}) (disch:=((try simp only [awL]);omega)) only [QR,QS,QT,QU,QV,QW,QX,QY,QZ,Q0,Q1,Q2,↓awU,awV,awF,Qa,Qb,Qc,Qd,forall_const,↓reduceIte,↓reduceDIte,↓Qe,Qf,Qg,Qh,Qi,Qj,Qk,Ql,Qm,Qn,Qo,Qp,Qq,Qr,Qs,implies_true,Qt,Qu,Qv,Qw,Qx,Qy,Qz,QA,QB,QC,QD,QE,QF,QG,QH,QI,QJ,QK,QL,QM,QN,QO,QP,QQ]
   first | done | rfl
  ·rw [d1,Bool.true_and] at hok
   cases dp:decide (46∈decBody s)
   ·rw [dp,Bool.not_false,Bool.true_or] at hok
    obtain ⟨hall,hlen,hlb⟩:=decOk_facts hok
    have hsm:∀ i,i≤(decF s++decB s).length→(toW (decNum ((decF s++decB s).take i))).length≤30:=fun i hi=>by
     have h:=decNum_lt (l:=(decF s++decB s).take i) fun b hb=>hall b (List.mem_of_mem_take hb)
     exact sz_small (Nat.lt_of_lt_of_le h (Nat.pow_le_pow_right (by decide) (by rw [List.length_take];omega)))
    have hlt:∀ i,i≤(decF s++decB s).length→decNum ((decF s++decB s).take i)*10<10 ^ 30:=fun i hi=>by
     have h:=decNum_lt (l:=(decF s++decB s).take i) fun b hb=>hall b (List.mem_of_mem_take hb)
     have h2:10 ^ ((decF s++decB s).take i).length≤10 ^ 29:=Nat.pow_le_pow_right (by decide) (by rw [List.length_take];omega)
     have h3:(10:Nat) ^ 30=10 ^ 29*10:=rfl
     omega
    rw [if_pos hok,hok]
    generalize hL:decF s++decB s=L at *
    simp (config:={maxSteps:=1000000}) (disch:=((try simp only [awL]);omega)) only [hG,QR,QS,QT,QU,QV,QW,QX,QY,QZ,Q0,Q1,Q2,↓awU,awV,awF,Qa,Qb,Qc,Qd,forall_const,↓reduceIte,↓reduceDIte,↓Qe,Qf,Qg,Qh,Qi,Qj,Qk,Ql,Qm,Qn,Qo,Qp,Qq,Qr,Qs,implies_true,Qt,Qu,Qv,Qw,Qx,Qy,Qz,QA,QB,QC,QD,QE,QF,QG,QH,QI,QJ,QK,QL,QM,QN,QO,QP,QQ]
    refine CallC.of (clone_spec [1] (by decide)) (by rfl) ?_
    simp (config:={maxSteps:=1000000}) (disch:=((try simp only [awL]);omega)) only [hG,QR,QS,QT,QU,QV,QW,QX,QY,QZ,Q0,Q1,Q2,hL,cells_nums,↓awU,awV,awF,Qa,Qb,Qc,Qd,forall_const,↓reduceIte,↓reduceDIte,↓Qe,Qf,Qg,Qh,Qi,Qj,Qk,Ql,Qm,Qn,Qo,Qp,Qq,Qr,Qs,implies_true,Qt,Qu,Qv,Qw,Qx,Qy,Qz,QA,QB,QC,QD,QE,QF,QG,QH,QI,QJ,QK,QL,QM,QN,QO,QP,QQ]
    refine LoopC.fr 422212465069220 (α:=Nat) (fun i=>L.length - i) (fun i=>[(9,.d (W (toW (decNum (L.take i))))),(49,.d (.int .i64 i))])
     (fun _=>[.box [.d (.bool false),.d (.sl 0 true []),.d (.bool false),.d (.sl 0 true [])],.row true (nats .u32 [10]),.row false (ints .u8 (nums L))]) (fun i=>i≤L.length) 0 (Nat.zero_le _) ?_ ?_
    ·exact ⟨[some 0,some 1,some 2],rfl,by simp,by simp [setsA,keepA,SWeak,AWeak,decNum,toW_zero,nats],by simp [HWeak,BWeak,SWeak,AWeak,nats]⟩
    ·intro i hi
     have lt:=hsm i hi
     have nl:=@nums_length L
     simp only [awK,Nat.reduceMod,Nat.reduceDiv,reduceIte]
     rcases Nat.lt_or_ge i L.length with h1 | h1
     ·have hb:=dig_range (hall _ (mem_getDU (d:=0) h1))
      have hp:=decNum_push h1
      have ls:=sz_small (n:=(L.getD i 0).toNat - 48) (k:=2) (by omega)
      have e48:((L.getD i 0).toNat:Int) - 48=(((L.getD i 0).toNat - 48:Nat):Int):=by omega
      have lm:(toW (decNum (L.take i)*10)).length≤40:=sz_small (Nat.lt_of_lt_of_le (hlt i hi) (by decide))
      simp (config:={maxSteps:=1000000}) (disch:=((try simp only [awL]);omega)) only [hG,QR,QS,QT,QU,QV,QW,QX,QY,QZ,Q0,Q1,Q2,nl,↓awU,awV,awF,Qa,Qb,Qc,Qd,forall_const,↓reduceIte,↓reduceDIte,↓Qe,Qf,Qg,Qh,Qi,Qj,Qk,Ql,Qm,Qn,Qo,Qp,Qq,Qr,Qs,implies_true,Qt,Qu,Qv,Qw,Qx,Qy,Qz,QA,QB,QC,QD,QE,QF,QG,QH,QI,QJ,QK,QL,QM,QN,QO,QP,QQ]
      refine CallC.frozenE (times_spec (decNum (L.take i)) 10 (by omega) (by rw [toW_10];decide)) (by rw [toW_10];rfl) ?_
      simp (config:={maxSteps:=1000000}) (disch:=((try simp only [awL]);omega)) only [hG,QR,QS,QT,QU,QV,QW,QX,QY,QZ,Q0,Q1,Q2,nl,e48,↓awU,awV,awF,Qa,Qb,Qc,Qd,forall_const,↓reduceIte,↓reduceDIte,↓Qe,Qf,Qg,Qh,Qi,Qj,Qk,Ql,Qm,Qn,Qo,Qp,Qq,Qr,Qs,implies_true,Qt,Qu,Qv,Qw,Qx,Qy,Qz,QA,QB,QC,QD,QE,QF,QG,QH,QI,QJ,QK,QL,QM,QN,QO,QP,QQ]
      refine CallC.pure (natural_spec ((L.getD i 0).toNat - 48) (by omega)) ?_
      simp (config:={maxSteps:=1000000}) (disch:=((try simp only [awL]);omega)) only [hG,QR,QS,QT,QU,QV,QW,QX,QY,QZ,Q0,Q1,Q2,nl,↓awU,awV,awF,Qa,Qb,Qc,Qd,forall_const,↓reduceIte,↓reduceDIte,↓Qe,Qf,Qg,Qh,Qi,Qj,Qk,Ql,Qm,Qn,Qo,Qp,Qq,Qr,Qs,implies_true,Qt,Qu,Qv,Qw,Qx,Qy,Qz,QA,QB,QC,QD,QE,QF,QG,QH,QI,QJ,QK,QL,QM,QN,QO,QP,QQ]
      refine CallC.pure (plus_spec (decNum (L.take i)*10) ((L.getD i 0).toNat - 48) (by omega) (by omega)) ?_
      rw [hp]
      simp (config:={maxSteps:=1000000}) (disch:=((try simp only [awL]);omega)) only [hG,QR,QS,QT,QU,QV,QW,QX,QY,QZ,Q0,Q1,Q2,nl,↓awU,awV,awF,Qa,Qb,Qc,Qd,forall_const,↓reduceIte,↓reduceDIte,↓Qe,Qf,Qg,Qh,Qi,Qj,Qk,Ql,Qm,Qn,Qo,Qp,Qq,Qr,Qs,implies_true,Qt,Qu,Qv,Qw,Qx,Qy,Qz,QA,QB,QC,QD,QE,QF,QG,QH,QI,QJ,QK,QL,QM,QN,QO,QP,QQ]
      exact ⟨i+1,h1,by simp only;omega,⟨[some 0,some 1,some 2],rfl,by simp,by simp [setsA,keepA,SWeak,AWeak],by simp [HWeak,BWeak,SWeak,AWeak]⟩⟩
     ·obtain rfl:i=L.length:=by omega
      rw [List.take_length] at *
      simp (config:={maxSteps:=1000000}) (disch:=((try simp only [awL]);omega)) only [hG,QR,QS,QT,QU,QV,QW,QX,QY,QZ,Q0,Q1,Q2,nl,↓awU,awV,awF,Qa,Qb,Qc,Qd,forall_const,↓reduceIte,↓reduceDIte,↓Qe,Qf,Qg,Qh,Qi,Qj,Qk,Ql,Qm,Qn,Qo,Qp,Qq,Qr,Qs,implies_true,Qt,Qu,Qv,Qw,Qx,Qy,Qz,QA,QB,QC,QD,QE,QF,QG,QH,QI,QJ,QK,QL,QM,QN,QO,QP,QQ]
      refine LoopC.fr 9223372036854777380 (α:=Nat) (fun j=>(decB s).length - j) (fun j=>[(11,.d (W (toW (10 ^ j)))),(64,.d (.int .i64 j))])
       (fun _=>[.box [.d (.bool false),.d (.sl 0 true []),.d (.bool false),.d (.sl 0 true [])],.row true (nats .u32 [10]),.row false (ints .u8 (nums L))]) (fun j=>j≤(decB s).length) 0 (Nat.zero_le _) ?_ ?_
      ·exact ⟨[some 0,some 1,some 2],rfl,by simp,by simp [setsA,keepA,SWeak,AWeak,toW_one],by simp [HWeak,BWeak,SWeak,AWeak,nats]⟩
      ·intro j hj
       have lj:(toW (10 ^ j)).length≤10:=sz_small (Nat.pow_lt_pow_right (by decide) (by omega))
       simp only [awK,Nat.reduceMod,Nat.reduceDiv,reduceIte]
       rcases Nat.lt_or_ge j (decB s).length with h2 | h2
       ·simp (config:={maxSteps:=1000000}) (disch:=((try simp only [awL]);omega)) only [hG,QR,QS,QT,QU,QV,QW,QX,QY,QZ,Q0,Q1,Q2,↓awU,awV,awF,Qa,Qb,Qc,Qd,forall_const,↓reduceIte,↓reduceDIte,↓Qe,Qf,Qg,Qh,Qi,Qj,Qk,Ql,Qm,Qn,Qo,Qp,Qq,Qr,Qs,implies_true,Qt,Qu,Qv,Qw,Qx,Qy,Qz,QA,QB,QC,QD,QE,QF,QG,QH,QI,QJ,QK,QL,QM,QN,QO,QP,QQ]
        refine CallC.frozenE (times_spec (10 ^ j) 10 (by omega) (by rw [toW_10];decide)) (by rw [toW_10];rfl) ?_
        rw [← Nat.pow_succ]
        simp (config:={maxSteps:=1000000}) (disch:=((try simp only [awL]);omega)) only [hG,QR,QS,QT,QU,QV,QW,QX,QY,QZ,Q0,Q1,Q2,↓awU,awV,awF,Qa,Qb,Qc,Qd,forall_const,↓reduceIte,↓reduceDIte,↓Qe,Qf,Qg,Qh,Qi,Qj,Qk,Ql,Qm,Qn,Qo,Qp,Qq,Qr,Qs,implies_true,Qt,Qu,Qv,Qw,Qx,Qy,Qz,QA,QB,QC,QD,QE,QF,QG,QH,QI,QJ,QK,QL,QM,QN,QO,QP,QQ]
        exact ⟨j+1,h2,by simp only;omega,⟨[some 0,some 1,some 2],rfl,by simp,by simp [setsA,keepA,SWeak,AWeak],by simp [HWeak,BWeak,SWeak,AWeak]⟩⟩
       ·obtain rfl:j=(decB s).length:=by omega
        have hd0:((10 ^ (decB s).length:Nat):Int)≠0:=by
         have:0<10 ^ (decB s).length:=Nat.pow_pos (by decide)
         omega
        simp (config:={maxSteps:=1000000}) (disch:=((try simp only [awL]);omega)) only [hG,QR,QS,QT,QU,QV,QW,QX,QY,QZ,Q0,Q1,Q2,↓awU,awV,awF,Qa,Qb,Qc,Qd,forall_const,↓reduceIte,↓reduceDIte,↓Qe,Qf,Qg,Qh,Qi,Qj,Qk,Ql,Qm,Qn,Qo,Qp,Qq,Qr,Qs,implies_true,Qt,Qu,Qv,Qw,Qx,Qy,Qz,QA,QB,QC,QD,QE,QF,QG,QH,QI,QJ,QK,QL,QM,QN,QO,QP,QQ]
        refine CallC.pure (signed_spec false (decNum L) (by omega)) ?_
        simp (config:={maxSteps:=1000000}) (disch:=((try simp only [awL]);omega)) only [hG,QR,QS,QT,QU,QV,QW,QX,QY,QZ,Q0,Q1,Q2,↓awU,awV,awF,Qa,Qb,Qc,Qd,forall_const,↓reduceIte,↓reduceDIte,↓Qe,Qf,Qg,Qh,Qi,Qj,Qk,Ql,Qm,Qn,Qo,Qp,Qq,Qr,Qs,implies_true,Qt,Qu,Qv,Qw,Qx,Qy,Qz,QA,QB,QC,QD,QE,QF,QG,QH,QI,QJ,QK,QL,QM,QN,QO,QP,QQ]
        refine CallC.pure (signed_spec false (10 ^ (decB s).length) (by omega)) ?_
        simp (config:={maxSteps:=1000000}) (disch:=((try simp only [awL]);omega)) only [hG,QR,QS,QT,QU,QV,QW,QX,QY,QZ,Q0,Q1,Q2,↓awU,awV,awF,Qa,Qb,Qc,Qd,forall_const,↓reduceIte,↓reduceDIte,↓Qe,Qf,Qg,Qh,Qi,Qj,Qk,Ql,Qm,Qn,Qo,Qp,Qq,Qr,Qs,implies_true,Qt,Qu,Qv,Qw,Qx,Qy,Qz,QA,QB,QC,QD,QE,QF,QG,QH,QI,QJ,QK,QL,QM,QN,QO,QP,QQ]
        refine CallC.of (reduced_spec (if false=true then -(decNum L:Int) else (decNum L:Int)) ((10 ^ (decB s).length:Nat):Int) hd0 (by simp only [sz];split<;>simp<;>omega) (by simp only [sz,Int.natAbs_natCast];omega)) (by rfl) ?_
        rw [← hdv]
        simp (config:={maxSteps:=1000000}) (disch:=((try simp only [awL]);omega)) only [hG,QR,QS,QT,QU,QV,QW,QX,QY,QZ,Q0,Q1,Q2,↓awU,awV,awF,Qa,Qb,Qc,Qd,forall_const,↓reduceIte,↓reduceDIte,↓Qe,Qf,Qg,Qh,Qi,Qj,Qk,Ql,Qm,Qn,Qo,Qp,Qq,Qr,Qs,implies_true,Qt,Qu,Qv,Qw,Qx,Qy,Qz,QA,QB,QC,QD,QE,QF,QG,QH,QI,QJ,QK,QL,QM,QN,QO,QP,QQ]
        first | done | rfl
   ·rw [dp,Bool.not_true,Bool.false_or] at hok
    simp (config:={maxSteps:=1000000}) (disch:=((try simp only [awL]);omega)) only [QR,QS,QT,QU,QV,QW,QX,QY,QZ,Q0,Q1,Q2,↓awU,awV,awF,Qa,Qb,Qc,Qd,forall_const,↓reduceIte,↓reduceDIte,↓Qe,Qf,Qg,Qh,Qi,Qj,Qk,Ql,Qm,Qn,Qo,Qp,Qq,Qr,Qs,implies_true,Qt,Qu,Qv,Qw,Qx,Qy,Qz,QA,QB,QC,QD,QE,QF,QG,QH,QI,QJ,QK,QL,QM,QN,QO,QP,QQ]
    refine CallC.pure (digits_spec (decB s) 9 (by omega)) ?_
    cases d2:digB (decB s) 9
    ·rw [hok,d2]
     simp (config:={maxSteps:=1000000}) (disch:=((try simp only [awL]);omega)) only [QR,QS,QT,QU,QV,QW,QX,QY,QZ,Q0,Q1,Q2,↓awU,awV,awF,Qa,Qb,Qc,Qd,forall_const,↓reduceIte,↓reduceDIte,↓Qe,Qf,Qg,Qh,Qi,Qj,Qk,Ql,Qm,Qn,Qo,Qp,Qq,Qr,Qs,implies_true,Qt,Qu,Qv,Qw,Qx,Qy,Qz,QA,QB,QC,QD,QE,QF,QG,QH,QI,QJ,QK,QL,QM,QN,QO,QP,QQ]
     first | done | rfl
    ·rw [d2] at hok
     obtain ⟨hall,hlen,hlb⟩:=decOk_facts hok
     have hsm:∀ i,i≤(decF s++decB s).length→(toW (decNum ((decF s++decB s).take i))).length≤30:=fun i hi=>by
      have h:=decNum_lt (l:=(decF s++decB s).take i) fun b hb=>hall b (List.mem_of_mem_take hb)
      exact sz_small (Nat.lt_of_lt_of_le h (Nat.pow_le_pow_right (by decide) (by rw [List.length_take];omega)))
     have hlt:∀ i,i≤(decF s++decB s).length→decNum ((decF s++decB s).take i)*10<10 ^ 30:=fun i hi=>by
      have h:=decNum_lt (l:=(decF s++decB s).take i) fun b hb=>hall b (List.mem_of_mem_take hb)
      have h2:10 ^ ((decF s++decB s).take i).length≤10 ^ 29:=Nat.pow_le_pow_right (by decide) (by rw [List.length_take];omega)
      have h3:(10:Nat) ^ 30=10 ^ 29*10:=rfl
      omega
     rw [if_pos hok,hok]
     generalize hL:decF s++decB s=L at *
     simp (config:={maxSteps:=1000000}) (disch:=((try simp only [awL]);omega)) only [hG,QR,QS,QT,QU,QV,QW,QX,QY,QZ,Q0,Q1,Q2,↓awU,awV,awF,Qa,Qb,Qc,Qd,forall_const,↓reduceIte,↓reduceDIte,↓Qe,Qf,Qg,Qh,Qi,Qj,Qk,Ql,Qm,Qn,Qo,Qp,Qq,Qr,Qs,implies_true,Qt,Qu,Qv,Qw,Qx,Qy,Qz,QA,QB,QC,QD,QE,QF,QG,QH,QI,QJ,QK,QL,QM,QN,QO,QP,QQ]
     refine CallC.of (clone_spec [1] (by decide)) (by rfl) ?_
     simp (config:={maxSteps:=1000000}) (disch:=((try simp only [awL]);omega)) only [hG,QR,QS,QT,QU,QV,QW,QX,QY,QZ,Q0,Q1,Q2,hL,cells_nums,↓awU,awV,awF,Qa,Qb,Qc,Qd,forall_const,↓reduceIte,↓reduceDIte,↓Qe,Qf,Qg,Qh,Qi,Qj,Qk,Ql,Qm,Qn,Qo,Qp,Qq,Qr,Qs,implies_true,Qt,Qu,Qv,Qw,Qx,Qy,Qz,QA,QB,QC,QD,QE,QF,QG,QH,QI,QJ,QK,QL,QM,QN,QO,QP,QQ]
     refine LoopC.fr 422212465069220 (α:=Nat) (fun i=>L.length - i) (fun i=>[(9,.d (W (toW (decNum (L.take i))))),(49,.d (.int .i64 i))])
      (fun _=>[.box [.d (.bool false),.d (.sl 0 true []),.d (.bool false),.d (.sl 0 true [])],.row true (nats .u32 [10]),.row false (ints .u8 (nums L))]) (fun i=>i≤L.length) 0 (Nat.zero_le _) ?_ ?_
     ·exact ⟨[some 0,some 1,some 2],rfl,by simp,by simp [setsA,keepA,SWeak,AWeak,decNum,toW_zero,nats],by simp [HWeak,BWeak,SWeak,AWeak,nats]⟩
     ·intro i hi
      have lt:=hsm i hi
      have nl:=@nums_length L
      simp only [awK,Nat.reduceMod,Nat.reduceDiv,reduceIte]
      rcases Nat.lt_or_ge i L.length with h1 | h1
      ·have hb:=dig_range (hall _ (mem_getDU (d:=0) h1))
       have hp:=decNum_push h1
       have ls:=sz_small (n:=(L.getD i 0).toNat - 48) (k:=2) (by omega)
       have e48:((L.getD i 0).toNat:Int) - 48=(((L.getD i 0).toNat - 48:Nat):Int):=by omega
       have lm:(toW (decNum (L.take i)*10)).length≤40:=sz_small (Nat.lt_of_lt_of_le (hlt i hi) (by decide))
       simp (config:={maxSteps:=1000000}) (disch:=((try simp only [awL]);omega)) only [hG,QR,QS,QT,QU,QV,QW,QX,QY,QZ,Q0,Q1,Q2,nl,↓awU,awV,awF,Qa,Qb,Qc,Qd,forall_const,↓reduceIte,↓reduceDIte,↓Qe,Qf,Qg,Qh,Qi,Qj,Qk,Ql,Qm,Qn,Qo,Qp,Qq,Qr,Qs,implies_true,Qt,Qu,Qv,Qw,Qx,Qy,Qz,QA,QB,QC,QD,QE,QF,QG,QH,QI,QJ,QK,QL,QM,QN,QO,QP,QQ]
       refine CallC.frozenE (times_spec (decNum (L.take i)) 10 (by omega) (by rw [toW_10];decide)) (by rw [toW_10];rfl) ?_
       simp (config:={maxSteps:=1000000}) (disch:=((try simp only [awL]);omega)) only [hG,QR,QS,QT,QU,QV,QW,QX,QY,QZ,Q0,Q1,Q2,nl,e48,↓awU,awV,awF,Qa,Qb,Qc,Qd,forall_const,↓reduceIte,↓reduceDIte,↓Qe,Qf,Qg,Qh,Qi,Qj,Qk,Ql,Qm,Qn,Qo,Qp,Qq,Qr,Qs,implies_true,Qt,Qu,Qv,Qw,Qx,Qy,Qz,QA,QB,QC,QD,QE,QF,QG,QH,QI,QJ,QK,QL,QM,QN,QO,QP,QQ]
       refine CallC.pure (natural_spec ((L.getD i 0).toNat - 48) (by omega)) ?_
       simp (config:={maxSteps:=1000000}) (disch:=((try simp only [awL]);omega)) only [hG,QR,QS,QT,QU,QV,QW,QX,QY,QZ,Q0,Q1,Q2,nl,↓awU,awV,awF,Qa,Qb,Qc,Qd,forall_const,↓reduceIte,↓reduceDIte,↓Qe,Qf,Qg,Qh,Qi,Qj,Qk,Ql,Qm,Qn,Qo,Qp,Qq,Qr,Qs,implies_true,Qt,Qu,Qv,Qw,Qx,Qy,Qz,QA,QB,QC,QD,QE,QF,QG,QH,QI,QJ,QK,QL,QM,QN,QO,QP,QQ]
       refine CallC.pure (plus_spec (decNum (L.take i)*10) ((L.getD i 0).toNat - 48) (by omega) (by omega)) ?_
       rw [hp]
       simp (config:={maxSteps:=1000000}) (disch:=((try simp only [awL]);omega)) only [hG,QR,QS,QT,QU,QV,QW,QX,QY,QZ,Q0,Q1,Q2,nl,↓awU,awV,awF,Qa,Qb,Qc,Qd,forall_const,↓reduceIte,↓reduceDIte,↓Qe,Qf,Qg,Qh,Qi,Qj,Qk,Ql,Qm,Qn,Qo,Qp,Qq,Qr,Qs,implies_true,Qt,Qu,Qv,Qw,Qx,Qy,Qz,QA,QB,QC,QD,QE,QF,QG,QH,QI,QJ,QK,QL,QM,QN,QO,QP,QQ]
       exact ⟨i+1,h1,by simp only;omega,⟨[some 0,some 1,some 2],rfl,by simp,by simp [setsA,keepA,SWeak,AWeak],by simp [HWeak,BWeak,SWeak,AWeak]⟩⟩
      ·obtain rfl:i=L.length:=by omega
       rw [List.take_length] at *
       simp (config:={maxSteps:=1000000}) (disch:=((try simp only [awL]);omega)) only [hG,QR,QS,QT,QU,QV,QW,QX,QY,QZ,Q0,Q1,Q2,nl,↓awU,awV,awF,Qa,Qb,Qc,Qd,forall_const,↓reduceIte,↓reduceDIte,↓Qe,Qf,Qg,Qh,Qi,Qj,Qk,Ql,Qm,Qn,Qo,Qp,Qq,Qr,Qs,implies_true,Qt,Qu,Qv,Qw,Qx,Qy,Qz,QA,QB,QC,QD,QE,QF,QG,QH,QI,QJ,QK,QL,QM,QN,QO,QP,QQ]
       refine LoopC.fr 9223372036854777380 (α:=Nat) (fun j=>(decB s).length - j) (fun j=>[(11,.d (W (toW (10 ^ j)))),(64,.d (.int .i64 j))])
        (fun _=>[.box [.d (.bool false),.d (.sl 0 true []),.d (.bool false),.d (.sl 0 true [])],.row true (nats .u32 [10]),.row false (ints .u8 (nums L))]) (fun j=>j≤(decB s).length) 0 (Nat.zero_le _) ?_ ?_
       ·exact ⟨[some 0,some 1,some 2],rfl,by simp,by simp [setsA,keepA,SWeak,AWeak,toW_one],by simp [HWeak,BWeak,SWeak,AWeak,nats]⟩
       ·intro j hj
        have lj:(toW (10 ^ j)).length≤10:=sz_small (Nat.pow_lt_pow_right (by decide) (by omega))
        simp only [awK,Nat.reduceMod,Nat.reduceDiv,reduceIte]
        rcases Nat.lt_or_ge j (decB s).length with h2 | h2
        ·simp (config:={maxSteps:=1000000}) (disch:=((try simp only [awL]);omega)) only [hG,QR,QS,QT,QU,QV,QW,QX,QY,QZ,Q0,Q1,Q2,↓awU,awV,awF,Qa,Qb,Qc,Qd,forall_const,↓reduceIte,↓reduceDIte,↓Qe,Qf,Qg,Qh,Qi,Qj,Qk,Ql,Qm,Qn,Qo,Qp,Qq,Qr,Qs,implies_true,Qt,Qu,Qv,Qw,Qx,Qy,Qz,QA,QB,QC,QD,QE,QF,QG,QH,QI,QJ,QK,QL,QM,QN,QO,QP,QQ]
         refine CallC.frozenE (times_spec (10 ^ j) 10 (by omega) (by rw [toW_10];decide)) (by rw [toW_10];rfl) ?_
         rw [← Nat.pow_succ]
         simp (config:={maxSteps:=1000000}) (disch:=((try simp only [awL]);omega)) only [hG,QR,QS,QT,QU,QV,QW,QX,QY,QZ,Q0,Q1,Q2,↓awU,awV,awF,Qa,Qb,Qc,Qd,forall_const,↓reduceIte,↓reduceDIte,↓Qe,Qf,Qg,Qh,Qi,Qj,Qk,Ql,Qm,Qn,Qo,Qp,Qq,Qr,Qs,implies_true,Qt,Qu,Qv,Qw,Qx,Qy,Qz,QA,QB,QC,QD,QE,QF,QG,QH,QI,QJ,QK,QL,QM,QN,QO,QP,QQ]
         exact ⟨j+1,h2,by simp only;omega,⟨[some 0,some 1,some 2],rfl,by simp,by simp [setsA,keepA,SWeak,AWeak],by simp [HWeak,BWeak,SWeak,AWeak]⟩⟩
        ·obtain rfl:j=(decB s).length:=by omega
         have hd0:((10 ^ (decB s).length:Nat):Int)≠0:=by
          have:0<10 ^ (decB s).length:=Nat.pow_pos (by decide)
          omega
         simp (config:={maxSteps:=1000000}) (disch:=((try simp only [awL]);omega)) only [hG,QR,QS,QT,QU,QV,QW,QX,QY,QZ,Q0,Q1,Q2,↓awU,awV,awF,Qa,Qb,Qc,Qd,forall_const,↓reduceIte,↓reduceDIte,↓Qe,Qf,Qg,Qh,Qi,Qj,Qk,Ql,Qm,Qn,Qo,Qp,Qq,Qr,Qs,implies_true,Qt,Qu,Qv,Qw,Qx,Qy,Qz,QA,QB,QC,QD,QE,QF,QG,QH,QI,QJ,QK,QL,QM,QN,QO,QP,QQ]
         refine CallC.pure (signed_spec false (decNum L) (by omega)) ?_
         simp (config:={maxSteps:=1000000}) (disch:=((try simp only [awL]);omega)) only [hG,QR,QS,QT,QU,QV,QW,QX,QY,QZ,Q0,Q1,Q2,↓awU,awV,awF,Qa,Qb,Qc,Qd,forall_const,↓reduceIte,↓reduceDIte,↓Qe,Qf,Qg,Qh,Qi,Qj,Qk,Ql,Qm,Qn,Qo,Qp,Qq,Qr,Qs,implies_true,Qt,Qu,Qv,Qw,Qx,Qy,Qz,QA,QB,QC,QD,QE,QF,QG,QH,QI,QJ,QK,QL,QM,QN,QO,QP,QQ]
         refine CallC.pure (signed_spec false (10 ^ (decB s).length) (by omega)) ?_
         simp (config:={maxSteps:=1000000}) (disch:=((try simp only [awL]);omega)) only [hG,QR,QS,QT,QU,QV,QW,QX,QY,QZ,Q0,Q1,Q2,↓awU,awV,awF,Qa,Qb,Qc,Qd,forall_const,↓reduceIte,↓reduceDIte,↓Qe,Qf,Qg,Qh,Qi,Qj,Qk,Ql,Qm,Qn,Qo,Qp,Qq,Qr,Qs,implies_true,Qt,Qu,Qv,Qw,Qx,Qy,Qz,QA,QB,QC,QD,QE,QF,QG,QH,QI,QJ,QK,QL,QM,QN,QO,QP,QQ]
         refine CallC.of (reduced_spec (if false=true then -(decNum L:Int) else (decNum L:Int)) ((10 ^ (decB s).length:Nat):Int) hd0 (by simp only [sz];split<;>simp<;>omega) (by simp only [sz,Int.natAbs_natCast];omega)) (by rfl) ?_
         rw [← hdv]
         simp (config:={maxSteps:=1000000}) (disch:=((try simp only [awL]);omega)) only [hG,QR,QS,QT,QU,QV,QW,QX,QY,QZ,Q0,Q1,Q2,↓awU,awV,awF,Qa,Qb,Qc,Qd,forall_const,↓reduceIte,↓reduceDIte,↓Qe,Qf,Qg,Qh,Qi,Qj,Qk,Ql,Qm,Qn,Qo,Qp,Qq,Qr,Qs,implies_true,Qt,Qu,Qv,Qw,Qx,Qy,Qz,QA,QB,QC,QD,QE,QF,QG,QH,QI,QJ,QK,QL,QM,QN,QO,QP,QQ]
         first | done | rfl
 ·have eb:s.drop 1=decBody s:=by rw [decBody,h45];rfl
  have en:decNeg s=true:=h45
  rw [en] at hdv
  simp (config:={maxSteps:=1000000}) (disch:=((try simp only [awL]);omega)) only [QR,QS,QT,QU,QV,QW,QX,QY,QZ,Q0,Q1,Q2,eb,↓awU,awV,awF,Qa,Qb,Qc,Qd,forall_const,↓reduceIte,↓reduceDIte,↓Qe,Qf,Qg,Qh,Qi,Qj,Qk,Ql,Qm,Qn,Qo,Qp,Qq,Qr,Qs,implies_true,Qt,Qu,Qv,Qw,Qx,Qy,Qz,QA,QB,QC,QD,QE,QF,QG,QH,QI,QJ,QK,QL,QM,QN,QO,QP,QQ]
  refine CallC.pure (cut_spec (decBody s) 46 (by omega)) ?_
  rw [f1,f2]
  simp (config:={maxSteps:=1000000}) (disch:=((try simp only [awL]);omega)) only [QR,QS,QT,QU,QV,QW,QX,QY,QZ,Q0,Q1,Q2,↓awU,awV,awF,Qa,Qb,Qc,Qd,forall_const,↓reduceIte,↓reduceDIte,↓Qe,Qf,Qg,Qh,Qi,Qj,Qk,Ql,Qm,Qn,Qo,Qp,Qq,Qr,Qs,implies_true,Qt,Qu,Qv,Qw,Qx,Qy,Qz,QA,QB,QC,QD,QE,QF,QG,QH,QI,QJ,QK,QL,QM,QN,QO,QP,QQ]
  refine CallC.pure (digits_spec (decF s) 15 (by omega)) ?_
  cases d1:digB (decF s) 15
  ·rw [hok,d1,Bool.false_and]
   simp (config:={maxSteps:=1000000}) (disch:=((try simp only [awL]);omega)) only [QR,QS,QT,QU,QV,QW,QX,QY,QZ,Q0,Q1,Q2,↓awU,awV,awF,Qa,Qb,Qc,Qd,forall_const,↓reduceIte,↓reduceDIte,↓Qe,Qf,Qg,Qh,Qi,Qj,Qk,Ql,Qm,Qn,Qo,Qp,Qq,Qr,Qs,implies_true,Qt,Qu,Qv,Qw,Qx,Qy,Qz,QA,QB,QC,QD,QE,QF,QG,QH,QI,QJ,QK,QL,QM,QN,QO,QP,QQ]
   first | done | rfl
  ·rw [d1,Bool.true_and] at hok
   cases dp:decide (46∈decBody s)
   ·rw [dp,Bool.not_false,Bool.true_or] at hok
    obtain ⟨hall,hlen,hlb⟩:=decOk_facts hok
    have hsm:∀ i,i≤(decF s++decB s).length→(toW (decNum ((decF s++decB s).take i))).length≤30:=fun i hi=>by
     have h:=decNum_lt (l:=(decF s++decB s).take i) fun b hb=>hall b (List.mem_of_mem_take hb)
     exact sz_small (Nat.lt_of_lt_of_le h (Nat.pow_le_pow_right (by decide) (by rw [List.length_take];omega)))
    have hlt:∀ i,i≤(decF s++decB s).length→decNum ((decF s++decB s).take i)*10<10 ^ 30:=fun i hi=>by
     have h:=decNum_lt (l:=(decF s++decB s).take i) fun b hb=>hall b (List.mem_of_mem_take hb)
     have h2:10 ^ ((decF s++decB s).take i).length≤10 ^ 29:=Nat.pow_le_pow_right (by decide) (by rw [List.length_take];omega)
     have h3:(10:Nat) ^ 30=10 ^ 29*10:=rfl
     omega
    rw [if_pos hok,hok]
    generalize hL:decF s++decB s=L at *
    simp (config:={maxSteps:=1000000}) (disch:=((try simp only [awL]);omega)) only [hG,QR,QS,QT,QU,QV,QW,QX,QY,QZ,Q0,Q1,Q2,↓awU,awV,awF,Qa,Qb,Qc,Qd,forall_const,↓reduceIte,↓reduceDIte,↓Qe,Qf,Qg,Qh,Qi,Qj,Qk,Ql,Qm,Qn,Qo,Qp,Qq,Qr,Qs,implies_true,Qt,Qu,Qv,Qw,Qx,Qy,Qz,QA,QB,QC,QD,QE,QF,QG,QH,QI,QJ,QK,QL,QM,QN,QO,QP,QQ]
    refine CallC.of (clone_spec [1] (by decide)) (by rfl) ?_
    simp (config:={maxSteps:=1000000}) (disch:=((try simp only [awL]);omega)) only [hG,QR,QS,QT,QU,QV,QW,QX,QY,QZ,Q0,Q1,Q2,hL,cells_nums,↓awU,awV,awF,Qa,Qb,Qc,Qd,forall_const,↓reduceIte,↓reduceDIte,↓Qe,Qf,Qg,Qh,Qi,Qj,Qk,Ql,Qm,Qn,Qo,Qp,Qq,Qr,Qs,implies_true,Qt,Qu,Qv,Qw,Qx,Qy,Qz,QA,QB,QC,QD,QE,QF,QG,QH,QI,QJ,QK,QL,QM,QN,QO,QP,QQ]
    refine LoopC.fr 422212465069220 (α:=Nat) (fun i=>L.length - i) (fun i=>[(9,.d (W (toW (decNum (L.take i))))),(49,.d (.int .i64 i))])
     (fun _=>[.box [.d (.bool false),.d (.sl 0 true []),.d (.bool false),.d (.sl 0 true [])],.row true (nats .u32 [10]),.row false (ints .u8 (nums L))]) (fun i=>i≤L.length) 0 (Nat.zero_le _) ?_ ?_
    ·exact ⟨[some 0,some 1,some 2],rfl,by simp,by simp [setsA,keepA,SWeak,AWeak,decNum,toW_zero,nats],by simp [HWeak,BWeak,SWeak,AWeak,nats]⟩
    ·intro i hi
     have lt:=hsm i hi
     have nl:=@nums_length L
     simp only [awK,Nat.reduceMod,Nat.reduceDiv,reduceIte]
     rcases Nat.lt_or_ge i L.length with h1 | h1
     ·have hb:=dig_range (hall _ (mem_getDU (d:=0) h1))
      have hp:=decNum_push h1
      have ls:=sz_small (n:=(L.getD i 0).toNat - 48) (k:=2) (by omega)
      have e48:((L.getD i 0).toNat:Int) - 48=(((L.getD i 0).toNat - 48:Nat):Int):=by omega
      have lm:(toW (decNum (L.take i)*10)).length≤40:=sz_small (Nat.lt_of_lt_of_le (hlt i hi) (by decide))
      simp (config:={maxSteps:=1000000}) (disch:=((try simp only [awL]);omega)) only [hG,QR,QS,QT,QU,QV,QW,QX,QY,QZ,Q0,Q1,Q2,nl,↓awU,awV,awF,Qa,Qb,Qc,Qd,forall_const,↓reduceIte,↓reduceDIte,↓Qe,Qf,Qg,Qh,Qi,Qj,Qk,Ql,Qm,Qn,Qo,Qp,Qq,Qr,Qs,implies_true,Qt,Qu,Qv,Qw,Qx,Qy,Qz,QA,QB,QC,QD,QE,QF,QG,QH,QI,QJ,QK,QL,QM,QN,QO,QP,QQ]
      refine CallC.frozenE (times_spec (decNum (L.take i)) 10 (by omega) (by rw [toW_10];decide)) (by rw [toW_10];rfl) ?_
      simp (config:={maxSteps:=1000000}) (disch:=((try simp only [awL]);omega)) only [hG,QR,QS,QT,QU,QV,QW,QX,QY,QZ,Q0,Q1,Q2,nl,e48,↓awU,awV,awF,Qa,Qb,Qc,Qd,forall_const,↓reduceIte,↓reduceDIte,↓Qe,Qf,Qg,Qh,Qi,Qj,Qk,Ql,Qm,Qn,Qo,Qp,Qq,Qr,Qs,implies_true,Qt,Qu,Qv,Qw,Qx,Qy,Qz,QA,QB,QC,QD,QE,QF,QG,QH,QI,QJ,QK,QL,QM,QN,QO,QP,QQ]
      refine CallC.pure (natural_spec ((L.getD i 0).toNat - 48) (by omega)) ?_
      simp (config:={maxSteps:=1000000}) (disch:=((try simp only [awL]);omega)) only [hG,QR,QS,QT,QU,QV,QW,QX,QY,QZ,Q0,Q1,Q2,nl,↓awU,awV,awF,Qa,Qb,Qc,Qd,forall_const,↓reduceIte,↓reduceDIte,↓Qe,Qf,Qg,Qh,Qi,Qj,Qk,Ql,Qm,Qn,Qo,Qp,Qq,Qr,Qs,implies_true,Qt,Qu,Qv,Qw,Qx,Qy,Qz,QA,QB,QC,QD,QE,QF,QG,QH,QI,QJ,QK,QL,QM,QN,QO,QP,QQ]
      refine CallC.pure (plus_spec (decNum (L.take i)*10) ((L.getD i 0).toNat - 48) (by omega) (by omega)) ?_
      rw [hp]
      simp (config:={maxSteps:=1000000}) (disch:=((try simp only [awL]);omega)) only [hG,QR,QS,QT,QU,QV,QW,QX,QY,QZ,Q0,Q1,Q2,nl,↓awU,awV,awF,Qa,Qb,Qc,Qd,forall_const,↓reduceIte,↓reduceDIte,↓Qe,Qf,Qg,Qh,Qi,Qj,Qk,Ql,Qm,Qn,Qo,Qp,Qq,Qr,Qs,implies_true,Qt,Qu,Qv,Qw,Qx,Qy,Qz,QA,QB,QC,QD,QE,QF,QG,QH,QI,QJ,QK,QL,QM,QN,QO,QP,QQ]
      exact ⟨i+1,h1,by simp only;omega,⟨[some 0,some 1,some 2],rfl,by simp,by simp [setsA,keepA,SWeak,AWeak],by simp [HWeak,BWeak,SWeak,AWeak]⟩⟩
     ·obtain rfl:i=L.length:=by omega
      rw [List.take_length] at *
      simp (config:={maxSteps:=1000000}) (disch:=((try simp only [awL]);omega)) only [hG,QR,QS,QT,QU,QV,QW,QX,QY,QZ,Q0,Q1,Q2,nl,↓awU,awV,awF,Qa,Qb,Qc,Qd,forall_const,↓reduceIte,↓reduceDIte,↓Qe,Qf,Qg,Qh,Qi,Qj,Qk,Ql,Qm,Qn,Qo,Qp,Qq,Qr,Qs,implies_true,Qt,Qu,Qv,Qw,Qx,Qy,Qz,QA,QB,QC,QD,QE,QF,QG,QH,QI,QJ,QK,QL,QM,QN,QO,QP,QQ]
      refine LoopC.fr 9223372036854777380 (α:=Nat) (fun j=>(decB s).length - j) (fun j=>[(11,.d (W (toW (10 ^ j)))),(64,.d (.int .i64 j))])
       (fun _=>[.box [.d (.bool false),.d (.sl 0 true []),.d (.bool false),.d (.sl 0 true [])],.row true (nats .u32 [10]),.row false (ints .u8 (nums L))]) (fun j=>j≤(decB s).length) 0 (Nat.zero_le _) ?_ ?_
      ·exact ⟨[some 0,some 1,some 2],rfl,by simp,by simp [setsA,keepA,SWeak,AWeak,toW_one],by simp [HWeak,BWeak,SWeak,AWeak,nats]⟩
      ·intro j hj
       have lj:(toW (10 ^ j)).length≤10:=sz_small (Nat.pow_lt_pow_right (by decide) (by omega))
       simp only [awK,Nat.reduceMod,Nat.reduceDiv,reduceIte]
       rcases Nat.lt_or_ge j (decB s).length with h2 | h2
       ·simp (config:={maxSteps:=1000000}) (disch:=((try simp only [awL]);omega)) only [hG,QR,QS,QT,QU,QV,QW,QX,QY,QZ,Q0,Q1,Q2,↓awU,awV,awF,Qa,Qb,Qc,Qd,forall_const,↓reduceIte,↓reduceDIte,↓Qe,Qf,Qg,Qh,Qi,Qj,Qk,Ql,Qm,Qn,Qo,Qp,Qq,Qr,Qs,implies_true,Qt,Qu,Qv,Qw,Qx,Qy,Qz,QA,QB,QC,QD,QE,QF,QG,QH,QI,QJ,QK,QL,QM,QN,QO,QP,QQ]
        refine CallC.frozenE (times_spec (10 ^ j) 10 (by omega) (by rw [toW_10];decide)) (by rw [toW_10];rfl) ?_
        rw [← Nat.pow_succ]
        simp (config:={maxSteps:=1000000}) (disch:=((try simp only [awL]);omega)) only [hG,QR,QS,QT,QU,QV,QW,QX,QY,QZ,Q0,Q1,Q2,↓awU,awV,awF,Qa,Qb,Qc,Qd,forall_const,↓reduceIte,↓reduceDIte,↓Qe,Qf,Qg,Qh,Qi,Qj,Qk,Ql,Qm,Qn,Qo,Qp,Qq,Qr,Qs,implies_true,Qt,Qu,Qv,Qw,Qx,Qy,Qz,QA,QB,QC,QD,QE,QF,QG,QH,QI,QJ,QK,QL,QM,QN,QO,QP,QQ]
        exact ⟨j+1,h2,by simp only;omega,⟨[some 0,some 1,some 2],rfl,by simp,by simp [setsA,keepA,SWeak,AWeak],by simp [HWeak,BWeak,SWeak,AWeak]⟩⟩
       ·obtain rfl:j=(decB s).length:=by omega
        have hd0:((10 ^ (decB s).length:Nat):Int)≠0:=by
         have:0<10 ^ (decB s).length:=Nat.pow_pos (by decide)
         omega
        simp (config:={maxSteps:=1000000}) (disch:=((try simp only [awL]);omega)) only [hG,QR,QS,QT,QU,QV,QW,QX,QY,QZ,Q0,Q1,Q2,↓awU,awV,awF,Qa,Qb,Qc,Qd,forall_const,↓reduceIte,↓reduceDIte,↓Qe,Qf,Qg,Qh,Qi,Qj,Qk,Ql,Qm,Qn,Qo,Qp,Qq,Qr,Qs,implies_true,Qt,Qu,Qv,Qw,Qx,Qy,Qz,QA,QB,QC,QD,QE,QF,QG,QH,QI,QJ,QK,QL,QM,QN,QO,QP,QQ]
        refine CallC.pure (signed_spec true (decNum L) (by omega)) ?_
        simp (config:={maxSteps:=1000000}) (disch:=((try simp only [awL]);omega)) only [hG,QR,QS,QT,QU,QV,QW,QX,QY,QZ,Q0,Q1,Q2,↓awU,awV,awF,Qa,Qb,Qc,Qd,forall_const,↓reduceIte,↓reduceDIte,↓Qe,Qf,Qg,Qh,Qi,Qj,Qk,Ql,Qm,Qn,Qo,Qp,Qq,Qr,Qs,implies_true,Qt,Qu,Qv,Qw,Qx,Qy,Qz,QA,QB,QC,QD,QE,QF,QG,QH,QI,QJ,QK,QL,QM,QN,QO,QP,QQ]
        refine CallC.pure (signed_spec false (10 ^ (decB s).length) (by omega)) ?_
        simp (config:={maxSteps:=1000000}) (disch:=((try simp only [awL]);omega)) only [hG,QR,QS,QT,QU,QV,QW,QX,QY,QZ,Q0,Q1,Q2,↓awU,awV,awF,Qa,Qb,Qc,Qd,forall_const,↓reduceIte,↓reduceDIte,↓Qe,Qf,Qg,Qh,Qi,Qj,Qk,Ql,Qm,Qn,Qo,Qp,Qq,Qr,Qs,implies_true,Qt,Qu,Qv,Qw,Qx,Qy,Qz,QA,QB,QC,QD,QE,QF,QG,QH,QI,QJ,QK,QL,QM,QN,QO,QP,QQ]
        refine CallC.of (reduced_spec (if true=true then -(decNum L:Int) else (decNum L:Int)) ((10 ^ (decB s).length:Nat):Int) hd0 (by simp only [sz];split<;>simp<;>omega) (by simp only [sz,Int.natAbs_natCast];omega)) (by rfl) ?_
        rw [← hdv]
        simp (config:={maxSteps:=1000000}) (disch:=((try simp only [awL]);omega)) only [hG,QR,QS,QT,QU,QV,QW,QX,QY,QZ,Q0,Q1,Q2,↓awU,awV,awF,Qa,Qb,Qc,Qd,forall_const,↓reduceIte,↓reduceDIte,↓Qe,Qf,Qg,Qh,Qi,Qj,Qk,Ql,Qm,Qn,Qo,Qp,Qq,Qr,Qs,implies_true,Qt,Qu,Qv,Qw,Qx,Qy,Qz,QA,QB,QC,QD,QE,QF,QG,QH,QI,QJ,QK,QL,QM,QN,QO,QP,QQ]
        first | done | rfl
   ·rw [dp,Bool.not_true,Bool.false_or] at hok
    simp (config:={maxSteps:=1000000}) (disch:=((try simp only [awL]);omega)) only [QR,QS,QT,QU,QV,QW,QX,QY,QZ,Q0,Q1,Q2,↓awU,awV,awF,Qa,Qb,Qc,Qd,forall_const,↓reduceIte,↓reduceDIte,↓Qe,Qf,Qg,Qh,Qi,Qj,Qk,Ql,Qm,Qn,Qo,Qp,Qq,Qr,Qs,implies_true,Qt,Qu,Qv,Qw,Qx,Qy,Qz,QA,QB,QC,QD,QE,QF,QG,QH,QI,QJ,QK,QL,QM,QN,QO,QP,QQ]
    refine CallC.pure (digits_spec (decB s) 9 (by omega)) ?_
    cases d2:digB (decB s) 9
    ·rw [hok,d2]
     simp (config:={maxSteps:=1000000}) (disch:=((try simp only [awL]);omega)) only [QR,QS,QT,QU,QV,QW,QX,QY,QZ,Q0,Q1,Q2,↓awU,awV,awF,Qa,Qb,Qc,Qd,forall_const,↓reduceIte,↓reduceDIte,↓Qe,Qf,Qg,Qh,Qi,Qj,Qk,Ql,Qm,Qn,Qo,Qp,Qq,Qr,Qs,implies_true,Qt,Qu,Qv,Qw,Qx,Qy,Qz,QA,QB,QC,QD,QE,QF,QG,QH,QI,QJ,QK,QL,QM,QN,QO,QP,QQ]
     first | done | rfl
    ·rw [d2] at hok
     obtain ⟨hall,hlen,hlb⟩:=decOk_facts hok
     have hsm:∀ i,i≤(decF s++decB s).length→(toW (decNum ((decF s++decB s).take i))).length≤30:=fun i hi=>by
      have h:=decNum_lt (l:=(decF s++decB s).take i) fun b hb=>hall b (List.mem_of_mem_take hb)
      exact sz_small (Nat.lt_of_lt_of_le h (Nat.pow_le_pow_right (by decide) (by rw [List.length_take];omega)))
     have hlt:∀ i,i≤(decF s++decB s).length→decNum ((decF s++decB s).take i)*10<10 ^ 30:=fun i hi=>by
      have h:=decNum_lt (l:=(decF s++decB s).take i) fun b hb=>hall b (List.mem_of_mem_take hb)
      have h2:10 ^ ((decF s++decB s).take i).length≤10 ^ 29:=Nat.pow_le_pow_right (by decide) (by rw [List.length_take];omega)
      have h3:(10:Nat) ^ 30=10 ^ 29*10:=rfl
      omega
     rw [if_pos hok,hok]
     generalize hL:decF s++decB s=L at *
     simp (config:={maxSteps:=1000000}) (disch:=((try simp only [awL]);omega)) only [hG,QR,QS,QT,QU,QV,QW,QX,QY,QZ,Q0,Q1,Q2,↓awU,awV,awF,Qa,Qb,Qc,Qd,forall_const,↓reduceIte,↓reduceDIte,↓Qe,Qf,Qg,Qh,Qi,Qj,Qk,Ql,Qm,Qn,Qo,Qp,Qq,Qr,Qs,implies_true,Qt,Qu,Qv,Qw,Qx,Qy,Qz,QA,QB,QC,QD,QE,QF,QG,QH,QI,QJ,QK,QL,QM,QN,QO,QP,QQ]
     refine CallC.of (clone_spec [1] (by decide)) (by rfl) ?_
     simp (config:={maxSteps:=1000000}) (disch:=((try simp only [awL]);omega)) only [hG,QR,QS,QT,QU,QV,QW,QX,QY,QZ,Q0,Q1,Q2,hL,cells_nums,↓awU,awV,awF,Qa,Qb,Qc,Qd,forall_const,↓reduceIte,↓reduceDIte,↓Qe,Qf,Qg,Qh,Qi,Qj,Qk,Ql,Qm,Qn,Qo,Qp,Qq,Qr,Qs,implies_true,Qt,Qu,Qv,Qw,Qx,Qy,Qz,QA,QB,QC,QD,QE,QF,QG,QH,QI,QJ,QK,QL,QM,QN,QO,QP,QQ]
     refine LoopC.fr 422212465069220 (α:=Nat) (fun i=>L.length - i) (fun i=>[(9,.d (W (toW (decNum (L.take i))))),(49,.d (.int .i64 i))])
      (fun _=>[.box [.d (.bool false),.d (.sl 0 true []),.d (.bool false),.d (.sl 0 true [])],.row true (nats .u32 [10]),.row false (ints .u8 (nums L))]) (fun i=>i≤L.length) 0 (Nat.zero_le _) ?_ ?_
     ·exact ⟨[some 0,some 1,some 2],rfl,by simp,by simp [setsA,keepA,SWeak,AWeak,decNum,toW_zero,nats],by simp [HWeak,BWeak,SWeak,AWeak,nats]⟩
     ·intro i hi
      have lt:=hsm i hi
      have nl:=@nums_length L
      simp only [awK,Nat.reduceMod,Nat.reduceDiv,reduceIte]
      rcases Nat.lt_or_ge i L.length with h1 | h1
      ·have hb:=dig_range (hall _ (mem_getDU (d:=0) h1))
       have hp:=decNum_push h1
       have ls:=sz_small (n:=(L.getD i 0).toNat - 48) (k:=2) (by omega)
       have e48:((L.getD i 0).toNat:Int) - 48=(((L.getD i 0).toNat - 48:Nat):Int):=by omega
       have lm:(toW (decNum (L.take i)*10)).length≤40:=sz_small (Nat.lt_of_lt_of_le (hlt i hi) (by decide))
       simp (config:={maxSteps:=1000000}) (disch:=((try simp only [awL]);omega)) only [hG,QR,QS,QT,QU,QV,QW,QX,QY,QZ,Q0,Q1,Q2,nl,↓awU,awV,awF,Qa,Qb,Qc,Qd,forall_const,↓reduceIte,↓reduceDIte,↓Qe,Qf,Qg,Qh,Qi,Qj,Qk,Ql,Qm,Qn,Qo,Qp,Qq,Qr,Qs,implies_true,Qt,Qu,Qv,Qw,Qx,Qy,Qz,QA,QB,QC,QD,QE,QF,QG,QH,QI,QJ,QK,QL,QM,QN,QO,QP,QQ]
       refine CallC.frozenE (times_spec (decNum (L.take i)) 10 (by omega) (by rw [toW_10];decide)) (by rw [toW_10];rfl) ?_
       simp (config:={maxSteps:=1000000}) (disch:=((try simp only [awL]);omega)) only [hG,QR,QS,QT,QU,QV,QW,QX,QY,QZ,Q0,Q1,Q2,nl,e48,↓awU,awV,awF,Qa,Qb,Qc,Qd,forall_const,↓reduceIte,↓reduceDIte,↓Qe,Qf,Qg,Qh,Qi,Qj,Qk,Ql,Qm,Qn,Qo,Qp,Qq,Qr,Qs,implies_true,Qt,Qu,Qv,Qw,Qx,Qy,Qz,QA,QB,QC,QD,QE,QF,QG,QH,QI,QJ,QK,QL,QM,QN,QO,QP,QQ]
       refine CallC.pure (natural_spec ((L.getD i 0).toNat - 48) (by omega)) ?_
       simp (config:={maxSteps:=1000000}) (disch:=((try simp only [awL]);omega)) only [hG,QR,QS,QT,QU,QV,QW,QX,QY,QZ,Q0,Q1,Q2,nl,↓awU,awV,awF,Qa,Qb,Qc,Qd,forall_const,↓reduceIte,↓reduceDIte,↓Qe,Qf,Qg,Qh,Qi,Qj,Qk,Ql,Qm,Qn,Qo,Qp,Qq,Qr,Qs,implies_true,Qt,Qu,Qv,Qw,Qx,Qy,Qz,QA,QB,QC,QD,QE,QF,QG,QH,QI,QJ,QK,QL,QM,QN,QO,QP,QQ]
       refine CallC.pure (plus_spec (decNum (L.take i)*10) ((L.getD i 0).toNat - 48) (by omega) (by omega)) ?_
       rw [hp]
       simp (config:={maxSteps:=1000000}) (disch:=((try simp only [awL]);omega)) only [hG,QR,QS,QT,QU,QV,QW,QX,QY,QZ,Q0,Q1,Q2,nl,↓awU,awV,awF,Qa,Qb,Qc,Qd,forall_const,↓reduceIte,↓reduceDIte,↓Qe,Qf,Qg,Qh,Qi,Qj,Qk,Ql,Qm,Qn,Qo,Qp,Qq,Qr,Qs,implies_true,Qt,Qu,Qv,Qw,Qx,Qy,Qz,QA,QB,QC,QD,QE,QF,QG,QH,QI,QJ,QK,QL,QM,QN,QO,QP,QQ]
       exact ⟨i+1,h1,by simp only;omega,⟨[some 0,some 1,some 2],rfl,by simp,by simp [setsA,keepA,SWeak,AWeak],by simp [HWeak,BWeak,SWeak,AWeak]⟩⟩
      ·obtain rfl:i=L.length:=by omega
       rw [List.take_length] at *
       simp (config:={maxSteps:=1000000}) (disch:=((try simp only [awL]);omega)) only [hG,QR,QS,QT,QU,QV,QW,QX,QY,QZ,Q0,Q1,Q2,nl,↓awU,awV,awF,Qa,Qb,Qc,Qd,forall_const,↓reduceIte,↓reduceDIte,↓Qe,Qf,Qg,Qh,Qi,Qj,Qk,Ql,Qm,Qn,Qo,Qp,Qq,Qr,Qs,implies_true,Qt,Qu,Qv,Qw,Qx,Qy,Qz,QA,QB,QC,QD,QE,QF,QG,QH,QI,QJ,QK,QL,QM,QN,QO,QP,QQ]
       refine LoopC.fr 9223372036854777380 (α:=Nat) (fun j=>(decB s).length - j) (fun j=>[(11,.d (W (toW (10 ^ j)))),(64,.d (.int .i64 j))])
        (fun _=>[.box [.d (.bool false),.d (.sl 0 true []),.d (.bool false),.d (.sl 0 true [])],.row true (nats .u32 [10]),.row false (ints .u8 (nums L))]) (fun j=>j≤(decB s).length) 0 (Nat.zero_le _) ?_ ?_
       ·exact ⟨[some 0,some 1,some 2],rfl,by simp,by simp [setsA,keepA,SWeak,AWeak,toW_one],by simp [HWeak,BWeak,SWeak,AWeak,nats]⟩
       ·intro j hj
        have lj:(toW (10 ^ j)).length≤10:=sz_small (Nat.pow_lt_pow_right (by decide) (by omega))
        simp only [awK,Nat.reduceMod,Nat.reduceDiv,reduceIte]
        rcases Nat.lt_or_ge j (decB s).length with h2 | h2
        ·simp (config:={maxSteps:=1000000}) (disch:=((try simp only [awL]);omega)) only [hG,QR,QS,QT,QU,QV,QW,QX,QY,QZ,Q0,Q1,Q2,↓awU,awV,awF,Qa,Qb,Qc,Qd,forall_const,↓reduceIte,↓reduceDIte,↓Qe,Qf,Qg,Qh,Qi,Qj,Qk,Ql,Qm,Qn,Qo,Qp,Qq,Qr,Qs,implies_true,Qt,Qu,Qv,Qw,Qx,Qy,Qz,QA,QB,QC,QD,QE,QF,QG,QH,QI,QJ,QK,QL,QM,QN,QO,QP,QQ]
         refine CallC.frozenE (times_spec (10 ^ j) 10 (by omega) (by rw [toW_10];decide)) (by rw [toW_10];rfl) ?_
         rw [← Nat.pow_succ]
         simp (config:={maxSteps:=1000000}) (disch:=((try simp only [awL]);omega)) only [hG,QR,QS,QT,QU,QV,QW,QX,QY,QZ,Q0,Q1,Q2,↓awU,awV,awF,Qa,Qb,Qc,Qd,forall_const,↓reduceIte,↓reduceDIte,↓Qe,Qf,Qg,Qh,Qi,Qj,Qk,Ql,Qm,Qn,Qo,Qp,Qq,Qr,Qs,implies_true,Qt,Qu,Qv,Qw,Qx,Qy,Qz,QA,QB,QC,QD,QE,QF,QG,QH,QI,QJ,QK,QL,QM,QN,QO,QP,QQ]
         exact ⟨j+1,h2,by simp only;omega,⟨[some 0,some 1,some 2],rfl,by simp,by simp [setsA,keepA,SWeak,AWeak],by simp [HWeak,BWeak,SWeak,AWeak]⟩⟩
        ·obtain rfl:j=(decB s).length:=by omega
         have hd0:((10 ^ (decB s).length:Nat):Int)≠0:=by
          have:0<10 ^ (decB s).length:=Nat.pow_pos (by decide)
          omega
         simp (config:={maxSteps:=1000000}) (disch:=((try simp only [awL]);omega)) only [hG,QR,QS,QT,QU,QV,QW,QX,QY,QZ,Q0,Q1,Q2,↓awU,awV,awF,Qa,Qb,Qc,Qd,forall_const,↓reduceIte,↓reduceDIte,↓Qe,Qf,Qg,Qh,Qi,Qj,Qk,Ql,Qm,Qn,Qo,Qp,Qq,Qr,Qs,implies_true,Qt,Qu,Qv,Qw,Qx,Qy,Qz,QA,QB,QC,QD,QE,QF,QG,QH,QI,QJ,QK,QL,QM,QN,QO,QP,QQ]
         refine CallC.pure (signed_spec true (decNum L) (by omega)) ?_
         simp (config:={maxSteps:=1000000}) (disch:=((try simp only [awL]);omega)) only [hG,QR,QS,QT,QU,QV,QW,QX,QY,QZ,Q0,Q1,Q2,↓awU,awV,awF,Qa,Qb,Qc,Qd,forall_const,↓reduceIte,↓reduceDIte,↓Qe,Qf,Qg,Qh,Qi,Qj,Qk,Ql,Qm,Qn,Qo,Qp,Qq,Qr,Qs,implies_true,Qt,Qu,Qv,Qw,Qx,Qy,Qz,QA,QB,QC,QD,QE,QF,QG,QH,QI,QJ,QK,QL,QM,QN,QO,QP,QQ]
         refine CallC.pure (signed_spec false (10 ^ (decB s).length) (by omega)) ?_
         simp (config:={maxSteps:=1000000}) (disch:=((try simp only [awL]);omega)) only [hG,QR,QS,QT,QU,QV,QW,QX,QY,QZ,Q0,Q1,Q2,↓awU,awV,awF,Qa,Qb,Qc,Qd,forall_const,↓reduceIte,↓reduceDIte,↓Qe,Qf,Qg,Qh,Qi,Qj,Qk,Ql,Qm,Qn,Qo,Qp,Qq,Qr,Qs,implies_true,Qt,Qu,Qv,Qw,Qx,Qy,Qz,QA,QB,QC,QD,QE,QF,QG,QH,QI,QJ,QK,QL,QM,QN,QO,QP,QQ]
         refine CallC.of (reduced_spec (if true=true then -(decNum L:Int) else (decNum L:Int)) ((10 ^ (decB s).length:Nat):Int) hd0 (by simp only [sz];split<;>simp<;>omega) (by simp only [sz,Int.natAbs_natCast];omega)) (by rfl) ?_
         rw [← hdv]
         simp (config:={maxSteps:=1000000}) (disch:=((try simp only [awL]);omega)) only [hG,QR,QS,QT,QU,QV,QW,QX,QY,QZ,Q0,Q1,Q2,↓awU,awV,awF,Qa,Qb,Qc,Qd,forall_const,↓reduceIte,↓reduceDIte,↓Qe,Qf,Qg,Qh,Qi,Qj,Qk,Ql,Qm,Qn,Qo,Qp,Qq,Qr,Qs,implies_true,Qt,Qu,Qv,Qw,Qx,Qy,Qz,QA,QB,QC,QD,QE,QF,QG,QH,QI,QJ,QK,QL,QM,QN,QO,QP,QQ]
         first | done | rfl
end Go.Proofs.YthbnileadffpiaaGreatDoor.Num
namespace Go.Proofs.YthbnileadffpiaaGreatDoor.Num
open Go Go.Proofs Go.Abs
variable {G:Globals}
def isD (c:UInt8):Prop:=48≤c.toNat∧c.toNat≤57
theorem isD_iff {c:UInt8}:dig10.contains c=true↔isD c:=by
 constructor
 ·exact dig_range
 ·intro h
  have hc:c=UInt8.ofNat c.toNat:=by simp
  rw [hc]
  obtain ⟨h1,h2⟩:=h
  generalize c.toNat=n at *
  rcases (by omega:n=48∨n=49∨n=50∨n=51∨n=52∨n=53∨n=54∨n=55∨n=56∨n=57) with rfl | rfl | rfl | rfl | rfl | rfl | rfl | rfl | rfl | rfl<;>rfl
theorem digB_iff {l:List UInt8} {m:Int}:digB l m=true↔1≤l.length∧(l.length:Int)≤m∧∀ c∈l,isD c:=by
 unfold digB
 rw [Bool.and_eq_true,decide_eq_true_eq,List.all_eq_true,and_assoc]
 constructor
 ·rintro ⟨h1,h2,h3⟩;exact ⟨h1,h2,fun c hc=>isD_iff.1 (h3 c hc)⟩
 ·rintro ⟨h1,h2,h3⟩;exact ⟨h1,h2,fun c hc=>isD_iff.2 (h3 c hc)⟩
theorem cut_first {c:UInt8}:∀ {b:List UInt8} {k:Nat},(∀ d∈b.take k,d≠c)→k<b.length→b.getD k 0=c→c∈b∧cutL c b=b.take k∧cutR c b=b.drop (k+1)
 | [],k,_,h,_=>by cases h
 | d::l,0,_,_,e=>by
   obtain rfl:d=c:=by simpa using e
   simp [cutL,cutR]
 | d::l,k+1,h,hk,e=>by
   have hd:d≠c:=h d (by simp)
   obtain ⟨h1,h2,h3⟩:=cut_first (b:=l) (k:=k) (fun x hx=>h x (by simp [hx])) (by simpa using hk) (by simpa using e)
   simp [cutL,cutR,hd,h1,h2,h3]
theorem not_isD_46 {c:UInt8} (h:isD c):c≠46:=fun e=>by subst e;obtain ⟨h1,_⟩:=h;exact absurd h1 (by decide)
theorem cut_all:∀ {b:List UInt8},(∀ d∈b,isD d)→(46:UInt8)∉b∧cutL 46 b=b∧cutR 46 b=[]
 | b,h=>by
   have hm:(46:UInt8)∉b:=fun hm=>not_isD_46 (h _ hm) rfl
   exact ⟨hm,((cut_index 46 b).2 hm).2⟩
theorem cut_bad:∀ {b:List UInt8} {k:Nat},(∀ d∈b.take k,isD d)→k<b.length→¬ isD (b.getD k 0)→b.getD k 0≠46→∃ c∈cutL 46 b,¬ isD c
 | [],k,_,h,_,_=>by cases h
 | d::l,0,_,_,e,e2=>by
   have e2:d≠46:=by simpa using e2
   exact ⟨d,by simp [cutL,e2],by simpa using e⟩
 | d::l,k+1,h,hk,e,e2=>by
   have hd:d≠46:=not_isD_46 (h d (by simp))
   obtain ⟨c,h1,h2⟩:=cut_bad (b:=l) (k:=k) (fun x hx=>h x (by simp [hx])) (by simpa using hk) (by simpa using e) (by simpa using e2)
   exact ⟨c,by simp [cutL,hd,h1],h2⟩
def okB (b:List UInt8):Bool:=digB (cutL 46 b) 15 && (!decide (46∈b) || digB (cutR 46 b) 9)
theorem ok_front {b:List UInt8} {k:Nat} (hk:k≤b.length) (h1:∀ c∈b.take k,isD c) (h2:k<b.length→¬ isD (b.getD k 0)) (h:k<1∨15<k):okB b=false:=by
 cases e:okB b with
 | false=>rfl
 | true =>
  exfalso
  unfold okB at e
  rw [Bool.and_eq_true] at e
  obtain ⟨q1,q2,q3⟩:=digB_iff.1 e.1
  rcases Nat.lt_or_ge k b.length with hl | hl
  ·by_cases h46:b.getD k 0=46
   ·obtain ⟨_,e1,_⟩:=cut_first (c:=46) (fun d hd=>not_isD_46 (h1 d hd)) hl h46
    rw [e1,List.length_take] at q1 q2
    omega
   ·obtain ⟨c,c1,c2⟩:=cut_bad h1 hl (h2 hl) h46
    exact c2 (q3 c c1)
  ·obtain rfl:k=b.length:=by omega
   rw [List.take_length] at h1
   obtain ⟨_,e1,_⟩:=cut_all h1
   rw [e1] at q1 q2
   omega
theorem ok_whole {b:List UInt8} (h1:∀ c∈b,isD c) (h3:1≤b.length) (h4:b.length≤15):okB b=true∧cutL 46 b=b∧cutR 46 b=[]:=by
 obtain ⟨e1,e2,e3⟩:=cut_all h1
 refine ⟨?_,e2,e3⟩
 unfold okB
 rw [e2,digB_iff.2 ⟨h3,by omega,h1⟩,decide_eq_false e1]
 rfl
theorem ok_bad {b:List UInt8} {k:Nat} (h1:∀ c∈b.take k,isD c) (hl:k<b.length) (h2:¬ isD (b.getD k 0)) (h46:b.getD k 0≠46):okB b=false:=by
 cases e:okB b with
 | false=>rfl
 | true =>
  unfold okB at e
  rw [Bool.and_eq_true] at e
  obtain ⟨c,c1,c2⟩:=cut_bad h1 hl h2 h46
  exact absurd ((digB_iff.1 e.1).2.2 c c1) c2
theorem ok_point {b:List UInt8} {k:Nat} (h1:∀ c∈b.take k,isD c) (hl:k<b.length) (h46:b.getD k 0=46) (h3:1≤k) (h4:k≤15) :
  okB b=digB (b.drop (k+1)) 9∧cutL 46 b=b.take k∧cutR 46 b=b.drop (k+1):=by
 obtain ⟨e0,e1,e2⟩:=cut_first (c:=46) (fun d hd=>not_isD_46 (h1 d hd)) hl h46
 refine ⟨?_,e1,e2⟩
 unfold okB
 rw [e1,e2,digB_iff.2 ⟨by rw [List.length_take];omega,by rw [List.length_take];omega,h1⟩,decide_eq_true e0]
 simp
theorem take_next {b:List UInt8} {k:Nat} {p:UInt8→Prop} (h:∀ c∈b.take k,p c) (hk:k<b.length) (hp:p (b.getD k 0)):∀ c∈b.take (k+1),p c:=by
 rw [take_snoc hk]
 intro c hc
 rcases List.mem_append.1 hc with h' | h'
 ·exact h c h'
 ·simp at h';subst h'
  simpa using hp
def partsD (neg:Bool) (b:List UInt8):D:=.tup [.bool (okB b && neg),S (if okB b=true then cutL 46 b else []),S (if okB b=true then cutR 46 b else []),.bool (okB b)]
set_option maxHeartbeats 4000000 in
set_option maxRecDepth 100000 in
theorem rparts_spec (s:List UInt8) (hs:s.length≤1000000000):Ctr Tryz.prog G 89 [.d (S s)] [] (.d (partsD (decNeg s) (decBody s))) []:=by
 refine Ctr.pure (M:=M0) hmix Tryz.func89 rfl go89 ?_
 have hb:(decBody s).length≤s.length:=by
  unfold decBody
  split
  ·simp
  ·split<;>simp
 have hcase:(s=[]∧decBody s=s∧decNeg s=false)∨(0<s.length∧(s.getD 0 0).toNat=45∧decBody s=s.drop 1∧decNeg s=true)∨(0<s.length∧(s.getD 0 0).toNat=43∧decBody s=s.drop 1∧decNeg s=false)∨(0<s.length∧(s.getD 0 0).toNat≠45∧(s.getD 0 0).toNat≠43∧decBody s=s∧decNeg s=false):=by
  rcases s with _ | ⟨c,r⟩
  ·exact .inl ⟨rfl,rfl,rfl⟩
  ·by_cases e1:c=45
   ·subst e1;exact .inr (.inl ⟨by simp,rfl,rfl,rfl⟩)
   ·by_cases e2:c=43
    ·subst e2;exact .inr (.inr (.inl ⟨by simp,rfl,rfl,rfl⟩))
    ·have n1:hasP (c::r) [45]=false:=by simp [hasP,e1]
     have n2:hasP (c::r) [43]=false:=by simp [hasP,e2]
     refine .inr (.inr (.inr ⟨by simp,fun h=>e1 (UInt8.toNat_inj.1 h),fun h=>e2 (UInt8.toNat_inj.1 h),by simp [decBody,n1,n2],n1⟩))
 rcases hcase with ⟨c1,c2,c3⟩ | ⟨c0,c1,c2,c3⟩ | ⟨c0,c1,c2,c3⟩ | ⟨c0,c1,c1',c2,c3⟩
 ·subst c1
  simp (config:={maxSteps:=1000000}) (disch:=((try simp only [awL]);omega)) only [QR,QS,QT,QU,QV,QW,QX,QY,QZ,Q0,Q1,Q2,Tryz.f89,↓awU,awV,awF,Qa,Qb,Qc,Qd,forall_const,↓reduceIte,↓reduceDIte,↓Qe,Qf,Qg,Qh,Qi,Qj,Qk,Ql,Qm,Qn,Qo,Qp,Qq,Qr,Qs,implies_true,Qt,Qu,Qv,Qw,Qx,Qy,Qz,QA,QB,QC,QD,QE,QF,QG,QH,QI,QJ,QK,QL,QM,QN,QO,QP,QQ]
  have hb:([]:List UInt8).length≤0:=Nat.le_refl _
  rw [c2,c3]
  refine LoopC.fr 4642343326489650161095016453 (α:=Nat) (fun k=>0 - k) (fun k=>[(6,.d (.int .i64 k))]) (fun _=>[]) (fun k=>k=0) 0 rfl ?_ ?_
  ·exact ⟨[],rfl,by simp,by simp [setsA,keepA,SWeak,AWeak],by simp [HWeak,BWeak,SWeak,AWeak]⟩
  ·rintro k rfl
   simp only [awK,Nat.reduceMod,Nat.reduceDiv,reduceIte]
   have e0:okB []=false:=rfl
   unfold partsD
   rw [e0]
   simp (config:={maxSteps:=1000000}) (disch:=((try simp only [awL]);omega)) only [QR,QS,QT,QU,QV,QW,QX,QY,QZ,Q0,Q1,Q2,↓awU,awV,awF,Qa,Qb,Qc,Qd,forall_const,↓reduceIte,↓reduceDIte,↓Qe,Qf,Qg,Qh,Qi,Qj,Qk,Ql,Qm,Qn,Qo,Qp,Qq,Qr,Qs,implies_true,Qt,Qu,Qv,Qw,Qx,Qy,Qz,QA,QB,QC,QD,QE,QF,QG,QH,QI,QJ,QK,QL,QM,QN,QO,QP,QQ]
   first | done | rfl
 ·simp (config:={maxSteps:=1000000}) (disch:=((try simp only [awL]);omega)) only [QR,QS,QT,QU,QV,QW,QX,QY,QZ,Q0,Q1,Q2,Tryz.f89,↓awU,awV,awF,Qa,Qb,Qc,Qd,forall_const,↓reduceIte,↓reduceDIte,↓Qe,Qf,Qg,Qh,Qi,Qj,Qk,Ql,Qm,Qn,Qo,Qp,Qq,Qr,Qs,implies_true,Qt,Qu,Qv,Qw,Qx,Qy,Qz,QA,QB,QC,QD,QE,QF,QG,QH,QI,QJ,QK,QL,QM,QN,QO,QP,QQ]
  refine ⟨by rfl,?_⟩
  rw [c2] at hb
  generalize hB:List.drop 1 s=b at *
  rw [c2,c3]
  refine LoopC.fr 4642343326489650161095016453 (α:=Nat) (fun k=>b.length - k) (fun k=>[(6,.d (.int .i64 k))]) (fun _=>[]) (fun k=>k≤b.length∧∀ c∈b.take k,isD c) 0 ⟨Nat.zero_le _,by simp⟩ ?_ ?_
  ·exact ⟨[],rfl,by simp,by simp [setsA,keepA,SWeak,AWeak],by simp [HWeak,BWeak,SWeak,AWeak]⟩
  ·rintro k ⟨hk,hd⟩
   simp only [awK,Nat.reduceMod,Nat.reduceDiv,reduceIte]
   have fin:(k<b.length→¬ isD (b.getD k 0))→∀ K:Prop,((k<1∨15<k→okB b=false→K)∧(1≤k→k≤15→k=b.length→okB b=true∧cutL 46 b=b∧cutR 46 b=[]→K)∧(1≤k→k≤15→k<b.length→(b.getD k 0).toNat≠46→okB b=false→K) ∧
     (1≤k→k≤15→k<b.length→(b.getD k 0).toNat=46→okB b=digB (b.drop (k+1)) 9→cutL 46 b=b.take k→cutR 46 b=b.drop (k+1)→K))→K:=by
    rintro hn K ⟨k1,k2,k3,k4⟩
    by_cases q:k<1∨15<k
    ·exact k1 q (ok_front hk hd hn q)
    ·rcases Nat.lt_or_ge k b.length with hl | hl
     ·by_cases h46:b.getD k 0=46
      ·obtain ⟨x1,x2,x3⟩:=ok_point hd hl h46 (by omega) (by omega)
       exact k4 (by omega) (by omega) hl (by rw [h46];rfl) x1 x2 x3
      ·exact k3 (by omega) (by omega) hl (fun e=>h46 (UInt8.toNat_inj.1 e)) (ok_bad hd hl (hn hl) h46)
     ·obtain rfl:k=b.length:=by omega
      rw [List.take_length] at hd
      exact k2 (by omega) (by omega) rfl (ok_whole hd (by omega) (by omega))
   rcases Nat.lt_or_ge k b.length with hl | hl
   ·by_cases hg:isD (b.getD k 0)
    ·have hg1:=hg.1
     have hg2:=hg.2
     simp (config:={maxSteps:=1000000}) (disch:=((try simp only [awL]);omega)) only [QR,QS,QT,QU,QV,QW,QX,QY,QZ,Q0,Q1,Q2,↓awU,awV,awF,Qa,Qb,Qc,Qd,forall_const,↓reduceIte,↓reduceDIte,↓Qe,Qf,Qg,Qh,Qi,Qj,Qk,Ql,Qm,Qn,Qo,Qp,Qq,Qr,Qs,implies_true,Qt,Qu,Qv,Qw,Qx,Qy,Qz,QA,QB,QC,QD,QE,QF,QG,QH,QI,QJ,QK,QL,QM,QN,QO,QP,QQ]
     exact ⟨k+1,⟨hl,take_next hd hl hg⟩,by simp only;omega,⟨[],rfl,by simp,by simp [setsA,keepA,SWeak,AWeak],by simp [HWeak,BWeak,SWeak,AWeak]⟩⟩
    ·have hg':(b.getD k 0).toNat<48∨57<(b.getD k 0).toNat:=by unfold isD at hg;omega
     rcases hg' with hg' | hg'
     ·refine fin (fun _=>hg) _ ⟨fun q1 q2=>?_,fun q1 q2 q3=>by omega,fun q1 q2 q3 q4 q5=>?_,fun q1 q2 q3 q4 q5 q6 q7=>?_⟩
      ·rcases q1 with q1 | q1
       ·unfold partsD
        rw [q2]
        simp (config:={maxSteps:=1000000}) (disch:=((try simp only [awL]);omega)) only [QR,QS,QT,QU,QV,QW,QX,QY,QZ,Q0,Q1,Q2,↓awU,awV,awF,Qa,Qb,Qc,Qd,forall_const,↓reduceIte,↓reduceDIte,↓Qe,Qf,Qg,Qh,Qi,Qj,Qk,Ql,Qm,Qn,Qo,Qp,Qq,Qr,Qs,implies_true,Qt,Qu,Qv,Qw,Qx,Qy,Qz,QA,QB,QC,QD,QE,QF,QG,QH,QI,QJ,QK,QL,QM,QN,QO,QP,QQ]
        first | done | rfl
       ·unfold partsD
        rw [q2]
        simp (config:={maxSteps:=1000000}) (disch:=((try simp only [awL]);omega)) only [QR,QS,QT,QU,QV,QW,QX,QY,QZ,Q0,Q1,Q2,↓awU,awV,awF,Qa,Qb,Qc,Qd,forall_const,↓reduceIte,↓reduceDIte,↓Qe,Qf,Qg,Qh,Qi,Qj,Qk,Ql,Qm,Qn,Qo,Qp,Qq,Qr,Qs,implies_true,Qt,Qu,Qv,Qw,Qx,Qy,Qz,QA,QB,QC,QD,QE,QF,QG,QH,QI,QJ,QK,QL,QM,QN,QO,QP,QQ]
        first | done | rfl
      ·unfold partsD
       rw [q5]
       simp (config:={maxSteps:=1000000}) (disch:=((try simp only [awL]);omega)) only [QR,QS,QT,QU,QV,QW,QX,QY,QZ,Q0,Q1,Q2,↓awU,awV,awF,Qa,Qb,Qc,Qd,forall_const,↓reduceIte,↓reduceDIte,↓Qe,Qf,Qg,Qh,Qi,Qj,Qk,Ql,Qm,Qn,Qo,Qp,Qq,Qr,Qs,implies_true,Qt,Qu,Qv,Qw,Qx,Qy,Qz,QA,QB,QC,QD,QE,QF,QG,QH,QI,QJ,QK,QL,QM,QN,QO,QP,QQ]
       first | done | rfl
      ·skip
       have hp3:(b.drop (k+1)).length=b.length - (k+1):=List.length_drop ..
       have hlk:(b.take k).length=k:=by rw [List.length_take];omega
       unfold partsD
       rw [q5,q6,q7]
       generalize hP:b.drop (k+1)=p at *
       by_cases hp1:p.length<1
       ·have e0:digB p 9=false:=by
         cases e:digB p 9 with
         | false=>rfl
         | true=>have:=(digB_iff.1 e).1;omega
        rw [e0]
        simp (config:={maxSteps:=1000000}) (disch:=((try simp only [awL]);omega)) only [QR,QS,QT,QU,QV,QW,QX,QY,QZ,Q0,Q1,Q2,hP,↓awU,awV,awF,Qa,Qb,Qc,Qd,forall_const,↓reduceIte,↓reduceDIte,↓Qe,Qf,Qg,Qh,Qi,Qj,Qk,Ql,Qm,Qn,Qo,Qp,Qq,Qr,Qs,implies_true,Qt,Qu,Qv,Qw,Qx,Qy,Qz,QA,QB,QC,QD,QE,QF,QG,QH,QI,QJ,QK,QL,QM,QN,QO,QP,QQ]
        first | done | rfl
       ·by_cases hp2:9<p.length
        ·have e0:digB p 9=false:=by
          cases e:digB p 9 with
          | false=>rfl
          | true=>have:=(digB_iff.1 e).2.1;omega
         rw [e0]
         simp (config:={maxSteps:=1000000}) (disch:=((try simp only [awL]);omega)) only [QR,QS,QT,QU,QV,QW,QX,QY,QZ,Q0,Q1,Q2,hP,↓awU,awV,awF,Qa,Qb,Qc,Qd,forall_const,↓reduceIte,↓reduceDIte,↓Qe,Qf,Qg,Qh,Qi,Qj,Qk,Ql,Qm,Qn,Qo,Qp,Qq,Qr,Qs,implies_true,Qt,Qu,Qv,Qw,Qx,Qy,Qz,QA,QB,QC,QD,QE,QF,QG,QH,QI,QJ,QK,QL,QM,QN,QO,QP,QQ]
         first | done | rfl
        ·simp (config:={maxSteps:=1000000}) (disch:=((try simp only [awL]);omega)) only [QR,QS,QT,QU,QV,QW,QX,QY,QZ,Q0,Q1,Q2,hP,↓awU,awV,awF,Qa,Qb,Qc,Qd,forall_const,↓reduceIte,↓reduceDIte,↓Qe,Qf,Qg,Qh,Qi,Qj,Qk,Ql,Qm,Qn,Qo,Qp,Qq,Qr,Qs,implies_true,Qt,Qu,Qv,Qw,Qx,Qy,Qz,QA,QB,QC,QD,QE,QF,QG,QH,QI,QJ,QK,QL,QM,QN,QO,QP,QQ]
         refine LoopC.fr 0 (α:=Nat) (fun i=>p.length - i) (fun i=>[(2,.d (.bool true)),(3,.d (S (b.take k))),(4,.d (S p)),(7,.d (.int .i64 i))]) (fun _=>[]) (fun i=>i≤p.length∧∀ c∈p.take i,isD c) 0 ⟨Nat.zero_le _,by simp⟩ ?_ ?_
         ·exact ⟨[],rfl,by simp,by simp [setsA,keepA,SWeak,AWeak],by simp [HWeak,BWeak,SWeak,AWeak]⟩
         ·rintro i ⟨hi,hdi⟩
          simp only [awK,Nat.reduceMod,Nat.reduceDiv,reduceIte]
          rcases Nat.lt_or_ge i p.length with hil | hil
          ·by_cases hgi:isD (p.getD i 0)
           ·have hg1:=hgi.1
            have hg2:=hgi.2
            simp (config:={maxSteps:=1000000}) (disch:=((try simp only [awL]);omega)) only [QR,QS,QT,QU,QV,QW,QX,QY,QZ,Q0,Q1,Q2,↓awU,awV,awF,Qa,Qb,Qc,Qd,forall_const,↓reduceIte,↓reduceDIte,↓Qe,Qf,Qg,Qh,Qi,Qj,Qk,Ql,Qm,Qn,Qo,Qp,Qq,Qr,Qs,implies_true,Qt,Qu,Qv,Qw,Qx,Qy,Qz,QA,QB,QC,QD,QE,QF,QG,QH,QI,QJ,QK,QL,QM,QN,QO,QP,QQ]
            exact ⟨i+1,⟨hil,take_next hdi hil hgi⟩,by simp only;omega,⟨[],rfl,by simp,by simp [setsA,keepA,SWeak,AWeak],by simp [HWeak,BWeak,SWeak,AWeak]⟩⟩
           ·have e0:digB p 9=false:=by
             cases e:digB p 9 with
             | false=>rfl
             | true=>exact absurd ((digB_iff.1 e).2.2 _ (mem_getDU hil)) hgi
            have hg':(p.getD i 0).toNat<48∨57<(p.getD i 0).toNat:=by unfold isD at hgi;omega
            rw [e0]
            rcases hg' with hg' | hg'
            ·simp (config:={maxSteps:=1000000}) (disch:=((try simp only [awL]);omega)) only [QR,QS,QT,QU,QV,QW,QX,QY,QZ,Q0,Q1,Q2,↓awU,awV,awF,Qa,Qb,Qc,Qd,forall_const,↓reduceIte,↓reduceDIte,↓Qe,Qf,Qg,Qh,Qi,Qj,Qk,Ql,Qm,Qn,Qo,Qp,Qq,Qr,Qs,implies_true,Qt,Qu,Qv,Qw,Qx,Qy,Qz,QA,QB,QC,QD,QE,QF,QG,QH,QI,QJ,QK,QL,QM,QN,QO,QP,QQ]
             first | done | rfl
            ·simp (config:={maxSteps:=1000000}) (disch:=((try simp only [awL]);omega)) only [QR,QS,QT,QU,QV,QW,QX,QY,QZ,Q0,Q1,Q2,↓awU,awV,awF,Qa,Qb,Qc,Qd,forall_const,↓reduceIte,↓reduceDIte,↓Qe,Qf,Qg,Qh,Qi,Qj,Qk,Ql,Qm,Qn,Qo,Qp,Qq,Qr,Qs,implies_true,Qt,Qu,Qv,Qw,Qx,Qy,Qz,QA,QB,QC,QD,QE,QF,QG,QH,QI,QJ,QK,QL,QM,QN,QO,QP,QQ]
             first | done | rfl
          ·obtain rfl:i=p.length:=by omega
           rw [List.take_length] at hdi
           have e0:digB p 9=true:=digB_iff.2 ⟨by omega,by omega,hdi⟩
           rw [e0]
           simp (config:={maxSteps:=1000000}) (disch:=((try simp only [awL]);omega)) only [QR,QS,QT,QU,QV,QW,QX,QY,QZ,Q0,Q1,Q2,↓awU,awV,awF,Qa,Qb,Qc,Qd,forall_const,↓reduceIte,↓reduceDIte,↓Qe,Qf,Qg,Qh,Qi,Qj,Qk,Ql,Qm,Qn,Qo,Qp,Qq,Qr,Qs,implies_true,Qt,Qu,Qv,Qw,Qx,Qy,Qz,QA,QB,QC,QD,QE,QF,QG,QH,QI,QJ,QK,QL,QM,QN,QO,QP,QQ]
           first | done | rfl
     ·refine fin (fun _=>hg) _ ⟨fun q1 q2=>?_,fun q1 q2 q3=>by omega,fun q1 q2 q3 q4 q5=>?_,fun q1 q2 q3 q4 q5 q6 q7=>?_⟩
      ·rcases q1 with q1 | q1
       ·unfold partsD
        rw [q2]
        simp (config:={maxSteps:=1000000}) (disch:=((try simp only [awL]);omega)) only [QR,QS,QT,QU,QV,QW,QX,QY,QZ,Q0,Q1,Q2,↓awU,awV,awF,Qa,Qb,Qc,Qd,forall_const,↓reduceIte,↓reduceDIte,↓Qe,Qf,Qg,Qh,Qi,Qj,Qk,Ql,Qm,Qn,Qo,Qp,Qq,Qr,Qs,implies_true,Qt,Qu,Qv,Qw,Qx,Qy,Qz,QA,QB,QC,QD,QE,QF,QG,QH,QI,QJ,QK,QL,QM,QN,QO,QP,QQ]
        first | done | rfl
       ·unfold partsD
        rw [q2]
        simp (config:={maxSteps:=1000000}) (disch:=((try simp only [awL]);omega)) only [QR,QS,QT,QU,QV,QW,QX,QY,QZ,Q0,Q1,Q2,↓awU,awV,awF,Qa,Qb,Qc,Qd,forall_const,↓reduceIte,↓reduceDIte,↓Qe,Qf,Qg,Qh,Qi,Qj,Qk,Ql,Qm,Qn,Qo,Qp,Qq,Qr,Qs,implies_true,Qt,Qu,Qv,Qw,Qx,Qy,Qz,QA,QB,QC,QD,QE,QF,QG,QH,QI,QJ,QK,QL,QM,QN,QO,QP,QQ]
        first | done | rfl
      ·unfold partsD
       rw [q5]
       simp (config:={maxSteps:=1000000}) (disch:=((try simp only [awL]);omega)) only [QR,QS,QT,QU,QV,QW,QX,QY,QZ,Q0,Q1,Q2,↓awU,awV,awF,Qa,Qb,Qc,Qd,forall_const,↓reduceIte,↓reduceDIte,↓Qe,Qf,Qg,Qh,Qi,Qj,Qk,Ql,Qm,Qn,Qo,Qp,Qq,Qr,Qs,implies_true,Qt,Qu,Qv,Qw,Qx,Qy,Qz,QA,QB,QC,QD,QE,QF,QG,QH,QI,QJ,QK,QL,QM,QN,QO,QP,QQ]
       first | done | rfl
      ·omega
   ·obtain rfl:k=b.length:=by omega
    refine fin (fun h=>absurd h (Nat.lt_irrefl _)) _ ⟨fun q1 q2=>?_,fun q1 q2 q3 q4=>?_,fun q1 q2 q3=>by omega,fun q1 q2 q3=>by omega⟩
    ·rcases q1 with q1 | q1
     ·unfold partsD
      rw [q2]
      simp (config:={maxSteps:=1000000}) (disch:=((try simp only [awL]);omega)) only [QR,QS,QT,QU,QV,QW,QX,QY,QZ,Q0,Q1,Q2,↓awU,awV,awF,Qa,Qb,Qc,Qd,forall_const,↓reduceIte,↓reduceDIte,↓Qe,Qf,Qg,Qh,Qi,Qj,Qk,Ql,Qm,Qn,Qo,Qp,Qq,Qr,Qs,implies_true,Qt,Qu,Qv,Qw,Qx,Qy,Qz,QA,QB,QC,QD,QE,QF,QG,QH,QI,QJ,QK,QL,QM,QN,QO,QP,QQ]
      first | done | rfl
     ·unfold partsD
      rw [q2]
      simp (config:={maxSteps:=1000000}) (disch:=((try simp only [awL]);omega)) only [QR,QS,QT,QU,QV,QW,QX,QY,QZ,Q0,Q1,Q2,↓awU,awV,awF,Qa,Qb,Qc,Qd,forall_const,↓reduceIte,↓reduceDIte,↓Qe,Qf,Qg,Qh,Qi,Qj,Qk,Ql,Qm,Qn,Qo,Qp,Qq,Qr,Qs,implies_true,Qt,Qu,Qv,Qw,Qx,Qy,Qz,QA,QB,QC,QD,QE,QF,QG,QH,QI,QJ,QK,QL,QM,QN,QO,QP,QQ]
      first | done | rfl
    ·obtain ⟨x1,x2,x3⟩:=q4
     unfold partsD
     rw [x1,x2,x3]
     simp (config:={maxSteps:=1000000}) (disch:=((try simp only [awL]);omega)) only [QR,QS,QT,QU,QV,QW,QX,QY,QZ,Q0,Q1,Q2,List.take_length,↓awU,awV,awF,Qa,Qb,Qc,Qd,forall_const,↓reduceIte,↓reduceDIte,↓Qe,Qf,Qg,Qh,Qi,Qj,Qk,Ql,Qm,Qn,Qo,Qp,Qq,Qr,Qs,implies_true,Qt,Qu,Qv,Qw,Qx,Qy,Qz,QA,QB,QC,QD,QE,QF,QG,QH,QI,QJ,QK,QL,QM,QN,QO,QP,QQ]
     first | done | rfl
 ·simp (config:={maxSteps:=1000000}) (disch:=((try simp only [awL]);omega)) only [QR,QS,QT,QU,QV,QW,QX,QY,QZ,Q0,Q1,Q2,Tryz.f89,↓awU,awV,awF,Qa,Qb,Qc,Qd,forall_const,↓reduceIte,↓reduceDIte,↓Qe,Qf,Qg,Qh,Qi,Qj,Qk,Ql,Qm,Qn,Qo,Qp,Qq,Qr,Qs,implies_true,Qt,Qu,Qv,Qw,Qx,Qy,Qz,QA,QB,QC,QD,QE,QF,QG,QH,QI,QJ,QK,QL,QM,QN,QO,QP,QQ]
  refine ⟨by rfl,?_⟩
  rw [c2] at hb
  generalize hB:List.drop 1 s=b at *
  rw [c2,c3]
  refine LoopC.fr 4642343326489650161095016453 (α:=Nat) (fun k=>b.length - k) (fun k=>[(6,.d (.int .i64 k))]) (fun _=>[]) (fun k=>k≤b.length∧∀ c∈b.take k,isD c) 0 ⟨Nat.zero_le _,by simp⟩ ?_ ?_
  ·exact ⟨[],rfl,by simp,by simp [setsA,keepA,SWeak,AWeak],by simp [HWeak,BWeak,SWeak,AWeak]⟩
  ·rintro k ⟨hk,hd⟩
   simp only [awK,Nat.reduceMod,Nat.reduceDiv,reduceIte]
   have fin:(k<b.length→¬ isD (b.getD k 0))→∀ K:Prop,((k<1∨15<k→okB b=false→K)∧(1≤k→k≤15→k=b.length→okB b=true∧cutL 46 b=b∧cutR 46 b=[]→K)∧(1≤k→k≤15→k<b.length→(b.getD k 0).toNat≠46→okB b=false→K) ∧
     (1≤k→k≤15→k<b.length→(b.getD k 0).toNat=46→okB b=digB (b.drop (k+1)) 9→cutL 46 b=b.take k→cutR 46 b=b.drop (k+1)→K))→K:=by
    rintro hn K ⟨k1,k2,k3,k4⟩
    by_cases q:k<1∨15<k
    ·exact k1 q (ok_front hk hd hn q)
    ·rcases Nat.lt_or_ge k b.length with hl | hl
     ·by_cases h46:b.getD k 0=46
      ·obtain ⟨x1,x2,x3⟩:=ok_point hd hl h46 (by omega) (by omega)
       exact k4 (by omega) (by omega) hl (by rw [h46];rfl) x1 x2 x3
      ·exact k3 (by omega) (by omega) hl (fun e=>h46 (UInt8.toNat_inj.1 e)) (ok_bad hd hl (hn hl) h46)
     ·obtain rfl:k=b.length:=by omega
      rw [List.take_length] at hd
      exact k2 (by omega) (by omega) rfl (ok_whole hd (by omega) (by omega))
   rcases Nat.lt_or_ge k b.length with hl | hl
   ·by_cases hg:isD (b.getD k 0)
    ·have hg1:=hg.1
     have hg2:=hg.2
     simp (config:={maxSteps:=1000000}) (disch:=((try simp only [awL]);omega)) only [QR,QS,QT,QU,QV,QW,QX,QY,QZ,Q0,Q1,Q2,↓awU,awV,awF,Qa,Qb,Qc,Qd,forall_const,↓reduceIte,↓reduceDIte,↓Qe,Qf,Qg,Qh,Qi,Qj,Qk,Ql,Qm,Qn,Qo,Qp,Qq,Qr,Qs,implies_true,Qt,Qu,Qv,Qw,Qx,Qy,Qz,QA,QB,QC,QD,QE,QF,QG,QH,QI,QJ,QK,QL,QM,QN,QO,QP,QQ]
     exact ⟨k+1,⟨hl,take_next hd hl hg⟩,by simp only;omega,⟨[],rfl,by simp,by simp [setsA,keepA,SWeak,AWeak],by simp [HWeak,BWeak,SWeak,AWeak]⟩⟩
    ·have hg':(b.getD k 0).toNat<48∨57<(b.getD k 0).toNat:=by unfold isD at hg;omega
     rcases hg' with hg' | hg'
     ·refine fin (fun _=>hg) _ ⟨fun q1 q2=>?_,fun q1 q2 q3=>by omega,fun q1 q2 q3 q4 q5=>?_,fun q1 q2 q3 q4 q5 q6 q7=>?_⟩
      ·rcases q1 with q1 | q1
       ·unfold partsD
        rw [q2]
        simp (config:={maxSteps:=1000000}) (disch:=((try simp only [awL]);omega)) only [QR,QS,QT,QU,QV,QW,QX,QY,QZ,Q0,Q1,Q2,↓awU,awV,awF,Qa,Qb,Qc,Qd,forall_const,↓reduceIte,↓reduceDIte,↓Qe,Qf,Qg,Qh,Qi,Qj,Qk,Ql,Qm,Qn,Qo,Qp,Qq,Qr,Qs,implies_true,Qt,Qu,Qv,Qw,Qx,Qy,Qz,QA,QB,QC,QD,QE,QF,QG,QH,QI,QJ,QK,QL,QM,QN,QO,QP,QQ]
        first | done | rfl
       ·unfold partsD
        rw [q2]
        simp (config:={maxSteps:=1000000}) (disch:=((try simp only [awL]);omega)) only [QR,QS,QT,QU,QV,QW,QX,QY,QZ,Q0,Q1,Q2,↓awU,awV,awF,Qa,Qb,Qc,Qd,forall_const,↓reduceIte,↓reduceDIte,↓Qe,Qf,Qg,Qh,Qi,Qj,Qk,Ql,Qm,Qn,Qo,Qp,Qq,Qr,Qs,implies_true,Qt,Qu,Qv,Qw,Qx,Qy,Qz,QA,QB,QC,QD,QE,QF,QG,QH,QI,QJ,QK,QL,QM,QN,QO,QP,QQ]
        first | done | rfl
      ·unfold partsD
       rw [q5]
       simp (config:={maxSteps:=1000000}) (disch:=((try simp only [awL]);omega)) only [QR,QS,QT,QU,QV,QW,QX,QY,QZ,Q0,Q1,Q2,↓awU,awV,awF,Qa,Qb,Qc,Qd,forall_const,↓reduceIte,↓reduceDIte,↓Qe,Qf,Qg,Qh,Qi,Qj,Qk,Ql,Qm,Qn,Qo,Qp,Qq,Qr,Qs,implies_true,Qt,Qu,Qv,Qw,Qx,Qy,Qz,QA,QB,QC,QD,QE,QF,QG,QH,QI,QJ,QK,QL,QM,QN,QO,QP,QQ]
       first | done | rfl
      ·skip
       have hp3:(b.drop (k+1)).length=b.length - (k+1):=List.length_drop ..
       have hlk:(b.take k).length=k:=by rw [List.length_take];omega
       unfold partsD
       rw [q5,q6,q7]
       generalize hP:b.drop (k+1)=p at *
       by_cases hp1:p.length<1
       ·have e0:digB p 9=false:=by
         cases e:digB p 9 with
         | false=>rfl
         | true=>have:=(digB_iff.1 e).1;omega
        rw [e0]
        simp (config:={maxSteps:=1000000}) (disch:=((try simp only [awL]);omega)) only [QR,QS,QT,QU,QV,QW,QX,QY,QZ,Q0,Q1,Q2,hP,↓awU,awV,awF,Qa,Qb,Qc,Qd,forall_const,↓reduceIte,↓reduceDIte,↓Qe,Qf,Qg,Qh,Qi,Qj,Qk,Ql,Qm,Qn,Qo,Qp,Qq,Qr,Qs,implies_true,Qt,Qu,Qv,Qw,Qx,Qy,Qz,QA,QB,QC,QD,QE,QF,QG,QH,QI,QJ,QK,QL,QM,QN,QO,QP,QQ]
        first | done | rfl
       ·by_cases hp2:9<p.length
        ·have e0:digB p 9=false:=by
          cases e:digB p 9 with
          | false=>rfl
          | true=>have:=(digB_iff.1 e).2.1;omega
         rw [e0]
         simp (config:={maxSteps:=1000000}) (disch:=((try simp only [awL]);omega)) only [QR,QS,QT,QU,QV,QW,QX,QY,QZ,Q0,Q1,Q2,hP,↓awU,awV,awF,Qa,Qb,Qc,Qd,forall_const,↓reduceIte,↓reduceDIte,↓Qe,Qf,Qg,Qh,Qi,Qj,Qk,Ql,Qm,Qn,Qo,Qp,Qq,Qr,Qs,implies_true,Qt,Qu,Qv,Qw,Qx,Qy,Qz,QA,QB,QC,QD,QE,QF,QG,QH,QI,QJ,QK,QL,QM,QN,QO,QP,QQ]
         first | done | rfl
        ·simp (config:={maxSteps:=1000000}) (disch:=((try simp only [awL]);omega)) only [QR,QS,QT,QU,QV,QW,QX,QY,QZ,Q0,Q1,Q2,hP,↓awU,awV,awF,Qa,Qb,Qc,Qd,forall_const,↓reduceIte,↓reduceDIte,↓Qe,Qf,Qg,Qh,Qi,Qj,Qk,Ql,Qm,Qn,Qo,Qp,Qq,Qr,Qs,implies_true,Qt,Qu,Qv,Qw,Qx,Qy,Qz,QA,QB,QC,QD,QE,QF,QG,QH,QI,QJ,QK,QL,QM,QN,QO,QP,QQ]
         refine LoopC.fr 0 (α:=Nat) (fun i=>p.length - i) (fun i=>[(2,.d (.bool false)),(3,.d (S (b.take k))),(4,.d (S p)),(7,.d (.int .i64 i))]) (fun _=>[]) (fun i=>i≤p.length∧∀ c∈p.take i,isD c) 0 ⟨Nat.zero_le _,by simp⟩ ?_ ?_
         ·exact ⟨[],rfl,by simp,by simp [setsA,keepA,SWeak,AWeak],by simp [HWeak,BWeak,SWeak,AWeak]⟩
         ·rintro i ⟨hi,hdi⟩
          simp only [awK,Nat.reduceMod,Nat.reduceDiv,reduceIte]
          rcases Nat.lt_or_ge i p.length with hil | hil
          ·by_cases hgi:isD (p.getD i 0)
           ·have hg1:=hgi.1
            have hg2:=hgi.2
            simp (config:={maxSteps:=1000000}) (disch:=((try simp only [awL]);omega)) only [QR,QS,QT,QU,QV,QW,QX,QY,QZ,Q0,Q1,Q2,↓awU,awV,awF,Qa,Qb,Qc,Qd,forall_const,↓reduceIte,↓reduceDIte,↓Qe,Qf,Qg,Qh,Qi,Qj,Qk,Ql,Qm,Qn,Qo,Qp,Qq,Qr,Qs,implies_true,Qt,Qu,Qv,Qw,Qx,Qy,Qz,QA,QB,QC,QD,QE,QF,QG,QH,QI,QJ,QK,QL,QM,QN,QO,QP,QQ]
            exact ⟨i+1,⟨hil,take_next hdi hil hgi⟩,by simp only;omega,⟨[],rfl,by simp,by simp [setsA,keepA,SWeak,AWeak],by simp [HWeak,BWeak,SWeak,AWeak]⟩⟩
           ·have e0:digB p 9=false:=by
             cases e:digB p 9 with
             | false=>rfl
             | true=>exact absurd ((digB_iff.1 e).2.2 _ (mem_getDU hil)) hgi
            have hg':(p.getD i 0).toNat<48∨57<(p.getD i 0).toNat:=by unfold isD at hgi;omega
            rw [e0]
            rcases hg' with hg' | hg'
            ·simp (config:={maxSteps:=1000000}) (disch:=((try simp only [awL]);omega)) only [QR,QS,QT,QU,QV,QW,QX,QY,QZ,Q0,Q1,Q2,↓awU,awV,awF,Qa,Qb,Qc,Qd,forall_const,↓reduceIte,↓reduceDIte,↓Qe,Qf,Qg,Qh,Qi,Qj,Qk,Ql,Qm,Qn,Qo,Qp,Qq,Qr,Qs,implies_true,Qt,Qu,Qv,Qw,Qx,Qy,Qz,QA,QB,QC,QD,QE,QF,QG,QH,QI,QJ,QK,QL,QM,QN,QO,QP,QQ]
             first | done | rfl
            ·simp (config:={maxSteps:=1000000}) (disch:=((try simp only [awL]);omega)) only [QR,QS,QT,QU,QV,QW,QX,QY,QZ,Q0,Q1,Q2,↓awU,awV,awF,Qa,Qb,Qc,Qd,forall_const,↓reduceIte,↓reduceDIte,↓Qe,Qf,Qg,Qh,Qi,Qj,Qk,Ql,Qm,Qn,Qo,Qp,Qq,Qr,Qs,implies_true,Qt,Qu,Qv,Qw,Qx,Qy,Qz,QA,QB,QC,QD,QE,QF,QG,QH,QI,QJ,QK,QL,QM,QN,QO,QP,QQ]
             first | done | rfl
          ·obtain rfl:i=p.length:=by omega
           rw [List.take_length] at hdi
           have e0:digB p 9=true:=digB_iff.2 ⟨by omega,by omega,hdi⟩
           rw [e0]
           simp (config:={maxSteps:=1000000}) (disch:=((try simp only [awL]);omega)) only [QR,QS,QT,QU,QV,QW,QX,QY,QZ,Q0,Q1,Q2,↓awU,awV,awF,Qa,Qb,Qc,Qd,forall_const,↓reduceIte,↓reduceDIte,↓Qe,Qf,Qg,Qh,Qi,Qj,Qk,Ql,Qm,Qn,Qo,Qp,Qq,Qr,Qs,implies_true,Qt,Qu,Qv,Qw,Qx,Qy,Qz,QA,QB,QC,QD,QE,QF,QG,QH,QI,QJ,QK,QL,QM,QN,QO,QP,QQ]
           first | done | rfl
     ·refine fin (fun _=>hg) _ ⟨fun q1 q2=>?_,fun q1 q2 q3=>by omega,fun q1 q2 q3 q4 q5=>?_,fun q1 q2 q3 q4 q5 q6 q7=>?_⟩
      ·rcases q1 with q1 | q1
       ·unfold partsD
        rw [q2]
        simp (config:={maxSteps:=1000000}) (disch:=((try simp only [awL]);omega)) only [QR,QS,QT,QU,QV,QW,QX,QY,QZ,Q0,Q1,Q2,↓awU,awV,awF,Qa,Qb,Qc,Qd,forall_const,↓reduceIte,↓reduceDIte,↓Qe,Qf,Qg,Qh,Qi,Qj,Qk,Ql,Qm,Qn,Qo,Qp,Qq,Qr,Qs,implies_true,Qt,Qu,Qv,Qw,Qx,Qy,Qz,QA,QB,QC,QD,QE,QF,QG,QH,QI,QJ,QK,QL,QM,QN,QO,QP,QQ]
        first | done | rfl
       ·unfold partsD
        rw [q2]
        simp (config:={maxSteps:=1000000}) (disch:=((try simp only [awL]);omega)) only [QR,QS,QT,QU,QV,QW,QX,QY,QZ,Q0,Q1,Q2,↓awU,awV,awF,Qa,Qb,Qc,Qd,forall_const,↓reduceIte,↓reduceDIte,↓Qe,Qf,Qg,Qh,Qi,Qj,Qk,Ql,Qm,Qn,Qo,Qp,Qq,Qr,Qs,implies_true,Qt,Qu,Qv,Qw,Qx,Qy,Qz,QA,QB,QC,QD,QE,QF,QG,QH,QI,QJ,QK,QL,QM,QN,QO,QP,QQ]
        first | done | rfl
      ·unfold partsD
       rw [q5]
       simp (config:={maxSteps:=1000000}) (disch:=((try simp only [awL]);omega)) only [QR,QS,QT,QU,QV,QW,QX,QY,QZ,Q0,Q1,Q2,↓awU,awV,awF,Qa,Qb,Qc,Qd,forall_const,↓reduceIte,↓reduceDIte,↓Qe,Qf,Qg,Qh,Qi,Qj,Qk,Ql,Qm,Qn,Qo,Qp,Qq,Qr,Qs,implies_true,Qt,Qu,Qv,Qw,Qx,Qy,Qz,QA,QB,QC,QD,QE,QF,QG,QH,QI,QJ,QK,QL,QM,QN,QO,QP,QQ]
       first | done | rfl
      ·omega
   ·obtain rfl:k=b.length:=by omega
    refine fin (fun h=>absurd h (Nat.lt_irrefl _)) _ ⟨fun q1 q2=>?_,fun q1 q2 q3 q4=>?_,fun q1 q2 q3=>by omega,fun q1 q2 q3=>by omega⟩
    ·rcases q1 with q1 | q1
     ·unfold partsD
      rw [q2]
      simp (config:={maxSteps:=1000000}) (disch:=((try simp only [awL]);omega)) only [QR,QS,QT,QU,QV,QW,QX,QY,QZ,Q0,Q1,Q2,↓awU,awV,awF,Qa,Qb,Qc,Qd,forall_const,↓reduceIte,↓reduceDIte,↓Qe,Qf,Qg,Qh,Qi,Qj,Qk,Ql,Qm,Qn,Qo,Qp,Qq,Qr,Qs,implies_true,Qt,Qu,Qv,Qw,Qx,Qy,Qz,QA,QB,QC,QD,QE,QF,QG,QH,QI,QJ,QK,QL,QM,QN,QO,QP,QQ]
      first | done | rfl
     ·unfold partsD
      rw [q2]
      simp (config:={maxSteps:=1000000}) (disch:=((try simp only [awL]);omega)) only [QR,QS,QT,QU,QV,QW,QX,QY,QZ,Q0,Q1,Q2,↓awU,awV,awF,Qa,Qb,Qc,Qd,forall_const,↓reduceIte,↓reduceDIte,↓Qe,Qf,Qg,Qh,Qi,Qj,Qk,Ql,Qm,Qn,Qo,Qp,Qq,Qr,Qs,implies_true,Qt,Qu,Qv,Qw,Qx,Qy,Qz,QA,QB,QC,QD,QE,QF,QG,QH,QI,QJ,QK,QL,QM,QN,QO,QP,QQ]
      first | done | rfl
    ·obtain ⟨x1,x2,x3⟩:=q4
     unfold partsD
     rw [x1,x2,x3]
     simp (config:={maxSteps:=1000000}) (disch:=((try simp only [awL]);omega)) only [QR,QS,QT,QU,QV,QW,QX,QY,QZ,Q0,Q1,Q2,List.take_length,↓awU,awV,awF,Qa,Qb,Qc,Qd,forall_const,↓reduceIte,↓reduceDIte,↓Qe,Qf,Qg,Qh,Qi,Qj,Qk,Ql,Qm,Qn,Qo,Qp,Qq,Qr,Qs,implies_true,Qt,Qu,Qv,Qw,Qx,Qy,Qz,QA,QB,QC,QD,QE,QF,QG,QH,QI,QJ,QK,QL,QM,QN,QO,QP,QQ]
     first | done | rfl
 ·simp (config:={maxSteps:=1000000}) (disch:=((try simp only [awL]);omega)) only [QR,QS,QT,QU,QV,QW,QX,QY,QZ,Q0,Q1,Q2,Tryz.f89,↓awU,awV,awF,Qa,Qb,Qc,Qd,forall_const,↓reduceIte,↓reduceDIte,↓Qe,Qf,Qg,Qh,Qi,Qj,Qk,Ql,Qm,Qn,Qo,Qp,Qq,Qr,Qs,implies_true,Qt,Qu,Qv,Qw,Qx,Qy,Qz,QA,QB,QC,QD,QE,QF,QG,QH,QI,QJ,QK,QL,QM,QN,QO,QP,QQ]
  rw [c2,c3]
  refine LoopC.fr 4642343326489650161095016453 (α:=Nat) (fun k=>s.length - k) (fun k=>[(6,.d (.int .i64 k))]) (fun _=>[]) (fun k=>k≤s.length∧∀ c∈s.take k,isD c) 0 ⟨Nat.zero_le _,by simp⟩ ?_ ?_
  ·exact ⟨[],rfl,by simp,by simp [setsA,keepA,SWeak,AWeak],by simp [HWeak,BWeak,SWeak,AWeak]⟩
  ·rintro k ⟨hk,hd⟩
   simp only [awK,Nat.reduceMod,Nat.reduceDiv,reduceIte]
   have fin:(k<s.length→¬ isD (s.getD k 0))→∀ K:Prop,((k<1∨15<k→okB s=false→K)∧(1≤k→k≤15→k=s.length→okB s=true∧cutL 46 s=s∧cutR 46 s=[]→K)∧(1≤k→k≤15→k<s.length→(s.getD k 0).toNat≠46→okB s=false→K) ∧
     (1≤k→k≤15→k<s.length→(s.getD k 0).toNat=46→okB s=digB (s.drop (k+1)) 9→cutL 46 s=s.take k→cutR 46 s=s.drop (k+1)→K))→K:=by
    rintro hn K ⟨k1,k2,k3,k4⟩
    by_cases q:k<1∨15<k
    ·exact k1 q (ok_front hk hd hn q)
    ·rcases Nat.lt_or_ge k s.length with hl | hl
     ·by_cases h46:s.getD k 0=46
      ·obtain ⟨x1,x2,x3⟩:=ok_point hd hl h46 (by omega) (by omega)
       exact k4 (by omega) (by omega) hl (by rw [h46];rfl) x1 x2 x3
      ·exact k3 (by omega) (by omega) hl (fun e=>h46 (UInt8.toNat_inj.1 e)) (ok_bad hd hl (hn hl) h46)
     ·obtain rfl:k=s.length:=by omega
      rw [List.take_length] at hd
      exact k2 (by omega) (by omega) rfl (ok_whole hd (by omega) (by omega))
   rcases Nat.lt_or_ge k s.length with hl | hl
   ·by_cases hg:isD (s.getD k 0)
    ·have hg1:=hg.1
     have hg2:=hg.2
     simp (config:={maxSteps:=1000000}) (disch:=((try simp only [awL]);omega)) only [QR,QS,QT,QU,QV,QW,QX,QY,QZ,Q0,Q1,Q2,↓awU,awV,awF,Qa,Qb,Qc,Qd,forall_const,↓reduceIte,↓reduceDIte,↓Qe,Qf,Qg,Qh,Qi,Qj,Qk,Ql,Qm,Qn,Qo,Qp,Qq,Qr,Qs,implies_true,Qt,Qu,Qv,Qw,Qx,Qy,Qz,QA,QB,QC,QD,QE,QF,QG,QH,QI,QJ,QK,QL,QM,QN,QO,QP,QQ]
     exact ⟨k+1,⟨hl,take_next hd hl hg⟩,by simp only;omega,⟨[],rfl,by simp,by simp [setsA,keepA,SWeak,AWeak],by simp [HWeak,BWeak,SWeak,AWeak]⟩⟩
    ·have hg':(s.getD k 0).toNat<48∨57<(s.getD k 0).toNat:=by unfold isD at hg;omega
     rcases hg' with hg' | hg'
     ·refine fin (fun _=>hg) _ ⟨fun q1 q2=>?_,fun q1 q2 q3=>by omega,fun q1 q2 q3 q4 q5=>?_,fun q1 q2 q3 q4 q5 q6 q7=>?_⟩
      ·rcases q1 with q1 | q1
       ·unfold partsD
        rw [q2]
        simp (config:={maxSteps:=1000000}) (disch:=((try simp only [awL]);omega)) only [QR,QS,QT,QU,QV,QW,QX,QY,QZ,Q0,Q1,Q2,↓awU,awV,awF,Qa,Qb,Qc,Qd,forall_const,↓reduceIte,↓reduceDIte,↓Qe,Qf,Qg,Qh,Qi,Qj,Qk,Ql,Qm,Qn,Qo,Qp,Qq,Qr,Qs,implies_true,Qt,Qu,Qv,Qw,Qx,Qy,Qz,QA,QB,QC,QD,QE,QF,QG,QH,QI,QJ,QK,QL,QM,QN,QO,QP,QQ]
        first | done | rfl
       ·unfold partsD
        rw [q2]
        simp (config:={maxSteps:=1000000}) (disch:=((try simp only [awL]);omega)) only [QR,QS,QT,QU,QV,QW,QX,QY,QZ,Q0,Q1,Q2,↓awU,awV,awF,Qa,Qb,Qc,Qd,forall_const,↓reduceIte,↓reduceDIte,↓Qe,Qf,Qg,Qh,Qi,Qj,Qk,Ql,Qm,Qn,Qo,Qp,Qq,Qr,Qs,implies_true,Qt,Qu,Qv,Qw,Qx,Qy,Qz,QA,QB,QC,QD,QE,QF,QG,QH,QI,QJ,QK,QL,QM,QN,QO,QP,QQ]
        first | done | rfl
      ·unfold partsD
       rw [q5]
       simp (config:={maxSteps:=1000000}) (disch:=((try simp only [awL]);omega)) only [QR,QS,QT,QU,QV,QW,QX,QY,QZ,Q0,Q1,Q2,↓awU,awV,awF,Qa,Qb,Qc,Qd,forall_const,↓reduceIte,↓reduceDIte,↓Qe,Qf,Qg,Qh,Qi,Qj,Qk,Ql,Qm,Qn,Qo,Qp,Qq,Qr,Qs,implies_true,Qt,Qu,Qv,Qw,Qx,Qy,Qz,QA,QB,QC,QD,QE,QF,QG,QH,QI,QJ,QK,QL,QM,QN,QO,QP,QQ]
       first | done | rfl
      ·skip
       have hp3:(s.drop (k+1)).length=s.length - (k+1):=List.length_drop ..
       have hlk:(s.take k).length=k:=by rw [List.length_take];omega
       unfold partsD
       rw [q5,q6,q7]
       generalize hP:s.drop (k+1)=p at *
       by_cases hp1:p.length<1
       ·have e0:digB p 9=false:=by
         cases e:digB p 9 with
         | false=>rfl
         | true=>have:=(digB_iff.1 e).1;omega
        rw [e0]
        simp (config:={maxSteps:=1000000}) (disch:=((try simp only [awL]);omega)) only [QR,QS,QT,QU,QV,QW,QX,QY,QZ,Q0,Q1,Q2,hP,↓awU,awV,awF,Qa,Qb,Qc,Qd,forall_const,↓reduceIte,↓reduceDIte,↓Qe,Qf,Qg,Qh,Qi,Qj,Qk,Ql,Qm,Qn,Qo,Qp,Qq,Qr,Qs,implies_true,Qt,Qu,Qv,Qw,Qx,Qy,Qz,QA,QB,QC,QD,QE,QF,QG,QH,QI,QJ,QK,QL,QM,QN,QO,QP,QQ]
        first | done | rfl
       ·by_cases hp2:9<p.length
        ·have e0:digB p 9=false:=by
          cases e:digB p 9 with
          | false=>rfl
          | true=>have:=(digB_iff.1 e).2.1;omega
         rw [e0]
         simp (config:={maxSteps:=1000000}) (disch:=((try simp only [awL]);omega)) only [QR,QS,QT,QU,QV,QW,QX,QY,QZ,Q0,Q1,Q2,hP,↓awU,awV,awF,Qa,Qb,Qc,Qd,forall_const,↓reduceIte,↓reduceDIte,↓Qe,Qf,Qg,Qh,Qi,Qj,Qk,Ql,Qm,Qn,Qo,Qp,Qq,Qr,Qs,implies_true,Qt,Qu,Qv,Qw,Qx,Qy,Qz,QA,QB,QC,QD,QE,QF,QG,QH,QI,QJ,QK,QL,QM,QN,QO,QP,QQ]
         first | done | rfl
        ·simp (config:={maxSteps:=1000000}) (disch:=((try simp only [awL]);omega)) only [QR,QS,QT,QU,QV,QW,QX,QY,QZ,Q0,Q1,Q2,hP,↓awU,awV,awF,Qa,Qb,Qc,Qd,forall_const,↓reduceIte,↓reduceDIte,↓Qe,Qf,Qg,Qh,Qi,Qj,Qk,Ql,Qm,Qn,Qo,Qp,Qq,Qr,Qs,implies_true,Qt,Qu,Qv,Qw,Qx,Qy,Qz,QA,QB,QC,QD,QE,QF,QG,QH,QI,QJ,QK,QL,QM,QN,QO,QP,QQ]
         refine LoopC.fr 0 (α:=Nat) (fun i=>p.length - i) (fun i=>[(2,.d (.bool false)),(3,.d (S (s.take k))),(4,.d (S p)),(7,.d (.int .i64 i))]) (fun _=>[]) (fun i=>i≤p.length∧∀ c∈p.take i,isD c) 0 ⟨Nat.zero_le _,by simp⟩ ?_ ?_
         ·exact ⟨[],rfl,by simp,by simp [setsA,keepA,SWeak,AWeak],by simp [HWeak,BWeak,SWeak,AWeak]⟩
         ·rintro i ⟨hi,hdi⟩
          simp only [awK,Nat.reduceMod,Nat.reduceDiv,reduceIte]
          rcases Nat.lt_or_ge i p.length with hil | hil
          ·by_cases hgi:isD (p.getD i 0)
           ·have hg1:=hgi.1
            have hg2:=hgi.2
            simp (config:={maxSteps:=1000000}) (disch:=((try simp only [awL]);omega)) only [QR,QS,QT,QU,QV,QW,QX,QY,QZ,Q0,Q1,Q2,↓awU,awV,awF,Qa,Qb,Qc,Qd,forall_const,↓reduceIte,↓reduceDIte,↓Qe,Qf,Qg,Qh,Qi,Qj,Qk,Ql,Qm,Qn,Qo,Qp,Qq,Qr,Qs,implies_true,Qt,Qu,Qv,Qw,Qx,Qy,Qz,QA,QB,QC,QD,QE,QF,QG,QH,QI,QJ,QK,QL,QM,QN,QO,QP,QQ]
            exact ⟨i+1,⟨hil,take_next hdi hil hgi⟩,by simp only;omega,⟨[],rfl,by simp,by simp [setsA,keepA,SWeak,AWeak],by simp [HWeak,BWeak,SWeak,AWeak]⟩⟩
           ·have e0:digB p 9=false:=by
             cases e:digB p 9 with
             | false=>rfl
             | true=>exact absurd ((digB_iff.1 e).2.2 _ (mem_getDU hil)) hgi
            have hg':(p.getD i 0).toNat<48∨57<(p.getD i 0).toNat:=by unfold isD at hgi;omega
            rw [e0]
            rcases hg' with hg' | hg'
            ·simp (config:={maxSteps:=1000000}) (disch:=((try simp only [awL]);omega)) only [QR,QS,QT,QU,QV,QW,QX,QY,QZ,Q0,Q1,Q2,↓awU,awV,awF,Qa,Qb,Qc,Qd,forall_const,↓reduceIte,↓reduceDIte,↓Qe,Qf,Qg,Qh,Qi,Qj,Qk,Ql,Qm,Qn,Qo,Qp,Qq,Qr,Qs,implies_true,Qt,Qu,Qv,Qw,Qx,Qy,Qz,QA,QB,QC,QD,QE,QF,QG,QH,QI,QJ,QK,QL,QM,QN,QO,QP,QQ]
             first | done | rfl
            ·simp (config:={maxSteps:=1000000}) (disch:=((try simp only [awL]);omega)) only [QR,QS,QT,QU,QV,QW,QX,QY,QZ,Q0,Q1,Q2,↓awU,awV,awF,Qa,Qb,Qc,Qd,forall_const,↓reduceIte,↓reduceDIte,↓Qe,Qf,Qg,Qh,Qi,Qj,Qk,Ql,Qm,Qn,Qo,Qp,Qq,Qr,Qs,implies_true,Qt,Qu,Qv,Qw,Qx,Qy,Qz,QA,QB,QC,QD,QE,QF,QG,QH,QI,QJ,QK,QL,QM,QN,QO,QP,QQ]
             first | done | rfl
          ·obtain rfl:i=p.length:=by omega
           rw [List.take_length] at hdi
           have e0:digB p 9=true:=digB_iff.2 ⟨by omega,by omega,hdi⟩
           rw [e0]
           simp (config:={maxSteps:=1000000}) (disch:=((try simp only [awL]);omega)) only [QR,QS,QT,QU,QV,QW,QX,QY,QZ,Q0,Q1,Q2,↓awU,awV,awF,Qa,Qb,Qc,Qd,forall_const,↓reduceIte,↓reduceDIte,↓Qe,Qf,Qg,Qh,Qi,Qj,Qk,Ql,Qm,Qn,Qo,Qp,Qq,Qr,Qs,implies_true,Qt,Qu,Qv,Qw,Qx,Qy,Qz,QA,QB,QC,QD,QE,QF,QG,QH,QI,QJ,QK,QL,QM,QN,QO,QP,QQ]
           first | done | rfl
     ·refine fin (fun _=>hg) _ ⟨fun q1 q2=>?_,fun q1 q2 q3=>by omega,fun q1 q2 q3 q4 q5=>?_,fun q1 q2 q3 q4 q5 q6 q7=>?_⟩
      ·rcases q1 with q1 | q1
       ·unfold partsD
        rw [q2]
        simp (config:={maxSteps:=1000000}) (disch:=((try simp only [awL]);omega)) only [QR,QS,QT,QU,QV,QW,QX,QY,QZ,Q0,Q1,Q2,↓awU,awV,awF,Qa,Qb,Qc,Qd,forall_const,↓reduceIte,↓reduceDIte,↓Qe,Qf,Qg,Qh,Qi,Qj,Qk,Ql,Qm,Qn,Qo,Qp,Qq,Qr,Qs,implies_true,Qt,Qu,Qv,Qw,Qx,Qy,Qz,QA,QB,QC,QD,QE,QF,QG,QH,QI,QJ,QK,QL,QM,QN,QO,QP,QQ]
        first | done | rfl
       ·unfold partsD
        rw [q2]
        simp (config:={maxSteps:=1000000}) (disch:=((try simp only [awL]);omega)) only [QR,QS,QT,QU,QV,QW,QX,QY,QZ,Q0,Q1,Q2,↓awU,awV,awF,Qa,Qb,Qc,Qd,forall_const,↓reduceIte,↓reduceDIte,↓Qe,Qf,Qg,Qh,Qi,Qj,Qk,Ql,Qm,Qn,Qo,Qp,Qq,Qr,Qs,implies_true,Qt,Qu,Qv,Qw,Qx,Qy,Qz,QA,QB,QC,QD,QE,QF,QG,QH,QI,QJ,QK,QL,QM,QN,QO,QP,QQ]
        first | done | rfl
      ·unfold partsD
       rw [q5]
       simp (config:={maxSteps:=1000000}) (disch:=((try simp only [awL]);omega)) only [QR,QS,QT,QU,QV,QW,QX,QY,QZ,Q0,Q1,Q2,↓awU,awV,awF,Qa,Qb,Qc,Qd,forall_const,↓reduceIte,↓reduceDIte,↓Qe,Qf,Qg,Qh,Qi,Qj,Qk,Ql,Qm,Qn,Qo,Qp,Qq,Qr,Qs,implies_true,Qt,Qu,Qv,Qw,Qx,Qy,Qz,QA,QB,QC,QD,QE,QF,QG,QH,QI,QJ,QK,QL,QM,QN,QO,QP,QQ]
       first | done | rfl
      ·omega
   ·obtain rfl:k=s.length:=by omega
    refine fin (fun h=>absurd h (Nat.lt_irrefl _)) _ ⟨fun q1 q2=>?_,fun q1 q2 q3 q4=>?_,fun q1 q2 q3=>by omega,fun q1 q2 q3=>by omega⟩
    ·rcases q1 with q1 | q1
     ·exfalso;omega
     ·unfold partsD
      rw [q2]
      simp (config:={maxSteps:=1000000}) (disch:=((try simp only [awL]);omega)) only [QR,QS,QT,QU,QV,QW,QX,QY,QZ,Q0,Q1,Q2,↓awU,awV,awF,Qa,Qb,Qc,Qd,forall_const,↓reduceIte,↓reduceDIte,↓Qe,Qf,Qg,Qh,Qi,Qj,Qk,Ql,Qm,Qn,Qo,Qp,Qq,Qr,Qs,implies_true,Qt,Qu,Qv,Qw,Qx,Qy,Qz,QA,QB,QC,QD,QE,QF,QG,QH,QI,QJ,QK,QL,QM,QN,QO,QP,QQ]
      first | done | rfl
    ·obtain ⟨x1,x2,x3⟩:=q4
     unfold partsD
     rw [x1,x2,x3]
     simp (config:={maxSteps:=1000000}) (disch:=((try simp only [awL]);omega)) only [QR,QS,QT,QU,QV,QW,QX,QY,QZ,Q0,Q1,Q2,List.take_length,↓awU,awV,awF,Qa,Qb,Qc,Qd,forall_const,↓reduceIte,↓reduceDIte,↓Qe,Qf,Qg,Qh,Qi,Qj,Qk,Ql,Qm,Qn,Qo,Qp,Qq,Qr,Qs,implies_true,Qt,Qu,Qv,Qw,Qx,Qy,Qz,QA,QB,QC,QD,QE,QF,QG,QH,QI,QJ,QK,QL,QM,QN,QO,QP,QQ]
     first | done | rfl
end Go.Proofs.YthbnileadffpiaaGreatDoor.Num
namespace Go.Proofs.YthbnileadffpiaaGreatDoor.Num
open Go Go.Proofs Go.Abs
variable {G:Globals}
theorem rtrim_spec (l:List Nat) (hd:Dig l) (hl:l.length<2 ^ 60):Ctr Tryz.prog G 140 [.d (W l)] [] (.d (W (toW (val l)))) []:=by
 refine Ctr.pure (M:=M0) hmix Tryz.func140 rfl go140 ?_
 simp (config:={maxSteps:=1000000}) (disch:=((try simp only [awL]);omega)) only [Tryz.f140,↓awU,awV,awF,Qa,Qb,Qc,Qd,forall_const,↓reduceIte,↓reduceDIte,↓Qe,Qf,Qg,Qh,Qi,Qj,Qk,Ql,Qm,Qn,Qo,Qp,Qq,Qr,Qs,implies_true,Qt,Qu,Qv,Qw,Qx,Qy,Qz,QA,QB,QC,QD,QE,QF,QG,QH,QI,QJ,QK,QL,QM,QN,QO,QP,QQ]
 refine LoopC.fr 0 (α:=Nat) (fun k=>k) (fun k=>[(0,.d (.sl k false (nats .u32 (l.take k))))]) (fun _=>[]) (fun k=>k≤l.length∧val (l.take k)=val l) l.length ⟨Nat.le_refl _,by simp⟩ ?_ ?_
 ·exact ⟨[],rfl,by simp,by simp [setsA,keepA,SWeak,AWeak],by simp [HWeak,BWeak,SWeak,AWeak]⟩
 ·rintro k ⟨hk,hv⟩
  simp only [awK,Nat.reduceMod,Nat.reduceDiv,reduceIte]
  rcases k with _ | k
  ·simp (config:={maxSteps:=1000000}) (disch:=((try simp only [awL]);omega)) only [↓awU,awV,awF,Qa,Qb,Qc,Qd,forall_const,↓reduceIte,↓reduceDIte,↓Qe,Qf,Qg,Qh,Qi,Qj,Qk,Ql,Qm,Qn,Qo,Qp,Qq,Qr,Qs,implies_true,Qt,Qu,Qv,Qw,Qx,Qy,Qz,QA,QB,QC,QD,QE,QF,QG,QH,QI,QJ,QK,QL,QM,QN,QO,QP,QQ]
   have:toW (val l)=[]:=by rw [← hv];exact toW_zero
   rw [this];rfl
  ·have eg:(l.take (k+1)).getD k 0=l.getD k 0:=by
    rw [List.getD_eq_getElem?_getD,List.getElem?_take,if_pos (by omega),← List.getD_eq_getElem?_getD]
   have et:(l.take (k+1)).take k=l.take k:=by rw [List.take_take];congr 1;omega
   simp (config:={maxSteps:=1000000}) (disch:=((try simp only [awL]);omega)) only [eg,et,↓awU,awV,awF,Qa,Qb,Qc,Qd,forall_const,↓reduceIte,↓reduceDIte,↓Qe,Qf,Qg,Qh,Qi,Qj,Qk,Ql,Qm,Qn,Qo,Qp,Qq,Qr,Qs,implies_true,Qt,Qu,Qv,Qw,Qx,Qy,Qz,QA,QB,QC,QD,QE,QF,QG,QH,QI,QJ,QK,QL,QM,QN,QO,QP,QQ]
   refine ⟨fun h=>⟨k,⟨by omega,?_⟩,Nat.lt_succ_self _,⟨[],rfl,by simp,by simp [setsA,keepA,SWeak,AWeak],by simp [HWeak,BWeak,SWeak,AWeak]⟩⟩,fun h=>?_⟩
   ·rw [← hv,take_val l k,show l.getD k 0=0 by omega];simp
   ·have:=toW_take hd (k:=k+1) (by omega) (.inr (by simpa using h))
    rw [hv] at this
    rw [this]
    simp [W];omega
theorem rbig_spec (neg:Bool) (l:List Nat) (hd:Dig l) (hl:l.length<2 ^ 40):Ctr Tryz.prog G 115 [.d (.bool neg),.d (W l)] [] (.d (Big (if neg then -(val l:Int) else val l))) []:=by
 refine Ctr.pure (M:=M0) hmix Tryz.func115 rfl go115 ?_
 have hlt:=trim_len hd
 simp (config:={maxSteps:=1000000}) (disch:=((try simp only [awL]);omega)) only [Tryz.f115,↓awU,awV,awF,Qa,Qb,Qc,Qd,forall_const,↓reduceIte,↓reduceDIte,↓Qe,Qf,Qg,Qh,Qi,Qj,Qk,Ql,Qm,Qn,Qo,Qp,Qq,Qr,Qs,implies_true,Qt,Qu,Qv,Qw,Qx,Qy,Qz,QA,QB,QC,QD,QE,QF,QG,QH,QI,QJ,QK,QL,QM,QN,QO,QP,QQ]
 refine CallC.pure (rtrim_spec l hd (by omega)) ?_
 have:=@sz_pos (val l)
 cases neg
 ·simp (config:={maxSteps:=1000000}) (disch:=((try simp only [awL]);omega)) only [↓awU,awV,awF,Qa,Qb,Qc,Qd,forall_const,↓reduceIte,↓reduceDIte,↓Qe,Qf,Qg,Qh,Qi,Qj,Qk,Ql,Qm,Qn,Qo,Qp,Qq,Qr,Qs,implies_true,Qt,Qu,Qv,Qw,Qx,Qy,Qz,QA,QB,QC,QD,QE,QF,QG,QH,QI,QJ,QK,QL,QM,QN,QO,QP,QQ]
  simp [Big,bigL,W]
 ·simp (config:={maxSteps:=1000000}) (disch:=((try simp only [awL]);omega)) only [↓awU,awV,awF,Qa,Qb,Qc,Qd,forall_const,↓reduceIte,↓reduceDIte,↓Qe,Qf,Qg,Qh,Qi,Qj,Qk,Ql,Qm,Qn,Qo,Qp,Qq,Qr,Qs,implies_true,Qt,Qu,Qv,Qw,Qx,Qy,Qz,QA,QB,QC,QD,QE,QF,QG,QH,QI,QJ,QK,QL,QM,QN,QO,QP,QQ]
  simp [Big,bigL,W]
  omega
theorem rcmp_spec (a b:Nat) (ha:(toW a).length<2 ^ 40) (hb:(toW b).length<2 ^ 40) :
  Ctr Tryz.prog G 117 [.d (W (toW a)),.d (W (toW b))] [] (.d (.int .i64 (cmpI a b))) []:=by
 have da:=dig_toW a
 have db:=dig_toW b
 have va:=val_toW a
 have vb:=val_toW b
 have la:=@toW_len_lt a b
 have lb:=@toW_len_lt b a
 generalize toW a=l at *
 generalize toW b=m at *
 refine Ctr.pure (M:=M0) hmix Tryz.func117 rfl go117 ?_
 simp (config:={maxSteps:=1000000}) (disch:=((try simp only [awL]);omega)) only [Tryz.f117,↓awU,awV,awF,Qa,Qb,Qc,Qd,forall_const,↓reduceIte,↓reduceDIte,↓Qe,Qf,Qg,Qh,Qi,Qj,Qk,Ql,Qm,Qn,Qo,Qp,Qq,Qr,Qs,implies_true,Qt,Qu,Qv,Qw,Qx,Qy,Qz,QA,QB,QC,QD,QE,QF,QG,QH,QI,QJ,QK,QL,QM,QN,QO,QP,QQ]
 refine ⟨fun h=>⟨fun h'=>?_,fun h'=>?_⟩,fun h=>?_⟩
 ·exact (cmpI_lt (by have:=la (by omega);omega)).symm
 ·exact (cmpI_gt (by have:=lb (by omega);omega)).symm
 ·have e:l.length=m.length:=by omega
  refine LoopC.fr 3 (α:=Nat) (fun k=>k) (fun k=>[(5,.d (.int .i64 ((k:Int) - 1)))]) (fun _=>[]) (fun k=>k≤l.length∧l.drop k=m.drop k) l.length ⟨Nat.le_refl _,by rw [List.drop_length,e,List.drop_length]⟩ ?_ ?_
  ·exact ⟨[],rfl,by simp,by simp [setsA,keepA,SWeak,AWeak,e],by simp [HWeak]⟩
  ·rintro k ⟨hk,hv⟩
   simp only [awK,Nat.reduceMod,Nat.reduceDiv,reduceIte]
   rcases k with _ | k
   ·simp (config:={maxSteps:=1000000}) (disch:=((try simp only [awL]);omega)) only [↓awU,awV,awF,Qa,Qb,Qc,Qd,forall_const,↓reduceIte,↓reduceDIte,↓Qe,Qf,Qg,Qh,Qi,Qj,Qk,Ql,Qm,Qn,Qo,Qp,Qq,Qr,Qs,implies_true,Qt,Qu,Qv,Qw,Qx,Qy,Qz,QA,QB,QC,QD,QE,QF,QG,QH,QI,QJ,QK,QL,QM,QN,QO,QP,QQ]
    simp only [List.drop_zero] at hv
    rw [← va,← vb,hv]
    exact (cmpI_eq rfl).symm
   ·simp (config:={maxSteps:=1000000}) (disch:=((try simp only [awL]);omega)) only [↓awU,awV,awF,Qa,Qb,Qc,Qd,forall_const,↓reduceIte,↓reduceDIte,↓Qe,Qf,Qg,Qh,Qi,Qj,Qk,Ql,Qm,Qn,Qo,Qp,Qq,Qr,Qs,implies_true,Qt,Qu,Qv,Qw,Qx,Qy,Qz,QA,QB,QC,QD,QE,QF,QG,QH,QI,QJ,QK,QL,QM,QN,QO,QP,QQ]
    refine ⟨by rfl,fun h1=>?_,fun h1=>⟨by rfl,fun h2=>?_,fun h2=>?_⟩⟩
    ·have:=val_lt_of (k:=k) da (by omega) (by omega) hv (by omega)
     rw [← va,← vb];exact (cmpI_lt (by omega)).symm
    ·have:=val_lt_of (k:=k) db (by omega) (by omega) hv.symm (by omega)
     rw [← va,← vb];exact (cmpI_gt (by omega)).symm
    ·exact ⟨k,⟨by omega,drop_eq (by omega) (by omega) hv (by omega)⟩,Nat.lt_succ_self _,⟨[],rfl,by simp,by simp [setsA,keepA,SWeak,AWeak],by simp [HWeak,BWeak,SWeak,AWeak]⟩⟩
set_option maxHeartbeats 4000000 in
set_option maxRecDepth 100000 in
theorem rmul_spec (a b:Nat) (ha:(toW a).length<2 ^ 40) (hb:(toW b).length<2 ^ 40) :
  Ctr Tryz.prog G 119 [.d (W (toW a)),.d (W (toW b))] [] (.d (W (toW (a*b)))) []:=by
 have da:=dig_toW a
 have db:=dig_toW b
 have va:=val_toW a
 have vb:=val_toW b
 generalize toW a=l at *
 generalize toW b=m at *
 refine Ctr.pure (M:=M0) hmix Tryz.func119 rfl go119 ?_
 simp (config:={maxSteps:=1000000}) (disch:=((try simp only [awL]);omega)) only [Tryz.f119,↓awU,awV,awF,Qa,Qb,Qc,Qd,forall_const,↓reduceIte,↓reduceDIte,↓Qe,Qf,Qg,Qh,Qi,Qj,Qk,Ql,Qm,Qn,Qo,Qp,Qq,Qr,Qs,implies_true,Qt,Qu,Qv,Qw,Qx,Qy,Qz,QA,QB,QC,QD,QE,QF,QG,QH,QI,QJ,QK,QL,QM,QN,QO,QP,QQ]
 refine LoopC.fr 35 (α:=Nat × List Nat) (fun x=>l.length - x.1) (fun x=>[(6,.d (.int .i64 x.1))])
  (fun x=>[.row false (nats .u32 x.2)]) (fun x=>x.1≤l.length∧x.2.length=l.length+m.length∧Dig x.2∧val x.2=val (l.take x.1)*b∧∀ p,x.1+m.length≤p→x.2.getD p 0=0) (0,List.replicate (l.length+m.length) 0)
  ⟨by simp,by simp,Dig.zeros _,by simp [val_zeros,val],fun p _=>by simp only [List.getD_eq_getElem?_getD,List.getElem?_replicate];split<;>rfl⟩ ?_ ?_
 ·exact ⟨[some 0],rfl,by simp,by simp [setsA,keepA,SWeak,AWeak],by simp [HWeak,BWeak,SWeak,AWeak]⟩
 ·rintro ⟨i,o⟩ ⟨hi,ho,hd,hv,hz⟩
  simp only at hi ho hd hv hz
  simp only [awK,Nat.reduceMod,Nat.reduceDiv,reduceIte]
  simp (config:={maxSteps:=1000000}) (disch:=((try simp only [awL]);omega)) only [↓awU,awV,awF,Qa,Qb,Qc,Qd,forall_const,↓reduceIte,↓reduceDIte,↓Qe,Qf,Qg,Qh,Qi,Qj,Qk,Ql,Qm,Qn,Qo,Qp,Qq,Qr,Qs,implies_true,Qt,Qu,Qv,Qw,Qx,Qy,Qz,QA,QB,QC,QD,QE,QF,QG,QH,QI,QJ,QK,QL,QM,QN,QO,QP,QQ]
  refine ⟨fun h=>?_,fun h=>?_⟩
  ·refine LoopC.fr 99 (α:=Nat × List Nat × Nat) (fun x=>m.length - x.1) (fun x=>[(7,.d (.int .u64 x.2.2)),(8,.d (.int .i64 x.1))])
    (fun x=>[.row false (nats .u32 x.2.1)]) (fun x=>x.1≤m.length∧x.2.1.length=l.length+m.length∧Dig x.2.1∧x.2.2<B∧val x.2.1+B ^ (i+x.1)*x.2.2=val o+B ^ i*(l.getD i 0*val (m.take x.1))∧∀ p,i+m.length≤p→x.2.1.getD p 0=0) (0,o,0)
    ⟨by simp,ho,hd,by simp [B],by simp [val],hz⟩ ?_ ?_
   ·exact ⟨[some 0],rfl,by simp,by simp [setsA,keepA,SWeak,AWeak],by simp [HWeak,BWeak,SWeak,AWeak]⟩
   ·rintro ⟨j,q,c⟩ ⟨hj,hq,hdq,hc,hvq,hzq⟩
    simp only at hj hq hdq hc hvq hzq
    simp only [awK,Nat.reduceMod,Nat.reduceDiv,reduceIte]
    replace hv:=Hid.mk hv
    replace hvq:=Hid.mk hvq
    have p1:=mul_digit (da.getD i) (db.getD j)
    have p2:=hdq.getD (i+j)
    have p3:c<4294967296:=hc
    have p4:q.getD (i+j) 0<4294967296:=p2
    have p5:l.getD i 0<4294967296:=da.getD i
    have p6:m.getD j 0<4294967296:=db.getD j
    simp (config:={maxSteps:=1000000}) (disch:=((try simp only [awL]);omega)) only [↓awU,awV,awF,Qa,Qb,Qc,Qd,forall_const,↓reduceIte,↓reduceDIte,↓Qe,Qf,Qg,Qh,Qi,Qj,Qk,Ql,Qm,Qn,Qo,Qp,Qq,Qr,Qs,implies_true,Qt,Qu,Qv,Qw,Qx,Qy,Qz,QA,QB,QC,QD,QE,QF,QG,QH,QI,QJ,QK,QL,QM,QN,QO,QP,QQ]
    refine ⟨fun h1=>⟨by rfl,?_⟩,fun h1=>?_⟩
    ·simp only [w_u32,nats_set]
     have hsl:c+(l.getD i 0*m.getD j 0+q.getD (i+j) 0)<B*B:=by simp only [B];omega
     generalize hg:c+(l.getD i 0*m.getD j 0+q.getD (i+j) 0)=s at hsl ⊢
     refine ⟨(j+1,q.set (i+j) (s % B),s / B),⟨by simp only;omega,by simp [hq],hdq.set (Nat.mod_lt _ (by decide)),(Nat.div_lt_iff_lt_mul (by decide)).2 hsl,times_step (by omega) hg.symm hvq.out,fun p hp=>?_⟩,
      by simp only;omega,[some 0],rfl,by simp,by simp [SWeak,AWeak,B],by simp [HWeak,BWeak,w_u32,nats_set,B]⟩
     rw [getD_set_ne (by omega)];exact hzq p hp
    ·have ej:j=m.length:=by omega
     have hvq:=hvq.out
     rw [ej,List.take_of_length_le (Nat.le_refl _),vb] at hvq
     refine ⟨(i+1,q.set (i+m.length) c),⟨by simp only;omega,by simp [hq],hdq.set hc,times_row (by omega) (hzq _ (Nat.le_refl _)) hvq hv.out,fun p hp=>?_⟩,
      by simp only;omega,[some 0],rfl,by simp,by simp [SWeak,AWeak],by simp [HWeak,BWeak]⟩
     rw [getD_set_ne (by omega)];exact hzq p (by omega)
  ·have e:(D.sl (l.length+m.length) false (nats .u32 o))=W o:=by simp [W,ho]
   have ei:i=l.length:=by omega
   rw [e]
   refine CallC.frozen (rtrim_spec _ hd ?_) ?_
   ·omega
   ·rw [hv,ei,List.take_of_length_le (Nat.le_refl _),va]
    simp (config:={maxSteps:=1000000}) (disch:=((try simp only [awL]);omega)) only [↓awU,awV,awF,Qa,Qb,Qc,Qd,forall_const,↓reduceIte,↓reduceDIte,↓Qe,Qf,Qg,Qh,Qi,Qj,Qk,Ql,Qm,Qn,Qo,Qp,Qq,Qr,Qs,implies_true,Qt,Qu,Qv,Qw,Qx,Qy,Qz,QA,QB,QC,QD,QE,QF,QG,QH,QI,QJ,QK,QL,QM,QN,QO,QP,QQ]
set_option maxHeartbeats 4000000 in
set_option maxRecDepth 100000 in
theorem rfromInt_spec (n:Int) (h1:-9223372036854775808≤n) (h2:n≤9223372036854775807):Ctr Tryz.prog G 90 [.d (.int .i64 n)] [] (.d (Big n)) []:=by
 refine Ctr.pure (M:=M0) hmix Tryz.func90 rfl go90 ?_
 have hN:n.natAbs<18446744073709551616:=by omega
 have dg:Dig [n.natAbs % B,n.natAbs / B]:=by
  intro x hx
  simp only [List.mem_cons,List.not_mem_nil,or_false] at hx
  rcases hx with rfl | rfl
  ·exact Nat.mod_lt _ (by decide)
  ·simp only [B];omega
 have vv:val [n.natAbs % B,n.natAbs / B]=n.natAbs:=by simp only [val,Nat.mul_zero,Nat.add_zero];exact Nat.mod_add_div _ B
 by_cases hn:n<0
 ·have e:IntKind.u64.wrap (0 - IntKind.u64.wrap n)=((n.natAbs:Nat):Int):=by simp [IntKind.wrap,IntKind.bits,IntKind.signed];omega
  simp (config:={maxSteps:=1000000}) (disch:=((try simp only [awL]);omega)) only [Tryz.f90,e,w_u32,↓awU,awV,awF,Qa,Qb,Qc,Qd,forall_const,↓reduceIte,↓reduceDIte,↓Qe,Qf,Qg,Qh,Qi,Qj,Qk,Ql,Qm,Qn,Qo,Qp,Qq,Qr,Qs,implies_true,Qt,Qu,Qv,Qw,Qx,Qy,Qz,QA,QB,QC,QD,QE,QF,QG,QH,QI,QJ,QK,QL,QM,QN,QO,QP,QQ]
  refine CallC.frozenE (rbig_spec true [n.natAbs % B,n.natAbs / B] dg (by simp)) (by rfl) ?_
  rw [vv,if_pos rfl,show -((n.natAbs:Nat):Int)=n by omega]
  simp (config:={maxSteps:=1000000}) (disch:=((try simp only [awL]);omega)) only [↓awU,awV,awF,Qa,Qb,Qc,Qd,forall_const,↓reduceIte,↓reduceDIte,↓Qe,Qf,Qg,Qh,Qi,Qj,Qk,Ql,Qm,Qn,Qo,Qp,Qq,Qr,Qs,implies_true,Qt,Qu,Qv,Qw,Qx,Qy,Qz,QA,QB,QC,QD,QE,QF,QG,QH,QI,QJ,QK,QL,QM,QN,QO,QP,QQ]
  simp [hn]
 ·have e:IntKind.u64.wrap n=((n.natAbs:Nat):Int):=by simp [IntKind.wrap,IntKind.bits,IntKind.signed];omega
  have e2:n=((n.natAbs:Nat):Int):=by omega
  simp (config:={maxSteps:=1000000}) (disch:=((try simp only [awL]);omega)) only [Tryz.f90,e,w_u32,↓awU,awV,awF,Qa,Qb,Qc,Qd,forall_const,↓reduceIte,↓reduceDIte,↓Qe,Qf,Qg,Qh,Qi,Qj,Qk,Ql,Qm,Qn,Qo,Qp,Qq,Qr,Qs,implies_true,Qt,Qu,Qv,Qw,Qx,Qy,Qz,QA,QB,QC,QD,QE,QF,QG,QH,QI,QJ,QK,QL,QM,QN,QO,QP,QQ]
  refine CallC.frozenE (rbig_spec false [n.natAbs % B,n.natAbs / B] dg (by simp)) ?_ ?_
  ·rfl
  rw [vv,if_neg (by decide),← e2]
  simp (config:={maxSteps:=1000000}) (disch:=((try simp only [awL]);omega)) only [↓awU,awV,awF,Qa,Qb,Qc,Qd,forall_const,↓reduceIte,↓reduceDIte,↓Qe,Qf,Qg,Qh,Qi,Qj,Qk,Ql,Qm,Qn,Qo,Qp,Qq,Qr,Qs,implies_true,Qt,Qu,Qv,Qw,Qx,Qy,Qz,QA,QB,QC,QD,QE,QF,QG,QH,QI,QJ,QK,QL,QM,QN,QO,QP,QQ]
  simp [hn]
end Go.Proofs.YthbnileadffpiaaGreatDoor.Num
namespace Go.Proofs.YthbnileadffpiaaGreatDoor.Num
open Go Go.Proofs Go.Abs
variable {G:Globals}
set_option maxHeartbeats 4000000 in
set_option maxRecDepth 100000 in
theorem radd_spec (a b:Nat) (ha:(toW a).length<2 ^ 40) (hb:(toW b).length<2 ^ 40) :
  Ctr Tryz.prog G 116 [.d (W (toW a)),.d (W (toW b))] [] (.d (W (digs (max (toW a).length (toW b).length+1) (a+b)))) []:=by
 have da:=dig_toW a
 have db:=dig_toW b
 have va:=val_toW a
 have vb:=val_toW b
 generalize toW a=l at *
 generalize toW b=m at *
 refine Ctr.pure (M:=M0) hmix Tryz.func116 rfl go116 ?_
 simp (config:={maxSteps:=1000000}) (disch:=((try simp only [awL]);omega)) only [Tryz.f116,↓awU,awV,awF,Qa,Qb,Qc,Qd,forall_const,↓reduceIte,↓reduceDIte,↓Qe,Qf,Qg,Qh,Qi,Qj,Qk,Ql,Qm,Qn,Qo,Qp,Qq,Qr,Qs,implies_true,Qt,Qu,Qv,Qw,Qx,Qy,Qz,QA,QB,QC,QD,QE,QF,QG,QH,QI,QJ,QK,QL,QM,QN,QO,QP,QQ]
 refine LoopC.fr 3 (α:=Nat × List Nat × Nat) (fun x=>max l.length m.length - x.1) (fun x=>[(5,.lsl 0 1 0 x.1),(6,.d (.int .u64 x.2.2)),(7,.d (.int .i64 x.1))])
  (fun x=>[.row false (nats .u32 x.2.1)]) (fun x=>x.1≤max l.length m.length∧x.2.1.length=x.1∧Dig x.2.1∧x.2.2≤1∧val x.2.1+B ^ x.1*x.2.2=val (l.take x.1)+val (m.take x.1)) (0,[],0) ⟨by simp,rfl,by simp [Dig],by simp,by simp [val]⟩ ?_ ?_
 ·exact ⟨[none],rfl,by simp,by simp [setsA,keepA,SWeak,AWeak],by simp [HWeak,BWeak,nats]⟩
 ·rintro ⟨k,out,c⟩ ⟨hk,ho,hd,hc,hv⟩
  simp only at hk ho hd hc hv
  simp only [awK,Nat.reduceMod,Nat.reduceDiv,reduceIte]
  have p1:l.getD k 0<4294967296:=da.getD k
  have p2:m.getD k 0<4294967296:=db.getD k
  replace hv:=Hid.mk hv
  have fin:∀ s,s=l.getD k 0+m.getD k 0+c→k<max l.length m.length→k+1≤max l.length m.length∧(out++[s % B]).length=k+1∧Dig (out++[s % B])∧s / B≤1∧val (out++[s % B])+B ^ (k+1)*(s / B)=val (l.take (k+1))+val (m.take (k+1)):=fun s hs hk2 =>
   ⟨hk2,by simp [ho],hd.append (by intro x hx;simp at hx;subst hx;exact Nat.mod_lt _ (by decide)),by simp only [B];omega,ab_step ho hs hv.out⟩
  have z1:l.length≤k→l.getD k 0=0:=fun h=>by rw [List.getD_eq_getElem?_getD,List.getElem?_eq_none h];rfl
  have z2:m.length≤k→m.getD k 0=0:=fun h=>by rw [List.getD_eq_getElem?_getD,List.getElem?_eq_none h];rfl
  rcases Nat.lt_or_ge k l.length with h1 | h1<;>rcases Nat.lt_or_ge k m.length with h2 | h2
  ·simp (config:={maxSteps:=1000000}) (disch:=((try simp only [awL]);omega)) only [w_u32,↓awU,awV,awF,Qa,Qb,Qc,Qd,forall_const,↓reduceIte,↓reduceDIte,↓Qe,Qf,Qg,Qh,Qi,Qj,Qk,Ql,Qm,Qn,Qo,Qp,Qq,Qr,Qs,implies_true,Qt,Qu,Qv,Qw,Qx,Qy,Qz,QA,QB,QC,QD,QE,QF,QG,QH,QI,QJ,QK,QL,QM,QN,QO,QP,QQ]
   refine ⟨(k+1,out++[(c+l.getD k 0+m.getD k 0) % B],(c+l.getD k 0+m.getD k 0) / B),fin _ (by omega) (by omega),by simp only;omega,[some 2],rfl,by simp,by simp [SWeak,AWeak,B],by simp [HWeak,BWeak,B]⟩
  ·have:=z2 h2
   simp (config:={maxSteps:=1000000}) (disch:=((try simp only [awL]);omega)) only [w_u32,↓awU,awV,awF,Qa,Qb,Qc,Qd,forall_const,↓reduceIte,↓reduceDIte,↓Qe,Qf,Qg,Qh,Qi,Qj,Qk,Ql,Qm,Qn,Qo,Qp,Qq,Qr,Qs,implies_true,Qt,Qu,Qv,Qw,Qx,Qy,Qz,QA,QB,QC,QD,QE,QF,QG,QH,QI,QJ,QK,QL,QM,QN,QO,QP,QQ]
   refine ⟨(k+1,out++[(c+l.getD k 0) % B],(c+l.getD k 0) / B),fin _ (by omega) (by omega),by simp only;omega,[some 2],rfl,by simp,by simp [SWeak,AWeak,B],by simp [HWeak,BWeak,B]⟩
  ·have:=z1 h1
   simp (config:={maxSteps:=1000000}) (disch:=((try simp only [awL]);omega)) only [w_u32,↓awU,awV,awF,Qa,Qb,Qc,Qd,forall_const,↓reduceIte,↓reduceDIte,↓Qe,Qf,Qg,Qh,Qi,Qj,Qk,Ql,Qm,Qn,Qo,Qp,Qq,Qr,Qs,implies_true,Qt,Qu,Qv,Qw,Qx,Qy,Qz,QA,QB,QC,QD,QE,QF,QG,QH,QI,QJ,QK,QL,QM,QN,QO,QP,QQ]
   refine ⟨(k+1,out++[(c+m.getD k 0) % B],(c+m.getD k 0) / B),fin _ (by omega) (by omega),by simp only;omega,[some 2],rfl,by simp,by simp [SWeak,AWeak,B],by simp [HWeak,BWeak,B]⟩
  ·simp (config:={maxSteps:=1000000}) (disch:=((try simp only [awL]);omega)) only [w_u32,↓awU,awV,awF,Qa,Qb,Qc,Qd,forall_const,↓reduceIte,↓reduceDIte,↓Qe,Qf,Qg,Qh,Qi,Qj,Qk,Ql,Qm,Qn,Qo,Qp,Qq,Qr,Qs,implies_true,Qt,Qu,Qv,Qw,Qx,Qy,Qz,QA,QB,QC,QD,QE,QF,QG,QH,QI,QJ,QK,QL,QM,QN,QO,QP,QQ]
   have hk':k=max l.length m.length:=by omega
   have hv:=hv.out
   rw [List.take_of_length_le (l:=l) (by omega),List.take_of_length_le (l:=m) (by omega),va,vb] at hv
   rw [← digs_eq (l:=out++[c]) (hd.append (by intro x hx;simp at hx;subst hx;simp only [B];omega)) (by simp;omega) (by rw [val_append,ho];simpa [val] using hv)]
   simp [W,ho]
theorem sub_w {x y b:Nat} (hx:x<4294967296) (hy:y<4294967296) (hb:b≤1):IntKind.u32.wrap (-(b:Int)+(x:Int) - (y:Int))=(((x+B - y - b) % B:Nat):Int):=by
 simp [IntKind.wrap,IntKind.bits,IntKind.signed,B];omega
theorem sub_c {x y b:Nat} (hx:x<4294967296) (hy:y<4294967296) (hb:b≤1):(-(b:Int)+(x:Int) - (y:Int)) / 4294967296=-((if x<y+b then 1 else 0:Nat):Int):=by
 split<;>omega
set_option maxHeartbeats 4000000 in
set_option maxRecDepth 100000 in
theorem rsub_spec (a b:Nat) (hab:b≤a) (ha:(toW a).length<2 ^ 40) :
  Ctr Tryz.prog G 118 [.d (W (toW a)),.d (W (toW b))] [] (.d (W (toW (a - b)))) []:=by
 have da:=dig_toW a
 have db:=dig_toW b
 have va:=val_toW a
 have vb:=val_toW b
 have hlen:=toW_len_mono hab
 generalize toW a=l at *
 generalize toW b=m at *
 refine Ctr.pure (M:=M0) hmix Tryz.func118 rfl go118 ?_
 simp (config:={maxSteps:=1000000}) (disch:=((try simp only [awL]);omega)) only [Tryz.f118,↓awU,awV,awF,Qa,Qb,Qc,Qd,forall_const,↓reduceIte,↓reduceDIte,↓Qe,Qf,Qg,Qh,Qi,Qj,Qk,Ql,Qm,Qn,Qo,Qp,Qq,Qr,Qs,implies_true,Qt,Qu,Qv,Qw,Qx,Qy,Qz,QA,QB,QC,QD,QE,QF,QG,QH,QI,QJ,QK,QL,QM,QN,QO,QP,QQ]
 refine LoopC.fr 3 (α:=Nat × List Nat × Nat) (fun x=>l.length - x.1) (fun x=>[(5,.lsl 0 1 0 x.1),(6,.d (.int .i64 (-(x.2.2:Int)))),(7,.d (.int .i64 x.1))])
  (fun x=>[.row false (nats .u32 x.2.1)]) (fun x=>x.1≤l.length∧x.2.1.length=x.1∧Dig x.2.1∧x.2.2≤1∧val x.2.1+val (m.take x.1)=val (l.take x.1)+B ^ x.1*x.2.2) (0,[],0) ⟨by simp,rfl,by simp [Dig],by simp,by simp [val]⟩ ?_ ?_
 ·exact ⟨[none],rfl,by simp,by simp [setsA,keepA,SWeak,AWeak],by simp [HWeak,BWeak,nats]⟩
 ·rintro ⟨k,out,c⟩ ⟨hk,ho,hd,hc,hv⟩
  simp only at hk ho hd hc hv
  simp only [awK,Nat.reduceMod,Nat.reduceDiv,reduceIte]
  have p1:l.getD k 0<4294967296:=da.getD k
  have p2:m.getD k 0<4294967296:=db.getD k
  have sw:=sub_w p1 p2 hc
  have sc:=sub_c p1 p2 hc
  replace hv:=Hid.mk hv
  have fin:∀ s q,s=(l.getD k 0+B - m.getD k 0 - c) % B→q=(if l.getD k 0<m.getD k 0+c then 1 else 0)→k<l.length→k+1≤l.length∧(out++[s]).length=k+1∧Dig (out++[s])∧q≤1∧val (out++[s])+val (m.take (k+1))=val (l.take (k+1))+B ^ (k+1)*q:=fun s q hs hq hk2 =>
   ⟨hk2,by simp [ho],hd.append (by intro x hx;simp at hx;subst hx;rw [hs];exact Nat.mod_lt _ (by decide)),by rw [hq];split<;>omega,minus_step ho hv.out (by rw [hs,hq];exact sub_digit (da.getD k) (db.getD k) hc)⟩
  have z2:m.length≤k→m.getD k 0=0:=fun h=>by rw [List.getD_eq_getElem?_getD,List.getElem?_eq_none h];rfl
  rcases Nat.lt_or_ge k l.length with h1 | h1
  ·rcases Nat.lt_or_ge k m.length with h2 | h2
   ·simp (config:={maxSteps:=1000000}) (disch:=((try simp only [awL]);omega)) only [sw,sc,↓awU,awV,awF,Qa,Qb,Qc,Qd,forall_const,↓reduceIte,↓reduceDIte,↓Qe,Qf,Qg,Qh,Qi,Qj,Qk,Ql,Qm,Qn,Qo,Qp,Qq,Qr,Qs,implies_true,Qt,Qu,Qv,Qw,Qx,Qy,Qz,QA,QB,QC,QD,QE,QF,QG,QH,QI,QJ,QK,QL,QM,QN,QO,QP,QQ]
    exact ⟨(k+1,out++[(l.getD k 0+B - m.getD k 0 - c) % B],if l.getD k 0<m.getD k 0+c then 1 else 0),fin _ _ rfl rfl h1,by simp only;omega,[some 2],rfl,by simp,by simp [SWeak,AWeak],by simp [HWeak,BWeak]⟩
   ·have hz:=z2 h2
    have sw2:IntKind.u32.wrap (-(c:Int)+(l.getD k 0:Int))=(((l.getD k 0+B - m.getD k 0 - c) % B:Nat):Int):=by rw [← sw,hz];congr 1;omega
    have sc2:(-(c:Int)+(l.getD k 0:Int)) / 4294967296=-((if l.getD k 0<m.getD k 0+c then 1 else 0:Nat):Int):=by rw [← sc,hz];congr 1;omega
    simp (config:={maxSteps:=1000000}) (disch:=((try simp only [awL]);omega)) only [sw2,sc2,↓awU,awV,awF,Qa,Qb,Qc,Qd,forall_const,↓reduceIte,↓reduceDIte,↓Qe,Qf,Qg,Qh,Qi,Qj,Qk,Ql,Qm,Qn,Qo,Qp,Qq,Qr,Qs,implies_true,Qt,Qu,Qv,Qw,Qx,Qy,Qz,QA,QB,QC,QD,QE,QF,QG,QH,QI,QJ,QK,QL,QM,QN,QO,QP,QQ]
    exact ⟨(k+1,out++[(l.getD k 0+B - m.getD k 0 - c) % B],if l.getD k 0<m.getD k 0+c then 1 else 0),fin _ _ rfl rfl h1,by simp only;omega,[some 2],rfl,by simp,by simp [SWeak,AWeak],by simp [HWeak,BWeak]⟩
  ·simp (config:={maxSteps:=1000000}) (disch:=((try simp only [awL]);omega)) only [↓awU,awV,awF,Qa,Qb,Qc,Qd,forall_const,↓reduceIte,↓reduceDIte,↓Qe,Qf,Qg,Qh,Qi,Qj,Qk,Ql,Qm,Qn,Qo,Qp,Qq,Qr,Qs,implies_true,Qt,Qu,Qv,Qw,Qx,Qy,Qz,QA,QB,QC,QD,QE,QF,QG,QH,QI,QJ,QK,QL,QM,QN,QO,QP,QQ]
   have ek:k=l.length:=by omega
   have hv:=hv.out
   rw [ek,List.take_of_length_le (Nat.le_refl _),List.take_of_length_le hlen,va,vb] at hv
   have h3:=val_lt hd
   rw [ho,ek] at h3
   have hv':val out=a - b:=minus_end hv h3 hab hc
   refine CallC.frozenE (rtrim_spec out hd (by omega)) (by simp [W,ho]) ?_
   rw [hv']
   simp (config:={maxSteps:=1000000}) (disch:=((try simp only [awL]);omega)) only [↓awU,awV,awF,Qa,Qb,Qc,Qd,forall_const,↓reduceIte,↓reduceDIte,↓Qe,Qf,Qg,Qh,Qi,Qj,Qk,Ql,Qm,Qn,Qo,Qp,Qq,Qr,Qs,implies_true,Qt,Qu,Qv,Qw,Qx,Qy,Qz,QA,QB,QC,QD,QE,QF,QG,QH,QI,QJ,QK,QL,QM,QN,QO,QP,QQ]
end Go.Proofs.YthbnileadffpiaaGreatDoor.Num
namespace Go.Proofs.YthbnileadffpiaaGreatDoor.Num
open Go Go.Proofs Go.Abs
variable {G:Globals}
theorem tw_step {out l:List Nat} {k c x d0:Nat} (ho:out.length=k) (hx:l.getD k 0=x) (hv:val out+B ^ k*c=2*val (l.take k)+d0) :
  val (out++[(2*x+c) % B])+B ^ (k+1)*((2*x+c) / B)=2*val (l.take (k+1))+d0:=by
 rw [val_append,ho,take_val l k,hx]
 simp only [val,Nat.mul_zero,Nat.add_zero]
 have h1:=Nat.mod_add_div (2*x+c) B
 have e1:B ^ (k+1)*((2*x+c) / B)=B ^ k*(B*((2*x+c) / B)):=by rw [Nat.pow_succ,Nat.mul_assoc]
 have e3:B ^ k*((2*x+c) % B+B*((2*x+c) / B))=B ^ k*(2*x+c):=by rw [h1]
 rw [e1]
 simp only [Nat.mul_add] at e3 ⊢
 have e4:B ^ k*(2*x)=2*(B ^ k*x):=Nat.mul_left_comm ..
 omega
theorem tw_or {x c:Nat} (hx:x<4294967296) (hc:c≤1):bitsI .or .u32 (IntKind.u32.wrap ((x:Int)*2)) (c:Int)=(((2*x+c) % B:Nat):Int):=by
 have e1:IntKind.u32.wrap ((x:Int)*2)=((x*2 ^ 1 % 4294967296:Nat):Int):=by rw [← w_u32];congr 1
 rw [e1,low_mul (by decide),bi_u32_or_nat (by omega) (by omega),Nat.or_comm,or_low (by omega)]
 simp only [B]
 omega
set_option maxHeartbeats 4000000 in
set_option maxRecDepth 100000 in
theorem twice_spec (a d:Nat) (hd1:d≤1) (ha:(toW a).length<2 ^ 40) :
  Ctr Tryz.prog G 142 [.d (W (toW a)),.d (.int .u32 d)] [] (.d (W (toW (2*a+d)))) []:=by
 have da:=dig_toW a
 have va:=val_toW a
 generalize toW a=l at *
 refine Ctr.pure (M:=M0) hmix Tryz.func142 rfl go142 ?_
 simp (config:={maxSteps:=1000000}) (disch:=((try simp only [awL]);omega)) only [Tryz.f142,↓awU,awV,awF,Qa,Qb,Qc,Qd,forall_const,↓reduceIte,↓reduceDIte,↓Qe,Qf,Qg,Qh,Qi,Qj,Qk,Ql,Qm,Qn,Qo,Qp,Qq,Qr,Qs,implies_true,Qt,Qu,Qv,Qw,Qx,Qy,Qz,QA,QB,QC,QD,QE,QF,QG,QH,QI,QJ,QK,QL,QM,QN,QO,QP,QQ]
 refine LoopC.fr 1 (α:=Nat × List Nat × Nat) (fun x=>l.length - x.1) (fun x=>[(1,.d (.int .u32 x.2.2)),(5,.lsl 0 1 0 x.1),(6,.d (.int .i64 x.1))])
  (fun x=>[.row false (nats .u32 x.2.1)]) (fun x=>x.1≤l.length∧x.2.1.length=x.1∧Dig x.2.1∧x.2.2≤1∧val x.2.1+B ^ x.1*x.2.2=2*val (l.take x.1)+d) (0,[],d) ⟨by simp,rfl,by simp [Dig],hd1,by simp [val]⟩ ?_ ?_
 ·exact ⟨[none],rfl,by simp,by simp [setsA,keepA,SWeak,AWeak],by simp [HWeak,BWeak,nats]⟩
 ·rintro ⟨k,out,c⟩ ⟨hk,ho,hd,hc,hv⟩
  simp only at hk ho hd hc hv
  simp only [awK,Nat.reduceMod,Nat.reduceDiv,reduceIte]
  have p1:l.getD k 0<4294967296:=da.getD k
  replace hv:=Hid.mk hv
  rcases Nat.lt_or_ge k l.length with h1 | h1
  ·have hor:=tw_or p1 hc
   simp (config:={maxSteps:=1000000}) (disch:=((try simp only [awL]);omega)) only [hor,↓awU,awV,awF,Qa,Qb,Qc,Qd,forall_const,↓reduceIte,↓reduceDIte,↓Qe,Qf,Qg,Qh,Qi,Qj,Qk,Ql,Qm,Qn,Qo,Qp,Qq,Qr,Qs,implies_true,Qt,Qu,Qv,Qw,Qx,Qy,Qz,QA,QB,QC,QD,QE,QF,QG,QH,QI,QJ,QK,QL,QM,QN,QO,QP,QQ]
   refine ⟨(k+1,out++[(2*l.getD k 0+c) % B],(2*l.getD k 0+c) / B),⟨by simp only;omega,by simp [ho],hd.append (by intro x hx;simp at hx;subst hx;exact Nat.mod_lt _ (by decide)),by simp only [B];omega,tw_step ho rfl hv.out⟩,by simp only;omega,[some 2],rfl,by simp,?_,by simp [HWeak,BWeak]⟩
   have e:((l.getD k 0:Nat):Int) / 2147483648=(((2*l.getD k 0+c) / B:Nat):Int):=by simp only [B];omega
   rw [e]
   simp [SWeak,AWeak]
  ·simp (config:={maxSteps:=1000000}) (disch:=((try simp only [awL]);omega)) only [↓awU,awV,awF,Qa,Qb,Qc,Qd,forall_const,↓reduceIte,↓reduceDIte,↓Qe,Qf,Qg,Qh,Qi,Qj,Qk,Ql,Qm,Qn,Qo,Qp,Qq,Qr,Qs,implies_true,Qt,Qu,Qv,Qw,Qx,Qy,Qz,QA,QB,QC,QD,QE,QF,QG,QH,QI,QJ,QK,QL,QM,QN,QO,QP,QQ]
   have hk':k=l.length:=by omega
   have hv:=hv.out
   rw [List.take_of_length_le (by omega),va] at hv
   have hv':val (out++[c])=2*a+d:=by rw [val_append,ho];simpa [val] using hv
   refine CallC.frozenE (rtrim_spec (out++[c]) (hd.append (by intro x hx;simp at hx;subst hx;simp only [B];omega)) (by simp;omega)) (by simp [W,ho]) ?_
   rw [hv']
   simp (config:={maxSteps:=1000000}) (disch:=((try simp only [awL]);omega)) only [↓awU,awV,awF,Qa,Qb,Qc,Qd,forall_const,↓reduceIte,↓reduceDIte,↓Qe,Qf,Qg,Qh,Qi,Qj,Qk,Ql,Qm,Qn,Qo,Qp,Qq,Qr,Qs,implies_true,Qt,Qu,Qv,Qw,Qx,Qy,Qz,QA,QB,QC,QD,QE,QF,QG,QH,QI,QJ,QK,QL,QM,QN,QO,QP,QQ]
theorem bit_spec (l:List Nat) (i:Nat) (hi:i<32*l.length) (hl:l.length<2 ^ 40) (hd:Dig l) :
  Ctr Tryz.prog G 143 [.d (W l),.d (.int .i64 i)] [] (.d (.int .u32 (l.getD (i / 32) 0 / 2 ^ (i % 32) % 2:Nat))) []:=by
 refine Ctr.pure (M:=M0) hmix Tryz.func143 rfl go143 ?_
 have p1:l.getD (i / 32) 0<4294967296:=hd.getD (i / 32)
 have e1:Int.tdiv (i:Int) 32=((i / 32:Nat):Int):=by rw [Int.tdiv_eq_ediv_of_nonneg (by omega)];omega
 have e2:Int.tmod (i:Int) 32=((i % 32:Nat):Int):=by rw [Int.tmod_eq_emod_of_nonneg (by omega)];omega
 have e3:min (i % 32) 32=i % 32:=by omega
 have hm:(2:Int) ^ (i % 32)=((2 ^ (i % 32):Nat):Int):=by simp
 have hle:=Nat.div_le_self (l.getD (i / 32) 0) (2 ^ (i % 32))
 have e4:bitsI .and .u32 ((l.getD (i / 32) 0 / 2 ^ (i % 32):Nat):Int) 1=((l.getD (i / 32) 0 / 2 ^ (i % 32) % 2:Nat):Int):=by
  have:=bi_u32_and_nat (a:=l.getD (i / 32) 0 / 2 ^ (i % 32)) (b:=1) (by omega) (by omega)
  rw [Nat.and_one_is_mod] at this
  exact this
 simp (config:={maxSteps:=1000000}) (disch:=((try simp only [awL]);omega)) only [Tryz.f143,e1,e2,e3,hm,fdiv_nat,e4,↓awU,awV,awF,Qa,Qb,Qc,Qd,forall_const,↓reduceIte,↓reduceDIte,↓Qe,Qf,Qg,Qh,Qi,Qj,Qk,Ql,Qm,Qn,Qo,Qp,Qq,Qr,Qs,implies_true,Qt,Qu,Qv,Qw,Qx,Qy,Qz,QA,QB,QC,QD,QE,QF,QG,QH,QI,QJ,QK,QL,QM,QN,QO,QP,QQ]
theorem set_get {l:List Nat} {i v:Nat} (h:i<l.length):(l.set i v).getD i 0=v:=by
 rw [List.getD_eq_getElem?_getD,List.getElem?_set_self h];rfl
theorem hf_or {x y:Nat} (hx:x<4294967296):bitsI .or .u32 ((x / 2:Nat):Int) (IntKind.u32.wrap ((y:Int)*2147483648))=(((y*B+x) / 2 ^ 1 % B:Nat):Int):=by
 have e1:IntKind.u32.wrap ((y:Int)*2147483648)=((y*2 ^ 31 % 4294967296:Nat):Int):=by rw [← w_u32];congr 1
 rw [e1,low_mul (by decide),bi_u32_or_nat (by omega) (by omega),or_low (by omega)]
 simp only [B]
 omega
set_option maxHeartbeats 4000000 in
set_option maxRecDepth 100000 in
theorem half_spec (a:Nat) (ha:(toW a).length<2 ^ 38) :
  Ctr Tryz.prog G 141 [.d (W (toW a))] [] (.d (W (toW (a / 2)))) []:=by
 have da:=dig_toW a
 have va:=val_toW a
 have la:=lt_of_toW a
 have ea:=toW_digs a
 generalize toW a=l at *
 refine Ctr.pure (M:=M0) hmix Tryz.func141 rfl go141 ?_
 simp (config:={maxSteps:=1000000}) (disch:=((try simp only [awL]);omega)) only [Tryz.f141,↓awU,awV,awF,Qa,Qb,Qc,Qd,forall_const,↓reduceIte,↓reduceDIte,↓Qe,Qf,Qg,Qh,Qi,Qj,Qk,Ql,Qm,Qn,Qo,Qp,Qq,Qr,Qs,implies_true,Qt,Qu,Qv,Qw,Qx,Qy,Qz,QA,QB,QC,QD,QE,QF,QG,QH,QI,QJ,QK,QL,QM,QN,QO,QP,QQ]
 refine LoopC.fr 513 (α:=Nat) (fun i=>l.length - i) (fun i=>[(3,.lsl 0 1 0 l.length),(10,.d (.int .i64 i))])
  (fun i=>[.row false (nats .u32 (backRow l.length 1 a i))]) (fun i=>i≤l.length) 0 (Nat.zero_le _) ?_ ?_
 ·exact ⟨[some 1],rfl,by simp,by simp [setsA,keepA,SWeak,AWeak],by simp [HWeak,BWeak,backRow_zero,← ea]⟩
 ·intro i hi
  simp only [awK,Nat.reduceMod,Nat.reduceDiv,reduceIte]
  have b1:=backRow_length (s:=1) (r:=a) hi
  rcases Nat.lt_or_ge i l.length with h1 | h1
  ·have b3:=backRow_getD (s:=1) (r:=a) h1
   have hun:=unshift (r:=a) (i:=i) (show 1<32 by decide)
   have bs:=backRow_set (s:=1) (r:=a) h1
   have bg:∀ v,((backRow l.length 1 a i).set i v).getD i 0=v:=fun v=>set_get (by rw [b1];exact h1)
   have p1:a / B ^ i % B<4294967296:=Nat.mod_lt _ (by decide)
   have p2:l.getD (i+1) 0<4294967296:=da.getD _
   rcases Nat.lt_or_ge (i+1) l.length with h2 | h2
   ·have hy:l.getD (i+1) 0=a / B ^ (i+1) % B:=by
     have:=digs_getD (k:=l.length) (n:=a) h2
     rwa [← ea] at this
    have hor:=hf_or (x:=a / B ^ i % B) (y:=l.getD (i+1) 0) p1
    have ed:((a / B ^ i % B:Nat):Int) / 2=((a / B ^ i % B / 2:Nat):Int):=rfl
    rw [hy] at hor
    have hun':(a / B ^ (i+1) % B*B+a / B ^ i % B) / 2 ^ 1 % B=a / 2 ^ 1 / B ^ i % B:=hun
    rw [hun'] at hor
    simp (config:={maxSteps:=1000000}) (disch:=((try simp only [awL]);omega)) only [b1,b3,bg,ed,hy,hor,List.set_set,↓awU,awV,awF,Qa,Qb,Qc,Qd,forall_const,↓reduceIte,↓reduceDIte,↓Qe,Qf,Qg,Qh,Qi,Qj,Qk,Ql,Qm,Qn,Qo,Qp,Qq,Qr,Qs,implies_true,Qt,Qu,Qv,Qw,Qx,Qy,Qz,QA,QB,QC,QD,QE,QF,QG,QH,QI,QJ,QK,QL,QM,QN,QO,QP,QQ]
    refine ⟨by rfl,i+1,h1,by simp only;omega,[some 0],rfl,by simp,by simp [SWeak,AWeak],?_⟩
    simp only [bs]
    simp [HWeak,BWeak]
   ·have hy:a / B ^ (i+1)=0:=Nat.div_eq_of_lt (Nat.lt_of_lt_of_le la (Nat.pow_le_pow_right (by decide) h2))
    have ed:((a / B ^ i % B:Nat):Int) / 2=((a / 2 ^ 1 / B ^ i % B:Nat):Int):=by
     rw [← hun,hy]
     simp only [B] at p1 ⊢
     omega
    simp (config:={maxSteps:=1000000}) (disch:=((try simp only [awL]);omega)) only [b1,b3,bg,ed,↓awU,awV,awF,Qa,Qb,Qc,Qd,forall_const,↓reduceIte,↓reduceDIte,↓Qe,Qf,Qg,Qh,Qi,Qj,Qk,Ql,Qm,Qn,Qo,Qp,Qq,Qr,Qs,implies_true,Qt,Qu,Qv,Qw,Qx,Qy,Qz,QA,QB,QC,QD,QE,QF,QG,QH,QI,QJ,QK,QL,QM,QN,QO,QP,QQ]
    refine ⟨i+1,h1,by simp only;omega,[some 0],rfl,by simp,by simp [SWeak,AWeak],?_⟩
    simp only [bs]
    simp [HWeak,BWeak]
  ·simp (config:={maxSteps:=1000000}) (disch:=((try simp only [awL]);omega)) only [b1,↓awU,awV,awF,Qa,Qb,Qc,Qd,forall_const,↓reduceIte,↓reduceDIte,↓Qe,Qf,Qg,Qh,Qi,Qj,Qk,Ql,Qm,Qn,Qo,Qp,Qq,Qr,Qs,implies_true,Qt,Qu,Qv,Qw,Qx,Qy,Qz,QA,QB,QC,QD,QE,QF,QG,QH,QI,QJ,QK,QL,QM,QN,QO,QP,QQ]
   have ei:i=l.length:=by omega
   subst ei
   have er:backRow l.length 1 a l.length=digs l.length (a / 2):=by
    rw [backRow,List.drop_of_length_le (by rw [digs_length];omega),List.append_nil]
   refine CallC.frozenE (rtrim_spec (backRow l.length 1 a l.length) dig_backRow (by rw [b1];omega)) (by simp [W,b1]) ?_
   rw [er,val_digs (by omega)]
   simp (config:={maxSteps:=1000000}) (disch:=((try simp only [awL]);omega)) only [↓awU,awV,awF,Qa,Qb,Qc,Qd,forall_const,↓reduceIte,↓reduceDIte,↓Qe,Qf,Qg,Qh,Qi,Qj,Qk,Ql,Qm,Qn,Qo,Qp,Qq,Qr,Qs,implies_true,Qt,Qu,Qv,Qw,Qx,Qy,Qz,QA,QB,QC,QD,QE,QF,QG,QH,QI,QJ,QK,QL,QM,QN,QO,QP,QQ]
end Go.Proofs.YthbnileadffpiaaGreatDoor.Num
namespace Go.Proofs.YthbnileadffpiaaGreatDoor.Num
open Go Go.Proofs Go.Abs
variable {G:Globals}
theorem digs_getD' {k n i:Nat} (h:i<k):(digs k n).getD i 0=n / B ^ i % B:=by
 induction k generalizing n i with
 | zero=>omega
 | succ k ih =>
  cases i with
  | zero=>simp [digs]
  | succ i =>
   have:=@ih (n / B) i (by omega)
   simp only [digs,List.getD_cons_succ,this]
   rw [Nat.div_div_eq_div_mul,← Nat.pow_succ']
theorem B_pow:B=2 ^ 32:=rfl
theorem set_bit {n X j:Nat} (hj:j / 32<n) (hX:X<B ^ n) (hd:2 ^ (j+1) ∣ X) :
  (digs n X).set (j / 32) (X / B ^ (j / 32) % B ||| 2 ^ (j % 32))=digs n (X+2 ^ j)∧X / B ^ (j / 32) % B ||| 2 ^ (j % 32)<4294967296:=by
 have hs:j % 32<32:=Nat.mod_lt _ (by decide)
 have hw:X / B ^ (j / 32) % B<4294967296:=Nat.mod_lt _ (by decide)
 have hlt:X / B ^ (j / 32) % B ||| 2 ^ (j % 32)<2 ^ 32:=Nat.or_lt_two_pow (by omega) (Nat.pow_lt_pow_right (by decide) hs)
 have hp:B ^ (j / 32)*2 ^ (j % 32)=2 ^ j:=by
  rw [B_pow,← Nat.pow_mul,← Nat.pow_add,Nat.div_add_mod]
 have hm:2 ^ (j % 32+1) ∣ X / B ^ (j / 32) % B:=by
  have h1:2 ^ (j % 32+1) ∣ B:=by rw [B_pow];exact Nat.pow_dvd_pow 2 hs
  have h2:2 ^ (j % 32+1) ∣ X / B ^ (j / 32):=by
   obtain ⟨c,hc⟩:=hd
   have:X=B ^ (j / 32)*(2 ^ (j % 32+1)*c):=by
    rw [hc,Nat.pow_succ,← hp,Nat.pow_succ,Nat.mul_assoc,Nat.mul_assoc,Nat.mul_assoc]
   rw [this,Nat.mul_div_cancel_left _ (Nat.pow_pos (by decide))]
   exact ⟨c,rfl⟩
  exact (Nat.dvd_mod_iff h1).2 h2
 obtain ⟨c,hc⟩:=hm
 have hor:X / B ^ (j / 32) % B ||| 2 ^ (j % 32)=X / B ^ (j / 32) % B+2 ^ (j % 32):=by
  rw [Nat.or_comm,Nat.add_comm,hc,Nat.mul_comm]
  exact or_low (Nat.pow_lt_pow_right (by decide) (Nat.lt_succ_self _))
 refine ⟨?_,hlt⟩
 refine digs_eq ((dig_digs _ _).set hlt) (by rw [List.length_set,digs_length]) ?_
 have h1:=val_set (l:=digs n X) (p:=j / 32) (d:=X / B ^ (j / 32) % B ||| 2 ^ (j % 32)) (by rw [digs_length];exact hj)
 rw [digs_getD' hj,val_digs hX,hor,Nat.mul_add,hp] at h1
 rw [hor]
 omega
theorem div_bit {a b j:Nat} (hb:0<b):∃ bit r',bit=a / 2 ^ j % 2∧r'=2*(a / 2 ^ (j+1) % b)+bit ∧
  (b≤r'→a / 2 ^ j % b=r' - b∧a / 2 ^ j / b*2 ^ j=a / 2 ^ (j+1) / b*2 ^ (j+1)+2 ^ j) ∧
  (r'<b→a / 2 ^ j % b=r'∧a / 2 ^ j / b*2 ^ j=a / 2 ^ (j+1) / b*2 ^ (j+1)):=by
 refine ⟨_,_,rfl,rfl,?_⟩
 have e1:a / 2 ^ (j+1)=a / 2 ^ j / 2:=by rw [Nat.pow_succ,Nat.div_div_eq_div_mul]
 have e2:∀ q,q*2 ^ (j+1)=2*q*2 ^ j:=fun q=>by rw [Nat.pow_succ];rw [Nat.mul_comm 2 q,Nat.mul_assoc,Nat.mul_comm 2]
 rw [e1]
 generalize a / 2 ^ j=x
 have h1:=Nat.mod_add_div x 2
 have h2:=Nat.mod_add_div (x / 2) b
 have h3:=Nat.mod_lt (x / 2) hb
 generalize x / 2 / b=q at *
 generalize x / 2 % b=r at *
 have hx:x=b*(2*q)+(2*r+x % 2):=by
  have:b*(2*q)=2*(b*q):=Nat.mul_left_comm ..
  omega
 generalize x % 2=c at *
 have hc:c≤1∨True:=.inr trivial
 refine ⟨fun h=>?_,fun h=>?_⟩
 ·have hq:x / b=2*q+1∧x % b=2*r+c - b:=by
   have hlt:2*r+c - b<b:=by omega
   have:x=(2*r+c - b)+b*(2*q+1):=by rw [Nat.mul_add,Nat.mul_one];omega
   rw [this]
   exact ⟨by rw [Nat.add_mul_div_left _ _ hb,Nat.div_eq_of_lt hlt,Nat.zero_add],by rw [Nat.add_mul_mod_self_left,Nat.mod_eq_of_lt hlt]⟩
  rw [hq.1,hq.2,e2,Nat.add_mul,Nat.one_mul]
  exact ⟨rfl,rfl⟩
 ·have hq:x / b=2*q∧x % b=2*r+c:=by
   have:x=(2*r+c)+b*(2*q):=by omega
   rw [this]
   exact ⟨by rw [Nat.add_mul_div_left _ _ hb,Nat.div_eq_of_lt h,Nat.zero_add],by rw [Nat.add_mul_mod_self_left,Nat.mod_eq_of_lt h]⟩
  rw [hq.1,hq.2,e2]
  exact ⟨rfl,rfl⟩
theorem bit_of {a j:Nat} (hj:j / 32<(toW a).length):(toW a).getD (j / 32) 0 / 2 ^ (j % 32) % 2=a / 2 ^ j % 2:=by
 have h1:(toW a).getD (j / 32) 0=a / B ^ (j / 32) % B:=by
  have:=digs_getD' (k:=(toW a).length) (n:=a) hj
  rwa [← toW_digs a] at this
 rw [h1]
 have hp:B ^ (j / 32)*2 ^ (j % 32)=2 ^ j:=by
  rw [B_pow,← Nat.pow_mul,← Nat.pow_add,Nat.div_add_mod]
 rw [← hp,← Nat.div_div_eq_div_mul]
 generalize a / B ^ (j / 32)=y
 have hs:j % 32<32:=Nat.mod_lt _ (by decide)
 have:B=2 ^ (j % 32)*(2*2 ^ (31 - j % 32)):=by
  rw [← Nat.pow_succ',← Nat.pow_add,B_pow];congr 1;omega
 rw [this,Nat.mod_mul_right_div_self,Nat.mod_mul_right_mod]
set_option maxHeartbeats 4000000 in
set_option maxRecDepth 100000 in
theorem div_spec (a b:Nat) (hb:b≠0) (ha:(toW a).length<2 ^ 38) (hb':(toW b).length<2 ^ 38) :
  Ctr Tryz.prog G 121 [.d (W (toW a)),.d (W (toW b))] [] (.d (.tup [W (toW (a / b)),W (toW (a % b))])) []:=by
 have da:=dig_toW a
 have la:=lt_of_toW a
 have hbp:0<b:=Nat.pos_of_ne_zero hb
 have hbit:∀ j,j / 32<(toW a).length→_:=fun j hj=>bit_of (a:=a) (j:=j) hj
 refine Ctr.pure (M:=M0) hmix Tryz.func121 rfl go121 ?_
 generalize hl:(toW a).length=n at *
 have e0:a / 2 ^ (32*n)=0:=Nat.div_eq_of_lt (by rw [Nat.pow_mul];exact la)
 simp (config:={maxSteps:=1000000}) (disch:=((try simp only [awL]);omega)) only [Tryz.f121,hl,↓awU,awV,awF,Qa,Qb,Qc,Qd,forall_const,↓reduceIte,↓reduceDIte,↓Qe,Qf,Qg,Qh,Qi,Qj,Qk,Ql,Qm,Qn,Qo,Qp,Qq,Qr,Qs,implies_true,Qt,Qu,Qv,Qw,Qx,Qy,Qz,QA,QB,QC,QD,QE,QF,QG,QH,QI,QJ,QK,QL,QM,QN,QO,QP,QQ]
 refine LoopC.fx 19 (α:=Nat) (β:=Unit) (fun k=>k) (fun k=>[(5,.d (W (toW (a / 2 ^ k % b)))),(6,.d (.int .i64 ((k:Int) - 1)))])
  (fun k=>[.row false (nats .u32 (digs n (a / 2 ^ k / b*2 ^ k)))]) (fun k=>k≤32*n)
  16 (fun _=>[(5,.d (W (toW (a % b))))]) (fun _=>[.row false (nats .u32 (digs n (a / b)))]) (fun _=>True) (32*n) (Nat.le_refl _) ?_ ?_ ?_
 ·rw [e0,Nat.zero_mod,Nat.zero_div,Nat.zero_mul]
  have hz:digs n 0=List.replicate n 0:=(digs_eq (Dig.zeros n) (by simp) (val_zeros n)).symm
  refine ⟨[some 0],rfl,by simp,?_,?_⟩
  ·simp [setsA,keepA,SWeak,AWeak,toW_zero,nats]
  ·simp [HWeak,BWeak,hz]
 ·intro k hk
  simp only [awK,Nat.reduceMod,Nat.reduceDiv,reduceIte]
  rcases k with _ | j
  ·simp (config:={maxSteps:=1000000}) (disch:=((try simp only [awL]);omega)) only [hl,↓awU,awV,awF,Qa,Qb,Qc,Qd,forall_const,↓reduceIte,↓reduceDIte,↓Qe,Qf,Qg,Qh,Qi,Qj,Qk,Ql,Qm,Qn,Qo,Qp,Qq,Qr,Qs,implies_true,Qt,Qu,Qv,Qw,Qx,Qy,Qz,QA,QB,QC,QD,QE,QF,QG,QH,QI,QJ,QK,QL,QM,QN,QO,QP,QQ]
   refine ⟨(),trivial,[some 0],rfl,by simp,?_,?_⟩
   ·simp [setsA,keepA,SWeak,AWeak]
   ·simp [HWeak,BWeak]
  ·have hj:j / 32<n:=by omega
   obtain ⟨bit,r',hbit1,hr',hge,hlt⟩:=div_bit (a:=a) (b:=b) (j:=j) hbp
   have hb1:bit≤1:=by omega
   have hmod:=Nat.mod_lt (a / 2 ^ (j+1)) hbp
   have hrl:(toW (a / 2 ^ (j+1) % b)).length≤(toW b).length:=toW_len_mono (Nat.le_of_lt hmod)
   have hrl2:(toW r').length≤(toW b).length+1:=by
    have h1:=toW_len_mono (show r'≤b+b by omega)
    have h2:=@plus_len b b
    omega
   have e2:Int.tdiv (j:Int) 32=((j / 32:Nat):Int):=by rw [Int.tdiv_eq_ediv_of_nonneg (by omega)];omega
   have e3:Int.tmod (j:Int) 32=((j % 32:Nat):Int):=by rw [Int.tmod_eq_emod_of_nonneg (by omega)];omega
   have e4:min (j % 32) 32=j % 32:=by omega
   have dl:=digs_length n (a / 2 ^ (j+1) / b*2 ^ (j+1))
   simp (config:={maxSteps:=1000000}) (disch:=((try simp only [awL]);omega)) only [hl,↓awU,awV,awF,Qa,Qb,Qc,Qd,forall_const,↓reduceIte,↓reduceDIte,↓Qe,Qf,Qg,Qh,Qi,Qj,Qk,Ql,Qm,Qn,Qo,Qp,Qq,Qr,Qs,implies_true,Qt,Qu,Qv,Qw,Qx,Qy,Qz,QA,QB,QC,QD,QE,QF,QG,QH,QI,QJ,QK,QL,QM,QN,QO,QP,QQ]
   refine CallC.of (bit_spec (toW a) j (by rw [hl];omega) (by omega) da) (by rw [W,hl]) ?_
   rw [hbit j hj,← hbit1]
   simp (config:={maxSteps:=1000000}) (disch:=((try simp only [awL]);omega)) only [hl,↓awU,awV,awF,Qa,Qb,Qc,Qd,forall_const,↓reduceIte,↓reduceDIte,↓Qe,Qf,Qg,Qh,Qi,Qj,Qk,Ql,Qm,Qn,Qo,Qp,Qq,Qr,Qs,implies_true,Qt,Qu,Qv,Qw,Qx,Qy,Qz,QA,QB,QC,QD,QE,QF,QG,QH,QI,QJ,QK,QL,QM,QN,QO,QP,QQ]
   refine CallC.pure (twice_spec _ bit hb1 (by omega)) ?_
   rw [← hr']
   simp (config:={maxSteps:=1000000}) (disch:=((try simp only [awL]);omega)) only [hl,↓awU,awV,awF,Qa,Qb,Qc,Qd,forall_const,↓reduceIte,↓reduceDIte,↓Qe,Qf,Qg,Qh,Qi,Qj,Qk,Ql,Qm,Qn,Qo,Qp,Qq,Qr,Qs,implies_true,Qt,Qu,Qv,Qw,Qx,Qy,Qz,QA,QB,QC,QD,QE,QF,QG,QH,QI,QJ,QK,QL,QM,QN,QO,QP,QQ]
   refine CallC.pure (rcmp_spec r' b (by omega) (by omega)) ?_
   by_cases hc:b≤r'
   ·have hge':=hge hc
    have hci:(0:Int)≤cmpI (r':Int) b:=by unfold cmpI;split<;>first | omega | (split<;>omega)
    simp (config:={maxSteps:=1000000}) (disch:=((try simp only [awL]);omega)) only [hl,↓awU,awV,awF,Qa,Qb,Qc,Qd,forall_const,↓reduceIte,↓reduceDIte,↓Qe,Qf,Qg,Qh,Qi,Qj,Qk,Ql,Qm,Qn,Qo,Qp,Qq,Qr,Qs,implies_true,Qt,Qu,Qv,Qw,Qx,Qy,Qz,QA,QB,QC,QD,QE,QF,QG,QH,QI,QJ,QK,QL,QM,QN,QO,QP,QQ]
    refine CallC.pure (rsub_spec r' b hc (by omega)) ?_
    have hX:a / 2 ^ (j+1) / b*2 ^ (j+1)<B ^ n:=by
     refine Nat.lt_of_le_of_lt ?_ la
     rw [Nat.div_div_eq_div_mul,Nat.mul_comm (2 ^ (j+1)),← Nat.div_div_eq_div_mul]
     exact Nat.le_trans (Nat.div_mul_le_self _ _) (Nat.div_le_self _ _)
    obtain ⟨s1,s2⟩:=set_bit (n:=n) hj hX ⟨_,Nat.mul_comm _ _⟩
    have g1:=digs_getD' (k:=n) (n:=a / 2 ^ (j+1) / b*2 ^ (j+1)) hj
    have hw1:(2 ^ (j % 32):Int)=((2 ^ (j % 32):Nat):Int):=by simp
    have hpl:2 ^ (j % 32)<4294967296:=Nat.pow_lt_pow_right (m:=j % 32) (n:=32) (by decide) (by omega)
    have hwr:IntKind.u32.wrap ((2 ^ (j % 32):Nat):Int)=((2 ^ (j % 32):Nat):Int):=by rw [w_u32,Nat.mod_eq_of_lt hpl]
    have hor:=bi_u32_or_nat (a:=a / 2 ^ (j+1) / b*2 ^ (j+1) / B ^ (j / 32) % B) (b:=2 ^ (j % 32)) (Nat.mod_lt _ (by decide)) hpl
    simp (config:={maxSteps:=1000000}) (disch:=((try simp only [awL]);omega)) only [hl,e2,e3,e4,dl,g1,hw1,hwr,hor,Int.one_mul,↓awU,awV,awF,Qa,Qb,Qc,Qd,forall_const,↓reduceIte,↓reduceDIte,↓Qe,Qf,Qg,Qh,Qi,Qj,Qk,Ql,Qm,Qn,Qo,Qp,Qq,Qr,Qs,implies_true,Qt,Qu,Qv,Qw,Qx,Qy,Qz,QA,QB,QC,QD,QE,QF,QG,QH,QI,QJ,QK,QL,QM,QN,QO,QP,QQ]
    refine ⟨j,by omega,Nat.lt_succ_self _,[some 0],rfl,by simp,?_,?_⟩
    ·simp [setsA,keepA,SWeak,AWeak,hge'.1]
    ·simp [HWeak,BWeak,hge'.2,s1]
   ·have hlt':=hlt (by omega)
    have hci:cmpI (r':Int) b<0:=by rw [cmpI_lt (by omega)];decide
    simp (config:={maxSteps:=1000000}) (disch:=((try simp only [awL]);omega)) only [hl,↓awU,awV,awF,Qa,Qb,Qc,Qd,forall_const,↓reduceIte,↓reduceDIte,↓Qe,Qf,Qg,Qh,Qi,Qj,Qk,Ql,Qm,Qn,Qo,Qp,Qq,Qr,Qs,implies_true,Qt,Qu,Qv,Qw,Qx,Qy,Qz,QA,QB,QC,QD,QE,QF,QG,QH,QI,QJ,QK,QL,QM,QN,QO,QP,QQ]
    refine ⟨j,by omega,Nat.lt_succ_self _,[some 0],rfl,by simp,?_,?_⟩
    ·simp [setsA,keepA,SWeak,AWeak,hlt'.1]
    ·simp [HWeak,BWeak,hlt'.2]
 ·rintro ⟨⟩ -
  simp only [awK,Nat.reduceMod,Nat.reduceDiv,reduceIte]
  simp (config:={maxSteps:=1000000}) (disch:=((try simp only [awL]);omega)) only [hl,↓awU,awV,awF,Qa,Qb,Qc,Qd,forall_const,↓reduceIte,↓reduceDIte,↓Qe,Qf,Qg,Qh,Qi,Qj,Qk,Ql,Qm,Qn,Qo,Qp,Qq,Qr,Qs,implies_true,Qt,Qu,Qv,Qw,Qx,Qy,Qz,QA,QB,QC,QD,QE,QF,QG,QH,QI,QJ,QK,QL,QM,QN,QO,QP,QQ]
  have hq:a / b<B ^ n:=Nat.lt_of_le_of_lt (Nat.div_le_self _ _) la
  refine CallC.frozenE (rtrim_spec (digs n (a / b)) (dig_digs _ _) (by rw [digs_length];omega)) (by rw [W,digs_length,List.take_of_length_le (by rw [digs_length];omega)]) ?_
  rw [val_digs hq]
  simp (config:={maxSteps:=1000000}) (disch:=((try simp only [awL]);omega)) only [↓awU,awV,awF,Qa,Qb,Qc,Qd,forall_const,↓reduceIte,↓reduceDIte,↓Qe,Qf,Qg,Qh,Qi,Qj,Qk,Ql,Qm,Qn,Qo,Qp,Qq,Qr,Qs,implies_true,Qt,Qu,Qv,Qw,Qx,Qy,Qz,QA,QB,QC,QD,QE,QF,QG,QH,QI,QJ,QK,QL,QM,QN,QO,QP,QQ]
end Go.Proofs.YthbnileadffpiaaGreatDoor.Num
namespace Go.Proofs.YthbnileadffpiaaGreatDoor.Num
open Go Go.Proofs Go.Abs
variable {G:Globals}
theorem toW_0 {a:Nat} (h:a≠0):(toW a).getD 0 0=a % B:=by rw [toW_pos h];rfl
theorem and1 {x:Nat} (h:x<4294967296):bitsI .and .u32 (x:Int) 1=((x % 2:Nat):Int):=by
 have:=bi_u32_and_nat (a:=x) (b:=1) h (by decide)
 rw [Nat.and_one_is_mod] at this
 exact this
theorem low_bit {a:Nat} (h:a≠0):bitsI .and .u32 (((toW a).getD 0 0:Nat):Int) 1=((a % 2:Nat):Int):=by
 rw [toW_0 h,and1 (show a % B<4294967296 from Nat.mod_lt _ (by decide)),Nat.mod_mod_of_dvd _ (by decide)]
theorem gcd_even {a b g:Nat} (h:Nat.gcd a b=g) (ha:a % 2=0) (hg:g % 2=1):Nat.gcd (a / 2) b=g:=by
 have hb:b % 2=1:=by
  rcases Nat.mod_two_eq_zero_or_one b with hb | hb
  ·have:2 ∣ g:=h▸Nat.dvd_gcd (Nat.dvd_of_mod_eq_zero ha) (Nat.dvd_of_mod_eq_zero hb)
   omega
  ·exact hb
 have hc:Nat.Coprime 2 b:=by rw [Nat.Coprime,Nat.gcd_rec,hb];rfl
 have:=Nat.Coprime.gcd_mul_left_cancel (a / 2) hc
 rw [← this,Nat.mul_div_cancel' (Nat.dvd_of_mod_eq_zero ha),h]
theorem gcd_even' {a b g:Nat} (h:Nat.gcd a b=g) (hb:b % 2=0) (hg:g % 2=1):Nat.gcd a (b / 2)=g:=by
 rw [Nat.gcd_comm] at h ⊢
 exact gcd_even h hb hg
theorem gcd_odd {a b:Nat} (h:¬ (a % 2=0∧b % 2=0)):Nat.gcd a b % 2=1:=by
 rcases Nat.mod_two_eq_zero_or_one (Nat.gcd a b) with hg | hg
 ·have hd:=Nat.dvd_of_mod_eq_zero hg
  have h1:=Nat.dvd_trans hd (Nat.gcd_dvd_left a b)
  have h2:=Nat.dvd_trans hd (Nat.gcd_dvd_right a b)
  exact absurd ⟨Nat.mod_eq_zero_of_dvd h1,Nat.mod_eq_zero_of_dvd h2⟩ h
 ·exact hg
theorem two_bound {a k n:Nat} (h:a*2 ^ k=n) (ha:a≠0):k<32*(toW n).length:=by
 have h1:=lt_of_toW n
 rw [B_pow,← Nat.pow_mul] at h1
 have h2:2 ^ k≤n:=by rw [← h];exact Nat.le_mul_of_pos_left _ (Nat.pos_of_ne_zero ha)
 exact (Nat.pow_lt_pow_iff_right (by decide)).1 (Nat.lt_of_le_of_lt h2 h1)
theorem half_pow {a k n:Nat} (h:a*2 ^ k=n) (ha:a % 2=0):a / 2*2 ^ (k+1)=n:=by
 rw [Nat.pow_succ',← Nat.mul_assoc,Nat.div_mul_cancel (Nat.dvd_of_mod_eq_zero ha)];exact h
theorem le_of_pow {a k n:Nat} (h:a*2 ^ k=n):a≤n:=by
 rw [← h];exact Nat.le_mul_of_pos_right _ (Nat.two_pow_pos k)
set_option maxHeartbeats 4000000 in
set_option maxRecDepth 100000 in
theorem gcd_spec (a0 b0:Nat) (ha0:a0≠0) (hb0:b0≠0) (hla:(toW a0).length<2 ^ 37) (hlb:(toW b0).length<2 ^ 37) :
  Ctr Tryz.prog G 120 [.d (W (toW a0)),.d (W (toW b0))] [] (.d (W (toW (Nat.gcd a0 b0)))) []:=by
 have le1:∀ {x},x≤a0→(toW x).length<2 ^ 37:=fun h=>Nat.lt_of_le_of_lt (toW_len_mono h) hla
 have le2:∀ {x},x≤max a0 b0→(toW x).length<2 ^ 37:=fun {x} h=>by
  rcases Nat.le_total a0 b0 with h2 | h2
  ·exact Nat.lt_of_le_of_lt (toW_len_mono (by omega:x≤b0)) hlb
  ·exact Nat.lt_of_le_of_lt (toW_len_mono (by omega:x≤a0)) hla
 refine Ctr.pure (M:=M0) hmix Tryz.func120 rfl go120 ?_
 simp (config:={maxSteps:=1000000}) (disch:=((try simp only [awL]);omega)) only [Tryz.f120,↓awU,awV,awF,Qa,Qb,Qc,Qd,forall_const,↓reduceIte,↓reduceDIte,↓Qe,Qf,Qg,Qh,Qi,Qj,Qk,Ql,Qm,Qn,Qo,Qp,Qq,Qr,Qs,implies_true,Qt,Qu,Qv,Qw,Qx,Qy,Qz,QA,QB,QC,QD,QE,QF,QG,QH,QI,QJ,QK,QL,QM,QN,QO,QP,QQ]
 refine LoopC.fx 0 (α:=Nat × Nat × Nat) (β:=Nat × Nat × Nat) (fun x=>x.1) (fun x=>[(0,.d (W (toW x.1))),(1,.d (W (toW x.2.1))),(5,.d (.int .i64 x.2.2))])
  (fun _=>[]) (fun x=>x.1≠0∧x.2.1≠0∧x.1*2 ^ x.2.2=a0∧x.2.1*2 ^ x.2.2=b0)
  0 (fun x=>[(0,.d (W (toW x.1))),(1,.d (W (toW x.2.1))),(5,.d (.int .i64 x.2.2))]) (fun _=>[]) (fun x=>(x.1≠0∧x.2.1≠0∧x.1*2 ^ x.2.2=a0∧x.2.1*2 ^ x.2.2=b0)∧¬ (x.1 % 2=0∧x.2.1 % 2=0))
  (a0,b0,0) ⟨ha0,hb0,by simp,by simp⟩ ?_ ?_ ?_
 ·exact ⟨[],rfl,by simp,by simp [setsA,keepA,SWeak,AWeak],by simp [HWeak,BWeak,SWeak,AWeak]⟩
 ·rintro ⟨a,b,k⟩ hR
  have hR':=hR
  obtain ⟨ha,hb,hak,hbk⟩:=hR'
  simp only at ha hb hak hbk
  simp only [awK,Nat.reduceMod,Nat.reduceDiv,reduceIte]
  have l1:=low_bit ha
  have l2:=low_bit hb
  have p1:=sz_pos.2 ha
  have p2:=sz_pos.2 hb
  have q1:=le1 (le_of_pow hak)
  have q2:=le2 (show b≤max a0 b0 by have:=le_of_pow hbk;omega)
  have q3:=two_bound hak ha
  have m1:=Nat.mod_two_eq_zero_or_one a
  have m2:=Nat.mod_two_eq_zero_or_one b
  by_cases e1:a % 2=0
  ·by_cases e2:b % 2=0
   ·simp (config:={maxSteps:=1000000}) (disch:=((try simp only [awL]);omega)) only [l1,l2,e1,e2,↓awU,awV,awF,Qa,Qb,Qc,Qd,forall_const,↓reduceIte,↓reduceDIte,↓Qe,Qf,Qg,Qh,Qi,Qj,Qk,Ql,Qm,Qn,Qo,Qp,Qq,Qr,Qs,implies_true,Qt,Qu,Qv,Qw,Qx,Qy,Qz,QA,QB,QC,QD,QE,QF,QG,QH,QI,QJ,QK,QL,QM,QN,QO,QP,QQ]
    refine CallC.pure (half_spec a (by omega)) ?_
    simp (config:={maxSteps:=1000000}) (disch:=((try simp only [awL]);omega)) only [↓awU,awV,awF,Qa,Qb,Qc,Qd,forall_const,↓reduceIte,↓reduceDIte,↓Qe,Qf,Qg,Qh,Qi,Qj,Qk,Ql,Qm,Qn,Qo,Qp,Qq,Qr,Qs,implies_true,Qt,Qu,Qv,Qw,Qx,Qy,Qz,QA,QB,QC,QD,QE,QF,QG,QH,QI,QJ,QK,QL,QM,QN,QO,QP,QQ]
    refine CallC.pure (half_spec b (by omega)) ?_
    simp (config:={maxSteps:=1000000}) (disch:=((try simp only [awL]);omega)) only [↓awU,awV,awF,Qa,Qb,Qc,Qd,forall_const,↓reduceIte,↓reduceDIte,↓Qe,Qf,Qg,Qh,Qi,Qj,Qk,Ql,Qm,Qn,Qo,Qp,Qq,Qr,Qs,implies_true,Qt,Qu,Qv,Qw,Qx,Qy,Qz,QA,QB,QC,QD,QE,QF,QG,QH,QI,QJ,QK,QL,QM,QN,QO,QP,QQ]
    exact ⟨(a / 2,b / 2,k+1),⟨by simp only;omega,by simp only;omega,half_pow hak e1,half_pow hbk e2⟩,by simp only;omega,⟨[],rfl,by simp,by simp [setsA,keepA,SWeak,AWeak],by simp [HWeak,BWeak,SWeak,AWeak]⟩⟩
   ·simp (config:={maxSteps:=1000000}) (disch:=((try simp only [awL]);omega)) only [l1,l2,e1,e2,↓awU,awV,awF,Qa,Qb,Qc,Qd,forall_const,↓reduceIte,↓reduceDIte,↓Qe,Qf,Qg,Qh,Qi,Qj,Qk,Ql,Qm,Qn,Qo,Qp,Qq,Qr,Qs,implies_true,Qt,Qu,Qv,Qw,Qx,Qy,Qz,QA,QB,QC,QD,QE,QF,QG,QH,QI,QJ,QK,QL,QM,QN,QO,QP,QQ]
    exact ⟨(a,b,k),⟨hR,fun h=>e2 h.2⟩,⟨[],rfl,by simp,by simp [setsA,keepA,SWeak,AWeak],by simp [HWeak,BWeak,SWeak,AWeak]⟩⟩
  ·simp (config:={maxSteps:=1000000}) (disch:=((try simp only [awL]);omega)) only [l1,l2,e1,↓awU,awV,awF,Qa,Qb,Qc,Qd,forall_const,↓reduceIte,↓reduceDIte,↓Qe,Qf,Qg,Qh,Qi,Qj,Qk,Ql,Qm,Qn,Qo,Qp,Qq,Qr,Qs,implies_true,Qt,Qu,Qv,Qw,Qx,Qy,Qz,QA,QB,QC,QD,QE,QF,QG,QH,QI,QJ,QK,QL,QM,QN,QO,QP,QQ]
   exact ⟨(a,b,k),⟨hR,fun h=>e1 h.1⟩,⟨[],rfl,by simp,by simp [setsA,keepA,SWeak,AWeak],by simp [HWeak,BWeak,SWeak,AWeak]⟩⟩
 ·rintro ⟨a1,b1,K⟩ ⟨⟨ha1,hb1,hak1,hbk1⟩,hodd⟩
  simp only at ha1 hb1 hak1 hbk1 hodd
  simp only [awK,Nat.reduceMod,Nat.reduceDiv,reduceIte]
  have hgo:=gcd_odd hodd
  have hgg:Nat.gcd a0 b0=Nat.gcd a1 b1*2 ^ K:=by rw [← hak1,← hbk1,Nat.gcd_mul_right]
  have hg0:Nat.gcd a1 b1≠0:=by omega
  have hKb:=two_bound hak1 ha1
  rw [hgg]
  have hgl:Nat.gcd a1 b1*2 ^ K≤a0:=by rw [← hgg];exact Nat.gcd_le_left _ (Nat.pos_of_ne_zero ha0)
  generalize Nat.gcd a0 b0=gg at *
  generalize hg:Nat.gcd a1 b1=g at *
  have ma1:a1≤max a0 b0:=by have:=le_of_pow hak1;omega
  have mb1:b1≤max a0 b0:=by have:=le_of_pow hbk1;omega
  simp (config:={maxSteps:=1000000}) (disch:=((try simp only [awL]);omega)) only [↓awU,awV,awF,Qa,Qb,Qc,Qd,forall_const,↓reduceIte,↓reduceDIte,↓Qe,Qf,Qg,Qh,Qi,Qj,Qk,Ql,Qm,Qn,Qo,Qp,Qq,Qr,Qs,implies_true,Qt,Qu,Qv,Qw,Qx,Qy,Qz,QA,QB,QC,QD,QE,QF,QG,QH,QI,QJ,QK,QL,QM,QN,QO,QP,QQ]
  refine LoopC.fx 32 (α:=Nat × Nat) (β:=Unit) (fun x=>x.1+x.2) (fun x=>[(0,.d (W (toW x.1))),(1,.d (W (toW x.2)))])
   (fun _=>[]) (fun x=>x.1≠0∧x.1≤max a0 b0∧x.2≤max a0 b0∧Nat.gcd x.1 x.2=g)
   32 (fun _=>[(0,.d (W (toW g)))]) (fun _=>[]) (fun _=>True) (a1,b1) ⟨ha1,ma1,mb1,hg⟩ ?_ ?_ ?_
  ·exact ⟨[],rfl,by simp,by simp [setsA,keepA,SWeak,AWeak],by simp [HWeak,BWeak,SWeak,AWeak]⟩
  ·rintro ⟨a,b⟩ ⟨ha,hma,hmb,hgab⟩
   simp only at ha hma hmb hgab
   simp only [awK,Nat.reduceMod,Nat.reduceDiv,reduceIte]
   by_cases hb:b=0
   ·subst hb
    rw [Nat.gcd_zero_right] at hgab
    subst hgab
    have e:toW 0=[]:=toW_zero
    rw [e]
    simp (config:={maxSteps:=1000000}) (disch:=((try simp only [awL]);omega)) only [↓awU,awV,awF,Qa,Qb,Qc,Qd,forall_const,↓reduceIte,↓reduceDIte,↓Qe,Qf,Qg,Qh,Qi,Qj,Qk,Ql,Qm,Qn,Qo,Qp,Qq,Qr,Qs,implies_true,Qt,Qu,Qv,Qw,Qx,Qy,Qz,QA,QB,QC,QD,QE,QF,QG,QH,QI,QJ,QK,QL,QM,QN,QO,QP,QQ]
    exact ⟨(),trivial,⟨[],rfl,by simp,by simp [setsA,keepA,SWeak,AWeak],by simp [HWeak,BWeak,SWeak,AWeak]⟩⟩
   ·have p2:=sz_pos.2 hb
    simp (config:={maxSteps:=1000000}) (disch:=((try simp only [awL]);omega)) only [↓awU,awV,awF,Qa,Qb,Qc,Qd,forall_const,↓reduceIte,↓reduceDIte,↓Qe,Qf,Qg,Qh,Qi,Qj,Qk,Ql,Qm,Qn,Qo,Qp,Qq,Qr,Qs,implies_true,Qt,Qu,Qv,Qw,Qx,Qy,Qz,QA,QB,QC,QD,QE,QF,QG,QH,QI,QJ,QK,QL,QM,QN,QO,QP,QQ]
    refine LoopC.fx 34 (α:=Nat) (β:=Nat) (fun x=>x) (fun x=>[(0,.d (W (toW x)))])
     (fun _=>[]) (fun x=>x≠0∧x≤a∧Nat.gcd x b=g)
     34 (fun x=>[(0,.d (W (toW x)))]) (fun _=>[]) (fun x=>x≠0∧x≤a∧Nat.gcd x b=g∧x % 2=1) a ⟨ha,Nat.le_refl _,hgab⟩ ?_ ?_ ?_
    ·exact ⟨[],rfl,by simp,by simp [setsA,keepA,SWeak,AWeak],by simp [HWeak,BWeak,SWeak,AWeak]⟩
    ·rintro x ⟨hx,hxa,hxg⟩
     simp only [awK,Nat.reduceMod,Nat.reduceDiv,reduceIte]
     have l1:=low_bit hx
     have p1:=sz_pos.2 hx
     have q1:=le2 (show x≤max a0 b0 by omega)
     have m1:=Nat.mod_two_eq_zero_or_one x
     by_cases e1:x % 2=0
     ·simp (config:={maxSteps:=1000000}) (disch:=((try simp only [awL]);omega)) only [l1,e1,↓awU,awV,awF,Qa,Qb,Qc,Qd,forall_const,↓reduceIte,↓reduceDIte,↓Qe,Qf,Qg,Qh,Qi,Qj,Qk,Ql,Qm,Qn,Qo,Qp,Qq,Qr,Qs,implies_true,Qt,Qu,Qv,Qw,Qx,Qy,Qz,QA,QB,QC,QD,QE,QF,QG,QH,QI,QJ,QK,QL,QM,QN,QO,QP,QQ]
      refine CallC.pure (half_spec x (by omega)) ?_
      simp (config:={maxSteps:=1000000}) (disch:=((try simp only [awL]);omega)) only [↓awU,awV,awF,Qa,Qb,Qc,Qd,forall_const,↓reduceIte,↓reduceDIte,↓Qe,Qf,Qg,Qh,Qi,Qj,Qk,Ql,Qm,Qn,Qo,Qp,Qq,Qr,Qs,implies_true,Qt,Qu,Qv,Qw,Qx,Qy,Qz,QA,QB,QC,QD,QE,QF,QG,QH,QI,QJ,QK,QL,QM,QN,QO,QP,QQ]
      exact ⟨x / 2,⟨by omega,by omega,gcd_even hxg e1 hgo⟩,by simp only;omega,⟨[],rfl,by simp,by simp [setsA,keepA,SWeak,AWeak],by simp [HWeak,BWeak,SWeak,AWeak]⟩⟩
     ·simp (config:={maxSteps:=1000000}) (disch:=((try simp only [awL]);omega)) only [l1,e1,↓awU,awV,awF,Qa,Qb,Qc,Qd,forall_const,↓reduceIte,↓reduceDIte,↓Qe,Qf,Qg,Qh,Qi,Qj,Qk,Ql,Qm,Qn,Qo,Qp,Qq,Qr,Qs,implies_true,Qt,Qu,Qv,Qw,Qx,Qy,Qz,QA,QB,QC,QD,QE,QF,QG,QH,QI,QJ,QK,QL,QM,QN,QO,QP,QQ]
      exact ⟨x,⟨hx,hxa,hxg,by omega⟩,⟨[],rfl,by simp,by simp [setsA,keepA,SWeak,AWeak],by simp [HWeak,BWeak,SWeak,AWeak]⟩⟩
    ·rintro a' ⟨ha',haa',hga',hoa⟩
     simp only [awK,Nat.reduceMod,Nat.reduceDiv,reduceIte]
     simp (config:={maxSteps:=1000000}) (disch:=((try simp only [awL]);omega)) only [↓awU,awV,awF,Qa,Qb,Qc,Qd,forall_const,↓reduceIte,↓reduceDIte,↓Qe,Qf,Qg,Qh,Qi,Qj,Qk,Ql,Qm,Qn,Qo,Qp,Qq,Qr,Qs,implies_true,Qt,Qu,Qv,Qw,Qx,Qy,Qz,QA,QB,QC,QD,QE,QF,QG,QH,QI,QJ,QK,QL,QM,QN,QO,QP,QQ]
     refine LoopC.fx 33 (α:=Nat) (β:=Nat) (fun x=>x) (fun x=>[(1,.d (W (toW x)))])
      (fun _=>[]) (fun x=>x≠0∧x≤b∧Nat.gcd a' x=g)
      33 (fun x=>[(1,.d (W (toW x)))]) (fun _=>[]) (fun x=>x≠0∧x≤b∧Nat.gcd a' x=g) b ⟨hb,Nat.le_refl _,hga'⟩ ?_ ?_ ?_
     ·exact ⟨[],rfl,by simp,by simp [setsA,keepA,SWeak,AWeak],by simp [HWeak,BWeak,SWeak,AWeak]⟩
     ·rintro x ⟨hx,hxa,hxg⟩
      simp only [awK,Nat.reduceMod,Nat.reduceDiv,reduceIte]
      have l1:=low_bit hx
      have p1:=sz_pos.2 hx
      have q1:=le2 (show x≤max a0 b0 by omega)
      have m1:=Nat.mod_two_eq_zero_or_one x
      by_cases e1:x % 2=0
      ·simp (config:={maxSteps:=1000000}) (disch:=((try simp only [awL]);omega)) only [l1,e1,↓awU,awV,awF,Qa,Qb,Qc,Qd,forall_const,↓reduceIte,↓reduceDIte,↓Qe,Qf,Qg,Qh,Qi,Qj,Qk,Ql,Qm,Qn,Qo,Qp,Qq,Qr,Qs,implies_true,Qt,Qu,Qv,Qw,Qx,Qy,Qz,QA,QB,QC,QD,QE,QF,QG,QH,QI,QJ,QK,QL,QM,QN,QO,QP,QQ]
       refine CallC.pure (half_spec x (by omega)) ?_
       simp (config:={maxSteps:=1000000}) (disch:=((try simp only [awL]);omega)) only [↓awU,awV,awF,Qa,Qb,Qc,Qd,forall_const,↓reduceIte,↓reduceDIte,↓Qe,Qf,Qg,Qh,Qi,Qj,Qk,Ql,Qm,Qn,Qo,Qp,Qq,Qr,Qs,implies_true,Qt,Qu,Qv,Qw,Qx,Qy,Qz,QA,QB,QC,QD,QE,QF,QG,QH,QI,QJ,QK,QL,QM,QN,QO,QP,QQ]
       exact ⟨x / 2,⟨by omega,by omega,gcd_even' hxg e1 hgo⟩,by simp only;omega,⟨[],rfl,by simp,by simp [setsA,keepA,SWeak,AWeak],by simp [HWeak,BWeak,SWeak,AWeak]⟩⟩
      ·simp (config:={maxSteps:=1000000}) (disch:=((try simp only [awL]);omega)) only [l1,e1,↓awU,awV,awF,Qa,Qb,Qc,Qd,forall_const,↓reduceIte,↓reduceDIte,↓Qe,Qf,Qg,Qh,Qi,Qj,Qk,Ql,Qm,Qn,Qo,Qp,Qq,Qr,Qs,implies_true,Qt,Qu,Qv,Qw,Qx,Qy,Qz,QA,QB,QC,QD,QE,QF,QG,QH,QI,QJ,QK,QL,QM,QN,QO,QP,QQ]
       exact ⟨x,⟨hx,hxa,hxg⟩,⟨[],rfl,by simp,by simp [setsA,keepA,SWeak,AWeak],by simp [HWeak,BWeak,SWeak,AWeak]⟩⟩
     ·rintro b' ⟨hb',hbb',hgb'⟩
      simp only [awK,Nat.reduceMod,Nat.reduceDiv,reduceIte]
      have q1:=le2 (show a'≤max a0 b0 by omega)
      have q2:=le2 (show b'≤max a0 b0 by omega)
      simp (config:={maxSteps:=1000000}) (disch:=((try simp only [awL]);omega)) only [↓awU,awV,awF,Qa,Qb,Qc,Qd,forall_const,↓reduceIte,↓reduceDIte,↓Qe,Qf,Qg,Qh,Qi,Qj,Qk,Ql,Qm,Qn,Qo,Qp,Qq,Qr,Qs,implies_true,Qt,Qu,Qv,Qw,Qx,Qy,Qz,QA,QB,QC,QD,QE,QF,QG,QH,QI,QJ,QK,QL,QM,QN,QO,QP,QQ]
      refine CallC.pure (rcmp_spec a' b' (by omega) (by omega)) ?_
      by_cases hc:b'<a'
      ·have hci:cmpI (a':Int) b'=1:=cmpI_gt (by omega)
       simp (config:={maxSteps:=1000000}) (disch:=((try simp only [awL]);omega)) only [hci,↓awU,awV,awF,Qa,Qb,Qc,Qd,forall_const,↓reduceIte,↓reduceDIte,↓Qe,Qf,Qg,Qh,Qi,Qj,Qk,Ql,Qm,Qn,Qo,Qp,Qq,Qr,Qs,implies_true,Qt,Qu,Qv,Qw,Qx,Qy,Qz,QA,QB,QC,QD,QE,QF,QG,QH,QI,QJ,QK,QL,QM,QN,QO,QP,QQ]
       refine CallC.pure (rsub_spec a' b' (by omega) (by omega)) ?_
       simp (config:={maxSteps:=1000000}) (disch:=((try simp only [awL]);omega)) only [↓awU,awV,awF,Qa,Qb,Qc,Qd,forall_const,↓reduceIte,↓reduceDIte,↓Qe,Qf,Qg,Qh,Qi,Qj,Qk,Ql,Qm,Qn,Qo,Qp,Qq,Qr,Qs,implies_true,Qt,Qu,Qv,Qw,Qx,Qy,Qz,QA,QB,QC,QD,QE,QF,QG,QH,QI,QJ,QK,QL,QM,QN,QO,QP,QQ]
       exact ⟨(b',a' - b'),⟨hb',by simp only;omega,by simp only;omega,by simp only;rw [Nat.gcd_sub_self_right (by omega),Nat.gcd_comm];exact hgb'⟩,by simp only;omega,⟨[],rfl,by simp,by simp [setsA,keepA,SWeak,AWeak],by simp [HWeak,BWeak,SWeak,AWeak]⟩⟩
      ·have hci:¬ cmpI (a':Int) b' > 0:=by unfold cmpI;split<;>first | omega | (split<;>omega)
       simp (config:={maxSteps:=1000000}) (disch:=((try simp only [awL]);omega)) only [hci,↓awU,awV,awF,Qa,Qb,Qc,Qd,forall_const,↓reduceIte,↓reduceDIte,↓Qe,Qf,Qg,Qh,Qi,Qj,Qk,Ql,Qm,Qn,Qo,Qp,Qq,Qr,Qs,implies_true,Qt,Qu,Qv,Qw,Qx,Qy,Qz,QA,QB,QC,QD,QE,QF,QG,QH,QI,QJ,QK,QL,QM,QN,QO,QP,QQ]
       refine CallC.pure (rsub_spec b' a' (by omega) (by omega)) ?_
       simp (config:={maxSteps:=1000000}) (disch:=((try simp only [awL]);omega)) only [↓awU,awV,awF,Qa,Qb,Qc,Qd,forall_const,↓reduceIte,↓reduceDIte,↓Qe,Qf,Qg,Qh,Qi,Qj,Qk,Ql,Qm,Qn,Qo,Qp,Qq,Qr,Qs,implies_true,Qt,Qu,Qv,Qw,Qx,Qy,Qz,QA,QB,QC,QD,QE,QF,QG,QH,QI,QJ,QK,QL,QM,QN,QO,QP,QQ]
       exact ⟨(a',b' - a'),⟨ha',by simp only;omega,by simp only;omega,by simp only;rw [Nat.gcd_sub_self_right (by omega)];exact hgb'⟩,by simp only;omega,⟨[],rfl,by simp,by simp [setsA,keepA,SWeak,AWeak],by simp [HWeak,BWeak,SWeak,AWeak]⟩⟩
  ·rintro ⟨⟩ -
   simp only [awK,Nat.reduceMod,Nat.reduceDiv,reduceIte]
   simp (config:={maxSteps:=1000000}) (disch:=((try simp only [awL]);omega)) only [↓awU,awV,awF,Qa,Qb,Qc,Qd,forall_const,↓reduceIte,↓reduceDIte,↓Qe,Qf,Qg,Qh,Qi,Qj,Qk,Ql,Qm,Qn,Qo,Qp,Qq,Qr,Qs,implies_true,Qt,Qu,Qv,Qw,Qx,Qy,Qz,QA,QB,QC,QD,QE,QF,QG,QH,QI,QJ,QK,QL,QM,QN,QO,QP,QQ]
   refine LoopC.fx 0 (α:=Nat × Nat) (β:=Unit) (fun x=>x.2) (fun x=>[(0,.d (W (toW x.1))),(5,.d (.int .i64 x.2))])
    (fun _=>[]) (fun x=>x.1*2 ^ x.2=g*2 ^ K∧x.2≤K) 0 (fun _=>[(0,.d (W (toW (g*2 ^ K))))]) (fun _=>[]) (fun _=>True) (g,K) ⟨rfl,Nat.le_refl _⟩ ?_ ?_ ?_
   ·exact ⟨[],rfl,by simp,by simp [setsA,keepA,SWeak,AWeak],by simp [HWeak,BWeak,SWeak,AWeak]⟩
   ·rintro ⟨x,k⟩ ⟨hx,hk⟩
    simp only at hx hk
    simp only [awK,Nat.reduceMod,Nat.reduceDiv,reduceIte]
    rcases k with _ | k
    ·rw [Nat.pow_zero,Nat.mul_one] at hx
     subst hx
     simp (config:={maxSteps:=1000000}) (disch:=((try simp only [awL]);omega)) only [↓awU,awV,awF,Qa,Qb,Qc,Qd,forall_const,↓reduceIte,↓reduceDIte,↓Qe,Qf,Qg,Qh,Qi,Qj,Qk,Ql,Qm,Qn,Qo,Qp,Qq,Qr,Qs,implies_true,Qt,Qu,Qv,Qw,Qx,Qy,Qz,QA,QB,QC,QD,QE,QF,QG,QH,QI,QJ,QK,QL,QM,QN,QO,QP,QQ]
     exact ⟨(),trivial,⟨[],rfl,by simp,by simp [setsA,keepA,SWeak,AWeak],by simp [HWeak,BWeak,SWeak,AWeak]⟩⟩
    ·have q1:=le1 (Nat.le_trans (le_of_pow hx) hgl)
     simp (config:={maxSteps:=1000000}) (disch:=((try simp only [awL]);omega)) only [↓awU,awV,awF,Qa,Qb,Qc,Qd,forall_const,↓reduceIte,↓reduceDIte,↓Qe,Qf,Qg,Qh,Qi,Qj,Qk,Ql,Qm,Qn,Qo,Qp,Qq,Qr,Qs,implies_true,Qt,Qu,Qv,Qw,Qx,Qy,Qz,QA,QB,QC,QD,QE,QF,QG,QH,QI,QJ,QK,QL,QM,QN,QO,QP,QQ]
     refine CallC.pure (twice_spec x 0 (by decide) (by omega)) ?_
     simp (config:={maxSteps:=1000000}) (disch:=((try simp only [awL]);omega)) only [↓awU,awV,awF,Qa,Qb,Qc,Qd,forall_const,↓reduceIte,↓reduceDIte,↓Qe,Qf,Qg,Qh,Qi,Qj,Qk,Ql,Qm,Qn,Qo,Qp,Qq,Qr,Qs,implies_true,Qt,Qu,Qv,Qw,Qx,Qy,Qz,QA,QB,QC,QD,QE,QF,QG,QH,QI,QJ,QK,QL,QM,QN,QO,QP,QQ]
     refine ⟨(2*x,k),⟨?_,by simp only;omega⟩,Nat.lt_succ_self _,⟨[],rfl,by simp,by simp [setsA,keepA,SWeak,AWeak],by simp [HWeak,BWeak,SWeak,AWeak]⟩⟩
     rw [← hx,Nat.pow_succ']
     simp only
     rw [Nat.mul_comm 2 x,Nat.mul_assoc]
   ·rintro ⟨⟩ -
    simp only [awK,Nat.reduceMod,Nat.reduceDiv,reduceIte]
    simp (config:={maxSteps:=1000000}) (disch:=((try simp only [awL]);omega)) only [↓awU,awV,awF,Qa,Qb,Qc,Qd,forall_const,↓reduceIte,↓reduceDIte,↓Qe,Qf,Qg,Qh,Qi,Qj,Qk,Ql,Qm,Qn,Qo,Qp,Qq,Qr,Qs,implies_true,Qt,Qu,Qv,Qw,Qx,Qy,Qz,QA,QB,QC,QD,QE,QF,QG,QH,QI,QJ,QK,QL,QM,QN,QO,QP,QQ]
end Go.Proofs.YthbnileadffpiaaGreatDoor.Num
