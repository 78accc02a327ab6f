/-
  A world that lays the variables of typesSteps.
-/
import Derived.Test.YtdpjcghiegggbaaGreatDoorMb5
set_option linter.all false
open Go.Abs renaming HWeak→HW,BWeak→BW,SWeak→SW,AWeak→AW,setsA→sA,keepA→kA
open Go.Proofs.Tryz renaming prog→TP
set_option maxHeartbeats 64000000
set_option maxRecDepth 100000
open Go.Abs renaming purePost→Qe
open Nat renaming reduceAdd→Qu,reduceSub→Qv,reduceMul→Qw,reducePow→Qx,reduceDiv→Qy,reduceMod→Qz,reduceEqDiff→QI,reduceBEq→QK
open Int renaming reduceAdd→QA,reduceSub→QB,reduceMul→QC,reducePow→QD,reduceNeg→QE,reduceToNat→QF,reduceLT→QG,reduceLE→QH
namespace Go.Proofs.YtdpjcghiegggbaaGreatDoor
open Go Go.Proofs Go.Abs Go.RowKit Go.ChangeShapes Go.WideShapes Go.ChangeAt
noncomputable def laidWorld_typesSteps (os:Os):World :=
 {World.holding TP os ⟨#[.cells #[.string ⟨#[118,97,108,117,101,32,111,117,116,32,111,102,32,114,97,110,103,101]⟩] 224,.cells #[.string ⟨#[105,110,118,97,108,105,100,32,115,121,110,116,97,120]⟩] 224,.cells #[.int .u32 1] 106],#[],[]⟩ with heap:=((((((((((World.holding TP os ⟨#[.cells #[.string ⟨#[118,97,108,117,101,32,111,117,116,32,111,102,32,114,97,110,103,101]⟩] 224,.cells #[.string ⟨#[105,110,118,97,108,105,100,32,115,121,110,116,97,120]⟩] 224,.cells #[.int .u32 1] 106],#[],[]⟩).heap.modify 9 fun
   | .cells _ t frozen=>.cells #[.int .u8 0,.int .u8 1,.int .u8 28,.int .u8 2,.int .u8 29,.int .u8 14,.int .u8 24,.int .u8 3,.int .u8 30,.int .u8 22,.int .u8 20,.int .u8 15,.int .u8 25,.int .u8 17,.int .u8 4,.int .u8 8,.int .u8 31,.int .u8 27,.int .u8 13,.int .u8 23,.int .u8 21,.int .u8 19,.int .u8 16,.int .u8 7,.int .u8 26,.int .u8 12,.int .u8 18,.int .u8 6,.int .u8 11,.int .u8 5,.int .u8 10,.int .u8 9] t frozen
   | o=>o).modify 10 fun
   | .cells _ t frozen=>.cells #[.int .u8 0,.int .u8 1,.int .u8 56,.int .u8 2,.int .u8 57,.int .u8 49,.int .u8 28,.int .u8 3,.int .u8 61,.int .u8 58,.int .u8 42,.int .u8 50,.int .u8 38,.int .u8 29,.int .u8 17,.int .u8 4,.int .u8 62,.int .u8 47,.int .u8 59,.int .u8 36,.int .u8 45,.int .u8 43,.int .u8 51,.int .u8 22,.int .u8 53,.int .u8 39,.int .u8 33,.int .u8 30,.int .u8 24,.int .u8 18,.int .u8 12,.int .u8 5,.int .u8 63,.int .u8 55,.int .u8 48,.int .u8 27,.int .u8 60,.int .u8 41,.int .u8 37,.int .u8 16,.int .u8 46,.int .u8 35,.int .u8 44,.int .u8 21,.int .u8 52,.int .u8 32,.int .u8 23,.int .u8 11,.int .u8 54,.int .u8 26,.int .u8 40,.int .u8 15,.int .u8 34,.int .u8 20,.int .u8 31,.int .u8 10,.int .u8 25,.int .u8 14,.int .u8 19,.int .u8 9,.int .u8 13,.int .u8 8,.int .u8 7,.int .u8 6] t frozen
   | o=>o).modify 2 fun
   | .cells _ t frozen=>.cells #[.int .u64 1,.int .u64 10,.int .u64 100,.int .u64 1000,.int .u64 10000,.int .u64 100000,.int .u64 1000000,.int .u64 10000000,.int .u64 100000000,.int .u64 1000000000,.int .u64 10000000000,.int .u64 100000000000,.int .u64 1000000000000,.int .u64 10000000000000,.int .u64 100000000000000,.int .u64 1000000000000000,.int .u64 10000000000000000,.int .u64 100000000000000000,.int .u64 1000000000000000000,.int .u64 10000000000000000000] t frozen
   | o=>o).modify 7 fun
   | .cells _ t frozen=>.cells #[.int .u8 128,.int .u8 191,.int .u8 160,.int .u8 191,.int .u8 128,.int .u8 159,.int .u8 144,.int .u8 191,.int .u8 128,.int .u8 143,.int .u8 0,.int .u8 0,.int .u8 0,.int .u8 0,.int .u8 0,.int .u8 0,.int .u8 0,.int .u8 0,.int .u8 0,.int .u8 0,.int .u8 0,.int .u8 0,.int .u8 0,.int .u8 0,.int .u8 0,.int .u8 0,.int .u8 0,.int .u8 0,.int .u8 0,.int .u8 0,.int .u8 0,.int .u8 0] t frozen
   | o=>o).modify 5 fun
   | .cells _ t frozen=>.cells #[.iface 222 (.pointer (some ⟨(World.settled TP os).heap.size,0,none⟩))] t frozen
   | o=>o).modify 4 fun
   | .cells _ t frozen=>.cells #[.iface 222 (.pointer (some ⟨(World.settled TP os).heap.size+1,0,none⟩))] t frozen
   | o=>o).modify 1 fun
   | .cells _ t frozen=>.cells #[.slice (some ⟨(World.settled TP os).heap.size+2,0,none⟩) 1 1] t frozen
   | o=>o).modify 0 fun
   | .cells _ t frozen=>.cells #[.int .i64 2,.int .i64 3,.int .i64 4,.int .i64 5,.int .i64 1] t frozen
   | o=>o).modify 6 fun
   | .cells _ t frozen=>.cells (Go.Pinned.utf8FirstZ.map fun (n:Nat)=>Value.int .u8 (n:Int)).toArray t frozen
   | o=>o)}
theorem laid_met_typesSteps (os:Os) (args:Array Value):laidMet TP [("math/bits.deBruijn32tab",Rows.laid_math_bits_deBruijn32tab),("math/bits.deBruijn64tab",Rows.laid_math_bits_deBruijn64tab),("internal/strconv.uint64pow10",Rows.laid_internal_strconv_uint64pow10),("unicode/utf8.acceptRanges",Rows.laid_unicode_utf8_acceptRanges),("strconv.ErrRange",Rows.laid_strconv_ErrRange),("strconv.ErrSyntax",Rows.laid_strconv_ErrSyntax),("tablefinder/fraction.one",Rows.laid_tablefinder_fraction_one),("tablefinder/types.order",Rows.laid_tablefinder_types_order),("unicode/utf8.first",Rows.laid_unicode_utf8_first)] ((laidWorld_typesSteps os).forCall (fun _ _=>0) ⟨#[],args,[]⟩).memory :=
 laidMet_of_run' 8 (by kernel_rfl) (by kernel_rfl)
end Go.Proofs.YtdpjcghiegggbaaGreatDoor
namespace Go.Proofs.YtdpjcghiegggbaaGreatDoor
open Go Go.Proofs Go.Abs Go.RowKit Go.ChangeShapes Go.WideShapes Go.ChangeAt Go.Joins Go.Deep
theorem bulk_part {H:Type} {d:DataW H}:∀ {l:List (DataW H)},d∈l→Rows.uptoBulk d≤Rows.uptoBulkAll l
 | [],h=>by cases h
 | x::r,h=>by
   simp only [Rows.uptoBulkAll]
   rcases List.mem_cons.1 h with e | e
   ·subst e;omega
   ·have:=bulk_part e;omega
theorem bulk_le {H:Type} {l:List (DataW H)} (hk:Rows.uptoSmall H l=true):Rows.uptoBulkAll l≤1048576:=of_decide_eq_true hk
theorem bulk_of {H:Type} {l:List (DataW H)} {d:DataW H} (hk:Rows.uptoSmall H l=true) (h:d∈l):Rows.uptoBulk d≤1048576:=Nat.le_trans (bulk_part h) (bulk_le hk)
theorem bulk_str {H:Type} {x:List UInt8} (h:Rows.uptoBulk (DataW.lit (H:=H) (.string (bs x).data.toList))≤1048576):x.length≤1048576:=by
 simp only [Rows.uptoBulk] at h
 have e:(bs x).data.toList.length=x.length:=by rw [Array.length_toList];first | done | rfl | exact bs_size
 omega
theorem flat_at {α:Type} {k:Nat} {toD:α→List D} (hk:∀ a,(toD a).length=k):∀ {l:List α} {j:Nat} {x:D},(l.flatMap toD)[j]? = some x→∃ i q a,j=i*k+q∧i<l.length∧l[i]? = some a∧(toD a)[q]? = some x
 | [],j,x,h=>by simp at h
 | a::l,j,x,h=>by
   rw [List.flatMap_cons] at h
   rcases Nat.lt_or_ge j k with h1 | h1
   ·rw [List.getElem?_append_left (by rw [hk];exact h1)] at h
    exact ⟨0,j,a,by simp,by simp,rfl,h⟩
   ·rw [List.getElem?_append_right (by rw [hk];exact h1),hk] at h
    obtain ⟨i,q,b,e1,e2,e3,e4⟩:=flat_at hk h
    refine ⟨i+1,q,b,?_,by simpa using e2,by simpa using e3,e4⟩
    rw [Nat.add_mul,Nat.one_mul];omega
theorem open_recs {α:Type} {H:Type} {enc:TypeId × Value→H} {P:Program} {W:World} {base:Nat} {held:Bool} {t e:TypeId} {fuel:Nat} {v:Value} {x:DataW H × List MemPlace} (k:Nat) (toD:α→List D) (d0:α) (Q:α→DataW H→Prop)
  (hk1:1≤k) (hk:∀ a,(toD a).length=k) (hone:∀ a,∀ y∈toD a,y.one=true) (hce:P.cellsOf e=k)
  (el:∀ n cs' d p,DataW.trod enc P W base (fun _=>true) held n e cs'=some (d,p)→∃ a,Q a d∧∀ (j:Nat) y,(toD a)[j]? = some y→∃ u,cs'[j]? = some u∧RD (heldW W) u y)
  (ht:P.underlying t=some (.slice e)) (hv:∃ a n c,v=.slice a n c) (h:DataW.trod enc P W base (fun _=>true) held fuel t v.cells.toList=some x) :
  ∃ l:List α,R (heldW W) (fun _=>none) v (.d (.sl l.length false (l.flatMap toD)))∧l.length≤maxLen∧∀ a∈l,∃ d,Q a d∧Rows.uptoBulk d≤Rows.uptoBulk x.1:=by
 obtain ⟨a,n,c,rfl⟩:=hv
 rcases open_slice ht h with ⟨hcs,_⟩ | ⟨ad,len,cap,m,nn,D',Pl,hcs,hb,hl,hm,hmm,hxx,hx⟩
 ·simp [Value.cells] at hcs
  obtain ⟨rfl,rfl,rfl⟩:=hcs
  exact ⟨[],.d _ _ (.sl0 _ _),by simp,by simp⟩
 ·simp [Value.cells] at hcs
  obtain ⟨rfl,rfl,rfl⟩:=hcs
  subst hxx
  simp only [if_true] at hmm
  have each:∀ i,i<n→∃ a:α,(Q a (D' i))∧∀ (j:Nat) y,(toD a)[j]? = some y→∃ u,W.cell? (ad.add (i*k+j))=some u∧RD (heldW W) u y:=by
   intro i hi
   obtain ⟨cs',h1,h2⟩:=hx i (by omega)
   obtain ⟨a,q1,q2⟩:=el nn cs' (D' i) (Pl i) h2
   refine ⟨a,q1,fun j y hy=>?_⟩
   obtain ⟨u,u1,u2⟩:=q2 j y hy
   have hj:j<k:=by have:=(List.getElem?_eq_some_iff.1 hy).1;rw [hk] at this;exact this
   rw [hce] at h1
   have:=(World.cells?_some h1).2.2 j hj
   rw [Addr.add_add,u1] at this
   exact ⟨u,this,u2⟩
  have:Inhabited α:=⟨d0⟩
  obtain ⟨F,hF⟩:=choose_lt each
  have gl:((List.range n).map F).length=n:=by simp
  refine ⟨(List.range n).map F,?_,by rw [gl];omega,fun r hr=>?_⟩
  ·rw [gl]
   rcases Nat.eq_zero_or_pos c with h1 | h1
   ·obtain rfl:n=0:=by omega
    rw [h1]
    exact .d _ _ (.sl0 _ _)
   ·obtain ⟨b,off,spot⟩:=ad
    have hs:spot=none:=by
     obtain ⟨cs',g1,g2⟩:=hx 0 (by omega)
     rw [hce] at g1
     obtain ⟨_,g3,g4⟩:=World.cells?_some g1
     have g5:=g4 0 (by omega)
     rw [List.getElem?_eq_getElem (by omega)] at g5
     simpa [Addr.add] using World.cell?_spot g5
    subst hs
    have ade:∀ j,Addr.add ⟨b,off,none⟩ j=⟨b,off+j,none⟩:=fun j=>by unfold Addr.add;split<;>simp_all
    have val:∀ (j:Nat) y,(((List.range n).map F).flatMap toD)[j]? = some y→∃ u,W.cell? ⟨b,off+j,none⟩=some u∧RD (heldW W) u y:=by
     intro j y hy
     obtain ⟨i,q,a,e1,e2,e3,e4⟩:=flat_at hk hy
     rw [gl] at e2
     rw [List.getElem?_map,List.getElem?_range e2] at e3
     cases e3
     obtain ⟨u,u1,u2⟩:=(hF i e2).2 q y e4
     rw [ade] at u1
     exact ⟨u,by rw [e1];exact u1,u2⟩
    refine .d _ _ (.sl b off n c false _ (fun j=>(W.cell? ⟨b,off+j,none⟩).getD undef) hl (fun h=>by cases h) (fun j y hy=>?_) (fun j y hy=>?_) (fun j y hy=>?_))
    ·obtain ⟨u,u1,_⟩:=val j y hy
     show W.cell? ⟨b,off+j,none⟩=some ((W.cell? ⟨b,off+j,none⟩).getD undef)
     rw [u1];rfl
    ·obtain ⟨u,u1,u2⟩:=val j y hy
     rw [u1];exact u2
    ·obtain ⟨i,q,a,_,_,_,e4⟩:=flat_at hk hy
     exact hone a y (List.mem_of_getElem? e4)
  ·obtain ⟨i,hi,rfl⟩:=List.mem_map.1 hr
   have hi:=List.mem_range.1 hi
   refine ⟨D' i,(hF i hi).1,?_⟩
   have:=bulk_part (d:=D' i) (l:=(List.range n).map D') (List.mem_map.2 ⟨i,List.mem_range.2 hi,rfl⟩)
   simp only [Rows.uptoBulk]
   omega
theorem cBool1:Tryz.prog.cellsOf 4=1:=by kernel_rfl
theorem cStr1':Tryz.prog.cellsOf 9=1:=by kernel_rfl
theorem open_cellsB {H:Type} {enc:TypeId × Value→H} {W:World} {base:Nat} {held:Bool} {fuel:Nat} {v:Value} {x:DataW H × List MemPlace}
  (hv:∃ a n c,v=.slice a n c) (h:DataW.trod enc TP W base (fun _=>true) held fuel 46 v.cells.toList=some x) (hB:Rows.uptoBulk x.1≤1048576) :
  ∃ l:List Cel,R (heldW W) (fun _=>none) v (.d (CelS l false))∧l.length≤maxLen∧∀ a∈l,a.1.length≤1048576:=by
 obtain ⟨l,h1,h2,h3⟩:=open_recs (α:=Cel) 2 CelC noC (fun a d=>a.1.length+1≤Rows.uptoBulk d) (by decide) (fun _=>rfl) (fun a y hy=>by
   simp only [List.mem_cons,List.not_mem_nil,or_false] at hy
   rcases hy with rfl | rfl<;>rfl) (by kernel_rfl) (fun n cs' d p ht=>by
  obtain ⟨xs,m,rfl,hx,hl,hn,he⟩:=DataW.trod_struct Tryz.underlying51 ht
  have e0:=he 0 _ rfl
  have e1:=he 1 _ rfl
  have hn2:xs.length=2:=hn
  have x0:xs[0]? = some xs[0]:=List.getElem?_eq_getElem (by omega)
  have x1:xs[1]? = some xs[1]:=List.getElem?_eq_getElem (by omega)
  rw [x0] at e0
  rw [x1] at e1
  obtain ⟨b,c0,y0⟩:=DataW.trod_bool Tryz.underlying4 e0
  obtain ⟨s,c1,y1,_⟩:=DataW.trod_string Tryz.underlying9 e1
  refine ⟨(s.data.toList,b),?_,fun j y hy=>?_⟩
  ·have hd:d=.agg (xs.map (·.1)):=by injection hx
   have hm:(DataW.lit (H:=H) (.string s.data.toList))∈xs.map (·.1):=List.mem_map.2 ⟨xs[1],List.getElem_mem _,by rw [y1]⟩
   have:=bulk_part hm
   rw [hd]
   simp only [Rows.uptoBulk] at this ⊢
   omega
  ·rcases j with _ | _ | j
   ·cases hy
    refine ⟨.bool b,?_,.bool _⟩
    have:=congrArg (·[0]?) c0
    simpa [List.getElem?_take,List.getElem?_drop,cBool1] using this
   ·cases hy
    refine ⟨.string s,?_,?_⟩
    ·have:=congrArg (·[0]?) c1
     simpa [List.getElem?_take,List.getElem?_drop,cStr1'] using this
    ·have:S s.data.toList=.str s:=by show D.str (bs s.data.toList)=.str s;rw [← bs_of s]
     rw [this];exact .str _
   ·cases hy) Tryz.underlying46 hv h
 exact ⟨l,h1,h2,fun a ha=>by obtain ⟨d,q1,q2⟩:=h3 a ha;omega⟩
end Go.Proofs.YtdpjcghiegggbaaGreatDoor
namespace Go.Proofs.YtdpjcghiegggbaaGreatDoor
open Go Go.Proofs Go.Abs
variable {G:Globals}
theorem tk_snoc {s:List UInt8} {i:Nat} (h:i<s.length):s.take (i+1)=s.take i++[s.getD i 0]:=by
 rw [List.take_add_one,List.getD_eq_getElem?_getD,List.getElem?_eq_getElem h];rfl
theorem mem_at {s:List UInt8} {i:Nat} (h:i<s.length):s.getD i 0∈s:=by
 rw [List.getD_eq_getElem?_getD,List.getElem?_eq_getElem h];exact List.getElem_mem h
theorem two_spec (s:List UInt8) (hs:s.length≤8):Ctr TP G 85 [.d (S s)] [] (.d (.int .i64 (twoR s))) []:=by
 obtain ⟨r,hr⟩:∃ r,r=twoR s:=⟨_,rfl⟩
 rw [← hr]
 unfold twoR at hr
 refine Ctr.pure (M:=M0) hmix Tryz.func85 rfl go85 ?_
 simp (config:={maxSteps:=1000000}) (disch:=(try simp only [awL]);omega) only [awS,Tryz.f85,↓awU,awV,awX,awF,↓reduceIte,↓reduceDIte,↓Qe,Qu,Qv,Qw,Qx,Qy,Qz,QA,QB,QC,QD,QE,QF,QG,QH,QI,QK]
 refine LoopC.fr 1 (α:=Nat) (fun i=>s.length - i) (fun i=>[(3,.d (.int .i64 (dgV (s.take i):Nat))),(4,.d (.int .i64 (i:Nat)))]) (fun _=>[]) (fun i=>i≤s.length∧∀ b∈s.take i,dgB b=true) 0 ⟨Nat.zero_le _,fun b h=>by simp at h⟩ ?_ ?_
 ·exact ⟨[],rfl,by simp,by simp [sA,kA,SW,AW,dgV],by simp [HW,BW,SW,AW]⟩
 ·rintro i ⟨h1,h2⟩
  have lt:=dgV_lt i (s.take i) (by rw [List.length_take];omega) h2
  have lt8:dgV (s.take i)<100000000:=Nat.lt_of_lt_of_le lt (Nat.le_trans (Nat.pow_le_pow_right (by decide) (show i≤8 by omega)) (by decide))
  clear lt
  simp only [awK,Nat.reduceMod,Nat.reduceDiv,reduceIte]
  rcases Nat.lt_or_ge i s.length with h | h
  ·have sn:=dgV_snoc (s.take i) (s.getD i 0)
   rw [← tk_snoc h] at sn
   have md:∀ b∈s.take (i+1),dgB b=true∨b=s.getD i 0:=fun b hb=>by
    rw [tk_snoc h] at hb
    rcases List.mem_append.1 hb with q | q
    ·exact .inl (h2 b q)
    ·exact .inr (List.mem_singleton.1 q)
   have ma:=mem_at h
   have hc:=(s.getD i 0).toNat_lt
   obtain ⟨c,gc⟩:∃ c,(s.getD i 0).toNat=c:=⟨_,rfl⟩
   have gd:dgB (s.getD i 0)=decide (48≤c∧c≤57):=by unfold dgB;rw [gc]
   rw [gc] at sn hc
   obtain ⟨n1,hn1⟩:∃ n1,n1=dgV (s.take (i+1)):=⟨_,rfl⟩
   rw [← hn1] at sn
   generalize dgV (s.take i)=n0 at *
   rcases (by omega:c<48∨57<c∨(48≤c∧c≤57)) with q | q | ⟨q1,q2⟩
   ·rw [if_neg (fun a=>by have:=List.all_eq_true.1 a _ ma;rw [gd] at this;have:=of_decide_eq_true this;omega)] at hr
    subst hr
    simp (config:={maxSteps:=1000000}) (disch:=(try simp only [awL]);omega) only [awS,gc,↓awU,awV,awX,awF,↓reduceIte,↓reduceDIte,↓Qe,Qu,Qv,Qw,Qx,Qy,Qz,QA,QB,QC,QD,QE,QF,QG,QH,QI,QK]
    first | done | rfl
   ·rw [if_neg (fun a=>by have:=List.all_eq_true.1 a _ ma;rw [gd] at this;have:=of_decide_eq_true this;omega)] at hr
    subst hr
    simp (config:={maxSteps:=1000000}) (disch:=(try simp only [awL]);omega) only [awS,gc,↓awU,awV,awX,awF,↓reduceIte,↓reduceDIte,↓Qe,Qu,Qv,Qw,Qx,Qy,Qz,QA,QB,QC,QD,QE,QF,QG,QH,QI,QK]
    first | done | rfl
   ·have ec:((c:Int) - 48)=((c - 48:Nat):Int):=by omega
    have en:(10:Int)*(n0:Int)+((c - 48:Nat):Int)=(n1:Int):=by omega
    simp (config:={maxSteps:=1000000}) (disch:=(try simp only [awL]);omega) only [awS,gc,ec,en,↓awU,awV,awX,awF,↓reduceIte,↓reduceDIte,↓Qe,Qu,Qv,Qw,Qx,Qy,Qz,QA,QB,QC,QD,QE,QF,QG,QH,QI,QK]
    first
    | exact ⟨i+1,⟨h,fun b hb=>by rcases md b hb with z | z;exact z;rw [z,gd];exact decide_eq_true ⟨q1,q2⟩⟩,by simp only;omega,⟨[],rfl,by simp,by simp [sA,kA,SW,AW,← hn1],by simp [HW,BW,SW,AW]⟩⟩
  ·have e:i=s.length:=by omega
   subst e
   rw [List.take_length] at h2 lt8
   rw [if_pos (List.all_eq_true.2 h2)] at hr
   subst hr
   simp (config:={maxSteps:=1000000}) (disch:=(try simp only [awL]);omega) only [awS,List.take_length,↓awU,awV,awX,awF,↓reduceIte,↓reduceDIte,↓Qe,Qu,Qv,Qw,Qx,Qy,Qz,QA,QB,QC,QD,QE,QF,QG,QH,QI,QK]
   first | done | rfl
theorem twoR_rng (s:List UInt8) (hs:s.length≤8):-1≤twoR s∧twoR s<100000000:=by
 unfold twoR
 split
 ·rename_i h
  have lt:=dgV_lt s.length s rfl (List.all_eq_true.1 h)
  have:dgV s<100000000:=Nat.lt_of_lt_of_le lt (Nat.le_trans (Nat.pow_le_pow_right (by decide) hs) (by decide))
  omega
 ·omega
theorem byt {b c:UInt8} {n:Int} (h:b=c) (hn:(c.toNat:Int)=n):((b.toNat:Int)=n)=True:=eq_true (by rw [h];exact hn)
theorem byf {b c:UInt8} {n:Int} (h:¬ b=c) (hn:(c.toNat:Int)=n):((b.toNat:Int)=n)=False:=eq_false (fun q=>h (UInt8.toNat_inj.1 (by omega)))
def D4E (x:D4):D:=.tup [.int .i64 x.1,.int .i64 x.2.1,.int .i64 x.2.2.1,.bool x.2.2.2]
theorem rdtx_spec (t:List UInt8) (ht:t.length≤1000000000):Ctr TP G 58 [.d (S t)] [] (.d (D4E (rdt t))) []:=by
 obtain ⟨r,hr⟩:∃ r,r=rdt t:=⟨_,rfl⟩
 rw [← hr]
 refine Ctr.pure (M:=M0) hmix Tryz.func58 rfl go58 ?_
 unfold rdt isoT dotT at hr
 by_cases l:t.length=10
 ·rw [if_pos l] at hr
  have l1:(t.take 4).length≤8:=by rw [List.length_take];omega
  have l2:((t.drop 5).take 2).length≤8:=by rw [List.length_take];omega
  have l3:(t.drop 8).length≤8:=by rw [List.length_drop];omega
  have m1:(t.drop 6).length≤8:=by rw [List.length_drop];omega
  have m2:((t.drop 3).take 2).length≤8:=by rw [List.length_take];omega
  have m3:(t.take 2).length≤8:=by rw [List.length_take];omega
  have s1:=two_spec (G:=G) _ l1
  have s2:=two_spec (G:=G) _ l2
  have s3:=two_spec (G:=G) _ l3
  have u1:=two_spec (G:=G) _ m1
  have u2:=two_spec (G:=G) _ m2
  have u3:=two_spec (G:=G) _ m3
  have s57:List.drop 5 (List.take 7 t)=List.take 2 (List.drop 5 t):=by rw [List.drop_take]
  have s35:List.drop 3 (List.take 5 t)=List.take 2 (List.drop 3 t):=by rw [List.drop_take]
  obtain ⟨r1,r1'⟩:=twoR_rng _ l1
  obtain ⟨r2,r2'⟩:=twoR_rng _ l2
  obtain ⟨r3,r3'⟩:=twoR_rng _ l3
  obtain ⟨w1,w1'⟩:=twoR_rng _ m1
  obtain ⟨w2,w2'⟩:=twoR_rng _ m2
  obtain ⟨w3,w3'⟩:=twoR_rng _ m3
  have dy:=rday_spec (G:=G) (twoR (t.take 4)) (twoR ((t.drop 5).take 2)) (twoR (t.drop 8)) (by omega) (by omega) (by omega) (by omega) (by omega) (by omega)
  have dz:=rday_spec (G:=G) (twoR (t.drop 6)) (twoR ((t.drop 3).take 2)) (twoR (t.take 2)) (by omega) (by omega) (by omega) (by omega) (by omega) (by omega)
  generalize twoR (t.take 4)=a1 at *
  generalize twoR ((t.drop 5).take 2)=a2 at *
  generalize twoR (t.drop 8)=a3 at *
  generalize twoR (t.drop 6)=b1 at *
  generalize twoR ((t.drop 3).take 2)=b2 at *
  generalize twoR (t.take 2)=b3 at *
  by_cases p4:t.getD 4 0=45
  ·have q4:¬ t.getD 4 0=47:=by rw [p4];decide
   by_cases p7:t.getD 7 0=45
   ·skip
    have p4':(((t.getD 4 0).toNat:Int)=45)=True:=byt p4 rfl
    have p7':(((t.getD 7 0).toNat:Int)=45)=True:=byt p7 rfl
    simp only [eq_true p4,eq_true p7,decide_true,decide_false,Bool.and_true,Bool.and_false,Bool.true_and,Bool.false_and,Bool.or_true,Bool.or_false,Bool.true_or,Bool.false_or,if_pos,Bool.false_eq_true,if_false,if_true] at hr
    subst hr
    simp (config:={maxSteps:=1000000}) (disch:=(try simp only [awL]);omega) only [awS,l,p4',p7',Tryz.f58,↓awU,awV,awX,awF,↓reduceIte,↓reduceDIte,↓Qe,Qu,Qv,Qw,Qx,Qy,Qz,QA,QB,QC,QD,QE,QF,QG,QH,QI,QK]
    refine CallC.of s1 (by first | rfl | (rw [s57]) | (rw [s35])) ?_
    simp (config:={maxSteps:=1000000}) (disch:=(try simp only [awL]);omega) only [awS,l,p4',p7',↓awU,awV,awX,awF,↓reduceIte,↓reduceDIte,↓Qe,Qu,Qv,Qw,Qx,Qy,Qz,QA,QB,QC,QD,QE,QF,QG,QH,QI,QK]
    refine CallC.of s2 (by first | rfl | (rw [s57]) | (rw [s35])) ?_
    simp (config:={maxSteps:=1000000}) (disch:=(try simp only [awL]);omega) only [awS,l,p4',p7',↓awU,awV,awX,awF,↓reduceIte,↓reduceDIte,↓Qe,Qu,Qv,Qw,Qx,Qy,Qz,QA,QB,QC,QD,QE,QF,QG,QH,QI,QK]
    refine CallC.of s3 (by first | rfl | (rw [s57]) | (rw [s35])) ?_
    simp (config:={maxSteps:=1000000}) (disch:=(try simp only [awL]);omega) only [awS,l,p4',p7',↓awU,awV,awX,awF,↓reduceIte,↓reduceDIte,↓Qe,Qu,Qv,Qw,Qx,Qy,Qz,QA,QB,QC,QD,QE,QF,QG,QH,QI,QK]
    try refine ⟨by rfl,?_⟩
    refine CallC.of dy (by first | rfl) ?_
    unfold mkDt
    simp (config:={maxSteps:=1000000}) (disch:=(try simp only [awL]);omega) only [awS,l,p4',p7',↓awU,awV,awX,awF,↓reduceIte,↓reduceDIte,↓Qe,Qu,Qv,Qw,Qx,Qy,Qz,QA,QB,QC,QD,QE,QF,QG,QH,QI,QK]
    first | done | rfl
   ·skip
    by_cases e2:t.getD 2 0=46
    ·by_cases e5:t.getD 5 0=46
     ·skip
      have p4':(((t.getD 4 0).toNat:Int)=45)=True:=byt p4 rfl
      have p7':(((t.getD 7 0).toNat:Int)=45)=False:=byf p7 rfl
      have q4':(((t.getD 4 0).toNat:Int)=47)=False:=byf q4 rfl
      have e2':(((t.getD 2 0).toNat:Int)=46)=True:=byt e2 rfl
      have e5':(((t.getD 5 0).toNat:Int)=46)=True:=byt e5 rfl
      simp only [eq_true p4,eq_false p7,eq_false q4,eq_true e2,eq_true e5,decide_true,decide_false,Bool.and_true,Bool.and_false,Bool.true_and,Bool.false_and,Bool.or_true,Bool.or_false,Bool.true_or,Bool.false_or,if_pos,Bool.false_eq_true,if_false,if_true] at hr
      subst hr
      simp (config:={maxSteps:=1000000}) (disch:=(try simp only [awL]);omega) only [awS,l,p4',p7',q4',e2',e5',Tryz.f58,↓awU,awV,awX,awF,↓reduceIte,↓reduceDIte,↓Qe,Qu,Qv,Qw,Qx,Qy,Qz,QA,QB,QC,QD,QE,QF,QG,QH,QI,QK]
      refine CallC.of u1 (by first | rfl | (rw [s57]) | (rw [s35])) ?_
      simp (config:={maxSteps:=1000000}) (disch:=(try simp only [awL]);omega) only [awS,l,p4',p7',q4',e2',e5',↓awU,awV,awX,awF,↓reduceIte,↓reduceDIte,↓Qe,Qu,Qv,Qw,Qx,Qy,Qz,QA,QB,QC,QD,QE,QF,QG,QH,QI,QK]
      refine CallC.of u2 (by first | rfl | (rw [s57]) | (rw [s35])) ?_
      simp (config:={maxSteps:=1000000}) (disch:=(try simp only [awL]);omega) only [awS,l,p4',p7',q4',e2',e5',↓awU,awV,awX,awF,↓reduceIte,↓reduceDIte,↓Qe,Qu,Qv,Qw,Qx,Qy,Qz,QA,QB,QC,QD,QE,QF,QG,QH,QI,QK]
      refine CallC.of u3 (by first | rfl | (rw [s57]) | (rw [s35])) ?_
      simp (config:={maxSteps:=1000000}) (disch:=(try simp only [awL]);omega) only [awS,l,p4',p7',q4',e2',e5',↓awU,awV,awX,awF,↓reduceIte,↓reduceDIte,↓Qe,Qu,Qv,Qw,Qx,Qy,Qz,QA,QB,QC,QD,QE,QF,QG,QH,QI,QK]
      try refine ⟨by rfl,?_⟩
      refine CallC.of dz (by first | rfl) ?_
      unfold mkDt
      simp (config:={maxSteps:=1000000}) (disch:=(try simp only [awL]);omega) only [awS,l,p4',p7',q4',e2',e5',↓awU,awV,awX,awF,↓reduceIte,↓reduceDIte,↓Qe,Qu,Qv,Qw,Qx,Qy,Qz,QA,QB,QC,QD,QE,QF,QG,QH,QI,QK]
      first | done | rfl
     ·skip
      have p4':(((t.getD 4 0).toNat:Int)=45)=True:=byt p4 rfl
      have p7':(((t.getD 7 0).toNat:Int)=45)=False:=byf p7 rfl
      have q4':(((t.getD 4 0).toNat:Int)=47)=False:=byf q4 rfl
      have e2':(((t.getD 2 0).toNat:Int)=46)=True:=byt e2 rfl
      have e5':(((t.getD 5 0).toNat:Int)=46)=False:=byf e5 rfl
      simp only [eq_true p4,eq_false p7,eq_false q4,eq_true e2,eq_false e5,decide_true,decide_false,Bool.and_true,Bool.and_false,Bool.true_and,Bool.false_and,Bool.or_true,Bool.or_false,Bool.true_or,Bool.false_or,if_pos,Bool.false_eq_true,if_false,if_true] at hr
      subst hr
      simp (config:={maxSteps:=1000000}) (disch:=(try simp only [awL]);omega) only [awS,l,p4',p7',q4',e2',e5',Tryz.f58,↓awU,awV,awX,awF,↓reduceIte,↓reduceDIte,↓Qe,Qu,Qv,Qw,Qx,Qy,Qz,QA,QB,QC,QD,QE,QF,QG,QH,QI,QK]
      first | done | rfl
    ·skip
     have p4':(((t.getD 4 0).toNat:Int)=45)=True:=byt p4 rfl
     have p7':(((t.getD 7 0).toNat:Int)=45)=False:=byf p7 rfl
     have q4':(((t.getD 4 0).toNat:Int)=47)=False:=byf q4 rfl
     have e2':(((t.getD 2 0).toNat:Int)=46)=False:=byf e2 rfl
     simp only [eq_true p4,eq_false p7,eq_false q4,eq_false e2,decide_true,decide_false,Bool.and_true,Bool.and_false,Bool.true_and,Bool.false_and,Bool.or_true,Bool.or_false,Bool.true_or,Bool.false_or,if_pos,Bool.false_eq_true,if_false,if_true] at hr
     subst hr
     simp (config:={maxSteps:=1000000}) (disch:=(try simp only [awL]);omega) only [awS,l,p4',p7',q4',e2',Tryz.f58,↓awU,awV,awX,awF,↓reduceIte,↓reduceDIte,↓Qe,Qu,Qv,Qw,Qx,Qy,Qz,QA,QB,QC,QD,QE,QF,QG,QH,QI,QK]
     first | done | rfl
  ·by_cases q4:t.getD 4 0=47
   ·by_cases q7:t.getD 7 0=47
    ·skip
     have p4':(((t.getD 4 0).toNat:Int)=45)=False:=byf p4 rfl
     have q4':(((t.getD 4 0).toNat:Int)=47)=True:=byt q4 rfl
     have q7':(((t.getD 7 0).toNat:Int)=47)=True:=byt q7 rfl
     simp only [eq_false p4,eq_true q4,eq_true q7,decide_true,decide_false,Bool.and_true,Bool.and_false,Bool.true_and,Bool.false_and,Bool.or_true,Bool.or_false,Bool.true_or,Bool.false_or,if_pos,Bool.false_eq_true,if_false,if_true] at hr
     subst hr
     simp (config:={maxSteps:=1000000}) (disch:=(try simp only [awL]);omega) only [awS,l,p4',q4',q7',Tryz.f58,↓awU,awV,awX,awF,↓reduceIte,↓reduceDIte,↓Qe,Qu,Qv,Qw,Qx,Qy,Qz,QA,QB,QC,QD,QE,QF,QG,QH,QI,QK]
     refine CallC.of s1 (by first | rfl | (rw [s57]) | (rw [s35])) ?_
     simp (config:={maxSteps:=1000000}) (disch:=(try simp only [awL]);omega) only [awS,l,p4',q4',q7',↓awU,awV,awX,awF,↓reduceIte,↓reduceDIte,↓Qe,Qu,Qv,Qw,Qx,Qy,Qz,QA,QB,QC,QD,QE,QF,QG,QH,QI,QK]
     refine CallC.of s2 (by first | rfl | (rw [s57]) | (rw [s35])) ?_
     simp (config:={maxSteps:=1000000}) (disch:=(try simp only [awL]);omega) only [awS,l,p4',q4',q7',↓awU,awV,awX,awF,↓reduceIte,↓reduceDIte,↓Qe,Qu,Qv,Qw,Qx,Qy,Qz,QA,QB,QC,QD,QE,QF,QG,QH,QI,QK]
     refine CallC.of s3 (by first | rfl | (rw [s57]) | (rw [s35])) ?_
     simp (config:={maxSteps:=1000000}) (disch:=(try simp only [awL]);omega) only [awS,l,p4',q4',q7',↓awU,awV,awX,awF,↓reduceIte,↓reduceDIte,↓Qe,Qu,Qv,Qw,Qx,Qy,Qz,QA,QB,QC,QD,QE,QF,QG,QH,QI,QK]
     try refine ⟨by rfl,?_⟩
     refine CallC.of dy (by first | rfl) ?_
     unfold mkDt
     simp (config:={maxSteps:=1000000}) (disch:=(try simp only [awL]);omega) only [awS,l,p4',q4',q7',↓awU,awV,awX,awF,↓reduceIte,↓reduceDIte,↓Qe,Qu,Qv,Qw,Qx,Qy,Qz,QA,QB,QC,QD,QE,QF,QG,QH,QI,QK]
     first | done | rfl
    ·skip
     by_cases e2:t.getD 2 0=46
     ·by_cases e5:t.getD 5 0=46
      ·skip
       have p4':(((t.getD 4 0).toNat:Int)=45)=False:=byf p4 rfl
       have q4':(((t.getD 4 0).toNat:Int)=47)=True:=byt q4 rfl
       have q7':(((t.getD 7 0).toNat:Int)=47)=False:=byf q7 rfl
       have e2':(((t.getD 2 0).toNat:Int)=46)=True:=byt e2 rfl
       have e5':(((t.getD 5 0).toNat:Int)=46)=True:=byt e5 rfl
       simp only [eq_false p4,eq_true q4,eq_false q7,eq_true e2,eq_true e5,decide_true,decide_false,Bool.and_true,Bool.and_false,Bool.true_and,Bool.false_and,Bool.or_true,Bool.or_false,Bool.true_or,Bool.false_or,if_pos,Bool.false_eq_true,if_false,if_true] at hr
       subst hr
       simp (config:={maxSteps:=1000000}) (disch:=(try simp only [awL]);omega) only [awS,l,p4',q4',q7',e2',e5',Tryz.f58,↓awU,awV,awX,awF,↓reduceIte,↓reduceDIte,↓Qe,Qu,Qv,Qw,Qx,Qy,Qz,QA,QB,QC,QD,QE,QF,QG,QH,QI,QK]
       refine CallC.of u1 (by first | rfl | (rw [s57]) | (rw [s35])) ?_
       simp (config:={maxSteps:=1000000}) (disch:=(try simp only [awL]);omega) only [awS,l,p4',q4',q7',e2',e5',↓awU,awV,awX,awF,↓reduceIte,↓reduceDIte,↓Qe,Qu,Qv,Qw,Qx,Qy,Qz,QA,QB,QC,QD,QE,QF,QG,QH,QI,QK]
       refine CallC.of u2 (by first | rfl | (rw [s57]) | (rw [s35])) ?_
       simp (config:={maxSteps:=1000000}) (disch:=(try simp only [awL]);omega) only [awS,l,p4',q4',q7',e2',e5',↓awU,awV,awX,awF,↓reduceIte,↓reduceDIte,↓Qe,Qu,Qv,Qw,Qx,Qy,Qz,QA,QB,QC,QD,QE,QF,QG,QH,QI,QK]
       refine CallC.of u3 (by first | rfl | (rw [s57]) | (rw [s35])) ?_
       simp (config:={maxSteps:=1000000}) (disch:=(try simp only [awL]);omega) only [awS,l,p4',q4',q7',e2',e5',↓awU,awV,awX,awF,↓reduceIte,↓reduceDIte,↓Qe,Qu,Qv,Qw,Qx,Qy,Qz,QA,QB,QC,QD,QE,QF,QG,QH,QI,QK]
       try refine ⟨by rfl,?_⟩
       refine CallC.of dz (by first | rfl) ?_
       unfold mkDt
       simp (config:={maxSteps:=1000000}) (disch:=(try simp only [awL]);omega) only [awS,l,p4',q4',q7',e2',e5',↓awU,awV,awX,awF,↓reduceIte,↓reduceDIte,↓Qe,Qu,Qv,Qw,Qx,Qy,Qz,QA,QB,QC,QD,QE,QF,QG,QH,QI,QK]
       first | done | rfl
      ·skip
       have p4':(((t.getD 4 0).toNat:Int)=45)=False:=byf p4 rfl
       have q4':(((t.getD 4 0).toNat:Int)=47)=True:=byt q4 rfl
       have q7':(((t.getD 7 0).toNat:Int)=47)=False:=byf q7 rfl
       have e2':(((t.getD 2 0).toNat:Int)=46)=True:=byt e2 rfl
       have e5':(((t.getD 5 0).toNat:Int)=46)=False:=byf e5 rfl
       simp only [eq_false p4,eq_true q4,eq_false q7,eq_true e2,eq_false e5,decide_true,decide_false,Bool.and_true,Bool.and_false,Bool.true_and,Bool.false_and,Bool.or_true,Bool.or_false,Bool.true_or,Bool.false_or,if_pos,Bool.false_eq_true,if_false,if_true] at hr
       subst hr
       simp (config:={maxSteps:=1000000}) (disch:=(try simp only [awL]);omega) only [awS,l,p4',q4',q7',e2',e5',Tryz.f58,↓awU,awV,awX,awF,↓reduceIte,↓reduceDIte,↓Qe,Qu,Qv,Qw,Qx,Qy,Qz,QA,QB,QC,QD,QE,QF,QG,QH,QI,QK]
       first | done | rfl
     ·skip
      have p4':(((t.getD 4 0).toNat:Int)=45)=False:=byf p4 rfl
      have q4':(((t.getD 4 0).toNat:Int)=47)=True:=byt q4 rfl
      have q7':(((t.getD 7 0).toNat:Int)=47)=False:=byf q7 rfl
      have e2':(((t.getD 2 0).toNat:Int)=46)=False:=byf e2 rfl
      simp only [eq_false p4,eq_true q4,eq_false q7,eq_false e2,decide_true,decide_false,Bool.and_true,Bool.and_false,Bool.true_and,Bool.false_and,Bool.or_true,Bool.or_false,Bool.true_or,Bool.false_or,if_pos,Bool.false_eq_true,if_false,if_true] at hr
      subst hr
      simp (config:={maxSteps:=1000000}) (disch:=(try simp only [awL]);omega) only [awS,l,p4',q4',q7',e2',Tryz.f58,↓awU,awV,awX,awF,↓reduceIte,↓reduceDIte,↓Qe,Qu,Qv,Qw,Qx,Qy,Qz,QA,QB,QC,QD,QE,QF,QG,QH,QI,QK]
      first | done | rfl
   ·skip
    by_cases e2:t.getD 2 0=46
    ·by_cases e5:t.getD 5 0=46
     ·skip
      have p4':(((t.getD 4 0).toNat:Int)=45)=False:=byf p4 rfl
      have q4':(((t.getD 4 0).toNat:Int)=47)=False:=byf q4 rfl
      have e2':(((t.getD 2 0).toNat:Int)=46)=True:=byt e2 rfl
      have e5':(((t.getD 5 0).toNat:Int)=46)=True:=byt e5 rfl
      simp only [eq_false p4,eq_false q4,eq_true e2,eq_true e5,decide_true,decide_false,Bool.and_true,Bool.and_false,Bool.true_and,Bool.false_and,Bool.or_true,Bool.or_false,Bool.true_or,Bool.false_or,if_pos,Bool.false_eq_true,if_false,if_true] at hr
      subst hr
      simp (config:={maxSteps:=1000000}) (disch:=(try simp only [awL]);omega) only [awS,l,p4',q4',e2',e5',Tryz.f58,↓awU,awV,awX,awF,↓reduceIte,↓reduceDIte,↓Qe,Qu,Qv,Qw,Qx,Qy,Qz,QA,QB,QC,QD,QE,QF,QG,QH,QI,QK]
      refine CallC.of u1 (by first | rfl | (rw [s57]) | (rw [s35])) ?_
      simp (config:={maxSteps:=1000000}) (disch:=(try simp only [awL]);omega) only [awS,l,p4',q4',e2',e5',↓awU,awV,awX,awF,↓reduceIte,↓reduceDIte,↓Qe,Qu,Qv,Qw,Qx,Qy,Qz,QA,QB,QC,QD,QE,QF,QG,QH,QI,QK]
      refine CallC.of u2 (by first | rfl | (rw [s57]) | (rw [s35])) ?_
      simp (config:={maxSteps:=1000000}) (disch:=(try simp only [awL]);omega) only [awS,l,p4',q4',e2',e5',↓awU,awV,awX,awF,↓reduceIte,↓reduceDIte,↓Qe,Qu,Qv,Qw,Qx,Qy,Qz,QA,QB,QC,QD,QE,QF,QG,QH,QI,QK]
      refine CallC.of u3 (by first | rfl | (rw [s57]) | (rw [s35])) ?_
      simp (config:={maxSteps:=1000000}) (disch:=(try simp only [awL]);omega) only [awS,l,p4',q4',e2',e5',↓awU,awV,awX,awF,↓reduceIte,↓reduceDIte,↓Qe,Qu,Qv,Qw,Qx,Qy,Qz,QA,QB,QC,QD,QE,QF,QG,QH,QI,QK]
      try refine ⟨by rfl,?_⟩
      refine CallC.of dz (by first | rfl) ?_
      unfold mkDt
      simp (config:={maxSteps:=1000000}) (disch:=(try simp only [awL]);omega) only [awS,l,p4',q4',e2',e5',↓awU,awV,awX,awF,↓reduceIte,↓reduceDIte,↓Qe,Qu,Qv,Qw,Qx,Qy,Qz,QA,QB,QC,QD,QE,QF,QG,QH,QI,QK]
      first | done | rfl
     ·skip
      have p4':(((t.getD 4 0).toNat:Int)=45)=False:=byf p4 rfl
      have q4':(((t.getD 4 0).toNat:Int)=47)=False:=byf q4 rfl
      have e2':(((t.getD 2 0).toNat:Int)=46)=True:=byt e2 rfl
      have e5':(((t.getD 5 0).toNat:Int)=46)=False:=byf e5 rfl
      simp only [eq_false p4,eq_false q4,eq_true e2,eq_false e5,decide_true,decide_false,Bool.and_true,Bool.and_false,Bool.true_and,Bool.false_and,Bool.or_true,Bool.or_false,Bool.true_or,Bool.false_or,if_pos,Bool.false_eq_true,if_false,if_true] at hr
      subst hr
      simp (config:={maxSteps:=1000000}) (disch:=(try simp only [awL]);omega) only [awS,l,p4',q4',e2',e5',Tryz.f58,↓awU,awV,awX,awF,↓reduceIte,↓reduceDIte,↓Qe,Qu,Qv,Qw,Qx,Qy,Qz,QA,QB,QC,QD,QE,QF,QG,QH,QI,QK]
      first | done | rfl
    ·skip
     have p4':(((t.getD 4 0).toNat:Int)=45)=False:=byf p4 rfl
     have q4':(((t.getD 4 0).toNat:Int)=47)=False:=byf q4 rfl
     have e2':(((t.getD 2 0).toNat:Int)=46)=False:=byf e2 rfl
     simp only [eq_false p4,eq_false q4,eq_false e2,decide_true,decide_false,Bool.and_true,Bool.and_false,Bool.true_and,Bool.false_and,Bool.or_true,Bool.or_false,Bool.true_or,Bool.false_or,if_pos,Bool.false_eq_true,if_false,if_true] at hr
     subst hr
     simp (config:={maxSteps:=1000000}) (disch:=(try simp only [awL]);omega) only [awS,l,p4',q4',e2',Tryz.f58,↓awU,awV,awX,awF,↓reduceIte,↓reduceDIte,↓Qe,Qu,Qv,Qw,Qx,Qy,Qz,QA,QB,QC,QD,QE,QF,QG,QH,QI,QK]
     first | done | rfl
 ·rw [if_neg l] at hr
  subst hr
  simp (config:={maxSteps:=1000000}) (disch:=(try simp only [awL]);omega) only [awS,Tryz.f58,↓awU,awV,awX,awF,↓reduceIte,↓reduceDIte,↓Qe,Qu,Qv,Qw,Qx,Qy,Qz,QA,QB,QC,QD,QE,QF,QG,QH,QI,QK]
  first | done | rfl
theorem rpadded_spec (n w:Nat) (hn:n<1000000000) (hw:w≤9):Ctr TP G 59 [.d (.int .i64 n),.d (.int .i64 w)] [] (.d (S (padN w n))) []:=by
 obtain ⟨r,hr⟩:∃ r,r=padN w n:=⟨_,rfl⟩
 rw [← hr]
 have hb0:ByteArray.empty=bs []:=rfl
 refine Ctr.pure (M:=M0) hmix Tryz.func59 rfl go59 ?_
 simp (config:={maxSteps:=1000000}) (disch:=(try simp only [awL]);omega) only [awS,Tryz.f59,↓awU,awV,awX,awF,↓reduceIte,↓reduceDIte,↓Qe,Qu,Qv,Qw,Qx,Qy,Qz,QA,QB,QC,QD,QE,QF,QG,QH,QI,QK]
 refine LoopC.fr 0 (α:=Nat × Nat × List UInt8) (fun x=>x.1) (fun x=>[(0,.d (.int .i64 (x.2.1:Nat))),(1,.d (.int .i64 (x.1:Nat))),(5,.d (S x.2.2))]) (fun _=>[])
  (fun x=>x.1≤9∧x.2.1<1000000000∧x.2.2.length+x.1=w∧padN w n=padN x.1 x.2.1++x.2.2) (w,n,[]) ⟨hw,hn,by simp,by simp⟩ ?_ ?_
 ·first | exact ⟨[],rfl,by simp,by simp [sA,kA,SW,AW],by simp [HW,BW,SW,AW]⟩ | exact ⟨[],rfl,by simp,by simp [sA,kA,SW,AW,hb0],by simp [HW,BW,SW,AW]⟩
 ·rintro ⟨k,m,x⟩ ⟨h1,h2,h3,h4⟩
  simp only at h1 h2 h3 h4
  simp only [awK,Nat.reduceMod,Nat.reduceDiv,reduceIte]
  rcases k with _ | k
  ·rw [h4] at hr
   have hr:r=x:=hr
   subst hr
   simp (config:={maxSteps:=1000000}) (disch:=(try simp only [awL]);omega) only [awS,↓awU,awV,awX,awF,↓reduceIte,↓reduceDIte,↓Qe,Qu,Qv,Qw,Qx,Qy,Qz,QA,QB,QC,QD,QE,QF,QG,QH,QI,QK]
   first | done | rfl
  ·have t1:(m:Int).tmod 10=((m % 10:Nat):Int):=(Int.ofNat_tmod m 10).symm
   have t2:(m:Int).tdiv 10=((m / 10:Nat):Int):=(Int.ofNat_tdiv m 10).symm
   have t3:(((k+1:Nat):Int) - 1)=(k:Int):=by omega
   have st:padN w n=padN k (m / 10)++([UInt8.ofNat (48+m % 10)]++x):=by rw [h4,padN,List.append_assoc]
   have by1:(48:Int)+((m % 10:Nat):Int)=((UInt8.ofNat (48+m % 10)).toNat:Int):=by rw [dgB_of (by omega)];omega
   have sn:strOfNums [(48:Int)+((m % 10:Nat):Int)]=bs [UInt8.ofNat (48+m % 10)]:=by rw [by1];exact strOfNums_nums (l:=[UInt8.ofNat (48+m % 10)])
   simp (config:={maxSteps:=1000000}) (disch:=(try simp only [awL]);omega) only [awS,t1,t2,t3,sn,↓awU,awV,awX,awF,↓reduceIte,↓reduceDIte,↓Qe,Qu,Qv,Qw,Qx,Qy,Qz,QA,QB,QC,QD,QE,QF,QG,QH,QI,QK]
   first
   | exact ⟨(k,m / 10,[UInt8.ofNat (48+m % 10)]++x),⟨by omega,by simp only;omega,by simp;omega,st⟩,by simp only;omega,⟨[],rfl,by simp,by simp [sA,kA,SW,AW],by simp [HW,BW,SW,AW]⟩⟩
theorem celsD_pushU (a:List Cel) (x:Cel):celsD a++[.bool x.2,S x.1]=celsD (a++[x]):=by simp [celsD]
def goodO (o:Opt):Bool:=decide (0<o.fr) && decide (o.ag=0)
def okB (l:List Cel) (b:List UInt8):Bool:=goodO (optU l b)
theorem cutA (L:List D) (n:Nat) (h:L.length≤n):cut L 0 n=L:=by unfold cut;rw [List.drop_zero,List.take_of_length_le h]
end Go.Proofs.YtdpjcghiegggbaaGreatDoor
namespace Go.Proofs.YtdpjcghiegggbaaGreatDoor.Num
open Go Go.Proofs Go.Abs
variable {G:Globals}
structure RB where
 neg:Bool
 l:List Nat
def RB.ok (x:RB):Bool:=decide (x.l.length≤256∧(x.l=[]∧x.neg=false∨x.l≠[]∧x.l.getD (x.l.length - 1) 0≠0))
def RB.int (x:RB):Int:=if x.neg then -(val x.l:Int) else val x.l
structure RB.Dg (x:RB):Prop where
 dig:Dig x.l
 len:x.l.length≤1000
theorem RB.of (n:Int) (h:sz n≤1000):RB.Dg ⟨decide (n<0),toW n.natAbs⟩:=⟨dig_toW _,h⟩
theorem rsame_spec (n:Int) (hn:sz n≤1000):Ctr TP G 63 [.d (Big n),.d (Big n)] [] (.d (.bool true)) []:=by
 simp only [sz] at hn
 refine Ctr.pure (M:=M0) hmix Tryz.func63 rfl go63 ?_
 simp (config:={maxSteps:=1000000}) (disch:=(try simp only [awL]);omega) only [Tryz.f63,↓awU,awV,awX,awF,↓reduceIte,↓reduceDIte,↓Qe,Qu,Qv,Qw,Qx,Qy,Qz,QA,QB,QC,QD,QE,QF,QG,QH,QI,QK]
 refine CallC.pure (rcmp_spec n.natAbs n.natAbs (by omega) (by omega)) ?_
 rw [cmpI_self]
 simp (config:={maxSteps:=1000000}) (disch:=(try simp only [awL]);omega) only [↓awU,awV,awX,awF,↓reduceIte,↓reduceDIte,↓Qe,Qu,Qv,Qw,Qx,Qy,Qz,QA,QB,QC,QD,QE,QF,QG,QH,QI,QK]
 try rfl
structure RF where
 n:RB
 d:RB
abbrev FrI (p q:Int):D:=.agg [.bool (decide (p<0)),W (toW p.natAbs),.bool (decide (q<0)),W (toW q.natAbs)]
def okI (p q:Int):Bool:=decide (0<q∧Nat.gcd p.natAbs q.natAbs=1)
structure RF.Dg (x:RF):Prop where
 n:x.n.Dg
 d:x.d.Dg
def RF.ok (x:RF):Bool:=(x.n.ok && x.d.ok) && okI x.n.int x.d.int
def RF.rat (x:RF):Rat:=Rat.divInt x.n.int x.d.int
theorem rsameF_spec (p q:Int) (hp:sz p≤1000) (hq:sz q≤1000):Ctr TP G 27 [.d (FrI p q),.d (FrI p q)] [] (.d (.bool true)) []:=by
 refine Ctr.pure (M:=M0) hmix Tryz.func27 rfl go27 ?_
 simp (config:={maxSteps:=1000000}) (disch:=(try simp only [awL]);omega) only [Tryz.f27,↓awU,awV,awX,awF,↓reduceIte,↓reduceDIte,↓Qe,Qu,Qv,Qw,Qx,Qy,Qz,QA,QB,QC,QD,QE,QF,QG,QH,QI,QK]
 refine CallC.of (rsame_spec p hp) (by rfl) ?_
 simp (config:={maxSteps:=1000000}) (disch:=(try simp only [awL]);omega) only [↓awU,awV,awX,awF,↓reduceIte,↓reduceDIte,↓Qe,Qu,Qv,Qw,Qx,Qy,Qz,QA,QB,QC,QD,QE,QF,QG,QH,QI,QK]
 refine CallC.of (rsame_spec q hq) (by rfl) ?_
 simp (config:={maxSteps:=1000000}) (disch:=(try simp only [awL]);omega) only [↓awU,awV,awX,awF,↓reduceIte,↓reduceDIte,↓Qe,Qu,Qv,Qw,Qx,Qy,Qz,QA,QB,QC,QD,QE,QF,QG,QH,QI,QK]
 try rfl
def SmF (d:D):Prop:=∃ p q,d=FrI p q∧sz p≤1000∧sz q≤1000
theorem sz0:sz 0≤1000:=by have e:toW (0:Int).natAbs=[]:=toW_zero;simp only [sz,e];decide
theorem SmF_Zf:SmF Zf:=⟨0,0,by have e:toW (0:Int).natAbs=[]:=toW_zero;simp only [FrI,W,e];rfl,sz0,sz0⟩
theorem SmF_Frac {x:Rat} (h:FV x):SmF (Frac x):=⟨x.num,x.den,by simp [FrI],by have:=h.1;omega,by have:=h.2;simp only [sz,Int.natAbs_natCast];omega⟩
def cF (x y:RF):Int:=if x.ok && y.ok then cmpQ x.rat y.rat else 0
end Go.Proofs.YtdpjcghiegggbaaGreatDoor.Num
namespace Go.Proofs.YtdpjcghiegggbaaGreatDoor
open Go Go.Proofs Go.Abs
variable {G:Globals}
theorem cF_drop {b:UInt8} {l:List UInt8} (h:b=48):Decs.cF (b::l)=Decs.cF l:=by
 have e:Lib.trimLeftB (b::l) 48=Lib.trimLeftB l 48:=by
  unfold Lib.trimLeftB
  rw [List.dropWhile_cons,if_pos (by simpa using h)]
 unfold Decs.cF
 rw [e]
theorem cF_end {b:UInt8} {l:List UInt8} (h:l=[]∨b≠48):Decs.cF (b::l)=b::l:=by
 by_cases e:b=48
 ·rcases h with h | h
  ·subst h e;rfl
  ·exact absurd e h
 ·have e2:Lib.trimLeftB (b::l) 48=b::l:=by
   unfold Lib.trimLeftB
   rw [List.dropWhile_cons,if_neg (by simpa using e)]
  unfold Decs.cF
  rw [e2,if_neg (List.cons_ne_nil _ _)]
theorem cB_snoc {l:List UInt8} {b:UInt8} (h:b=48):Decs.cB (l++[b])=Decs.cB l:=by
 unfold Decs.cB Lib.trimRightB
 rw [List.reverse_append,List.reverse_singleton,List.singleton_append,List.dropWhile_cons,if_pos (by simpa using h)]
theorem cB_end {l:List UInt8} {b:UInt8} (h:b≠48):Decs.cB (l++[b])=l++[b]:=by
 unfold Decs.cB Lib.trimRightB
 rw [List.reverse_append,List.reverse_singleton,List.singleton_append,List.dropWhile_cons,if_neg (by simpa using h),List.reverse_cons,List.reverse_reverse]
theorem last_split {y:List UInt8} (h:0<y.length):y=y.take (y.length - 1)++[y.getD (y.length - 1) 0]:=by
 have h1:=List.take_append_drop (y.length - 1) y
 rw [Num.drop_cons' (show y.length - 1<y.length by omega),List.drop_of_length_le (by omega)] at h1
 exact h1.symm
theorem rnumber_spec (neg:Bool) (d p:List UInt8) (hd0:0<d.length) (hd:d.length≤1000) (hp:p.length≤1000) :
  Ctr TP G 57 [.d (.bool neg),.d (S d),.d (S p)] [] (.d (S (canS neg (Decs.pt (Decs.cF d) (Decs.cB p))))) []:=by
 obtain ⟨r,hr⟩:∃ r,r=canS neg (Decs.pt (Decs.cF d) (Decs.cB p)):=⟨_,rfl⟩
 rw [← hr]
 refine Ctr.pure (M:=M0) hmix Tryz.func57 rfl go57 ?_
 simp (config:={maxSteps:=1000000}) (disch:=(try simp only [awL]);omega) only [awS,Tryz.f57,↓awU,awV,awX,awF,↓reduceIte,↓reduceDIte,↓Qe,Qu,Qv,Qw,Qx,Qy,Qz,QA,QB,QC,QD,QE,QF,QG,QH,QI,QK]
 refine LoopC.fx 5 (α:=List UInt8) (β:=Unit) (fun x=>x.length) (fun x=>[(1,.d (S x))]) (fun _=>[]) (fun x=>0<x.length∧x.length≤1000∧Decs.cF d=Decs.cF x)
  5 (fun _=>[(1,.d (S (Decs.cF d)))]) (fun _=>[]) (fun _=>True) d ⟨hd0,hd,rfl⟩ ?_ ?_ ?_
 ·exact ⟨[],rfl,by simp,by simp [sA,kA,SW,AW],by simp [HW,BW,SW,AW]⟩
 ·rintro x ⟨h0,h1,h2⟩
  rcases x with _ | ⟨b,l⟩
  ·simp at h0
  ·have gb:(b::l).getD 0 0=b:=rfl
   have dl:(b::l).drop 1=l:=rfl
   rw [List.length_cons] at h1
   simp only [awK,Nat.reduceMod,Nat.reduceDiv,reduceIte]
   by_cases e1:0<l.length
   ·by_cases e2:b=48
    ·have e2':((b.toNat:Int)=48)=True:=eq_true (by rw [e2];rfl)
     simp (config:={maxSteps:=1000000}) (disch:=(try simp only [awL]);omega) only [awS,List.length_cons,gb,dl,e2',↓awU,awV,awX,awF,↓reduceIte,↓reduceDIte,↓Qe,Qu,Qv,Qw,Qx,Qy,Qz,QA,QB,QC,QD,QE,QF,QG,QH,QI,QK]
     exact ⟨l,⟨e1,by omega,by rw [h2,cF_drop e2]⟩,by simp only [List.length_cons];omega,⟨[],rfl,by simp,by simp [sA,kA,SW,AW],by simp [HW,BW,SW,AW]⟩⟩
    ·have e2':((b.toNat:Int)=48)=False:=eq_false (fun q=>e2 (UInt8.toNat_inj.1 (by show b.toNat=48;omega)))
     rw [cF_end (.inr e2)] at h2
     simp (config:={maxSteps:=1000000}) (disch:=(try simp only [awL]);omega) only [awS,List.length_cons,gb,e2',↓awU,awV,awX,awF,↓reduceIte,↓reduceDIte,↓Qe,Qu,Qv,Qw,Qx,Qy,Qz,QA,QB,QC,QD,QE,QF,QG,QH,QI,QK]
     exact ⟨(),trivial,⟨[],rfl,by simp,by simp [sA,kA,SW,AW,h2],by simp [HW,BW,SW,AW]⟩⟩
   ·have ln:l=[]:=List.length_eq_zero_iff.1 (by omega)
    rw [cF_end (.inl ln)] at h2
    simp (config:={maxSteps:=1000000}) (disch:=(try simp only [awL]);omega) only [awS,List.length_cons,↓awU,awV,awX,awF,↓reduceIte,↓reduceDIte,↓Qe,Qu,Qv,Qw,Qx,Qy,Qz,QA,QB,QC,QD,QE,QF,QG,QH,QI,QK]
    exact ⟨(),trivial,⟨[],rfl,by simp,by simp [sA,kA,SW,AW,h2],by simp [HW,BW,SW,AW]⟩⟩
 ·rintro ⟨⟩ -
  have fl:(Decs.cF d).length≤1000:=by
   have:(Lib.trimLeftB d 48).length≤d.length:=(List.dropWhile_sublist _).length_le
   unfold Decs.cF
   split
   ·simp
   ·omega
  generalize Decs.cF d=f at *
  simp only [awK,Nat.reduceMod,Nat.reduceDiv,reduceIte]
  refine LoopC.fx 3 (α:=List UInt8) (β:=Unit) (fun y=>y.length) (fun y=>[(2,.d (S y))]) (fun _=>[]) (fun y=>y.length≤1000∧Decs.cB p=Decs.cB y)
   3 (fun _=>[(2,.d (S (Decs.cB p)))]) (fun _=>[]) (fun _=>True) p ⟨hp,rfl⟩ ?_ ?_ ?_
  ·exact ⟨[],rfl,by simp,by simp [sA,kA,SW,AW],by simp [HW,BW,SW,AW]⟩
  ·rintro y ⟨h1,h2⟩
   simp only [awK,Nat.reduceMod,Nat.reduceDiv,reduceIte]
   rcases Nat.eq_zero_or_pos y.length with e0 | e0
   ·have yn:=List.length_eq_zero_iff.1 e0
    subst yn
    have h2:Decs.cB p=[]:=h2
    simp (config:={maxSteps:=1000000}) (disch:=(try simp only [awL]);omega) only [awS,List.length_nil,↓awU,awV,awX,awF,↓reduceIte,↓reduceDIte,↓Qe,Qu,Qv,Qw,Qx,Qy,Qz,QA,QB,QC,QD,QE,QF,QG,QH,QI,QK]
    exact ⟨(),trivial,⟨[],rfl,by simp,by simp [sA,kA,SW,AW,h2],by simp [HW,BW,SW,AW]⟩⟩
   ·obtain ⟨b,hb⟩:∃ b,b=y.getD (y.length - 1) 0:=⟨_,rfl⟩
    obtain ⟨z,hz⟩:∃ z,z=y.take (y.length - 1):=⟨_,rfl⟩
    have sp:=last_split e0
    rw [← hb,← hz] at sp
    have zl:z.length+1=y.length:=by rw [hz,List.length_take];omega
    have ei:(((y.length:Int) - 1).toNat)=y.length - 1:=by omega
    by_cases e2:b=48
    ·have e2':(((y.getD (y.length - 1) 0).toNat:Int)=48)=True:=eq_true (by rw [← hb,e2];rfl)
     rw [sp,cB_snoc e2] at h2
     simp (config:={maxSteps:=1000000}) (disch:=(try simp only [awL]);omega) only [awS,ei,e2',← hz,↓awU,awV,awX,awF,↓reduceIte,↓reduceDIte,↓Qe,Qu,Qv,Qw,Qx,Qy,Qz,QA,QB,QC,QD,QE,QF,QG,QH,QI,QK]
     exact ⟨z,⟨by omega,h2⟩,by simp only;omega,⟨[],rfl,by simp,by simp [sA,kA,SW,AW],by simp [HW,BW,SW,AW]⟩⟩
    ·have e2':(((y.getD (y.length - 1) 0).toNat:Int)=48)=False:=eq_false (fun q=>e2 (UInt8.toNat_inj.1 (by show b.toNat=48;rw [hb];omega)))
     rw [sp,cB_end e2,← sp] at h2
     simp (config:={maxSteps:=1000000}) (disch:=(try simp only [awL]);omega) only [awS,ei,e2',↓awU,awV,awX,awF,↓reduceIte,↓reduceDIte,↓Qe,Qu,Qv,Qw,Qx,Qy,Qz,QA,QB,QC,QD,QE,QF,QG,QH,QI,QK]
     exact ⟨(),trivial,⟨[],rfl,by simp,by simp [sA,kA,SW,AW,h2],by simp [HW,BW,SW,AW]⟩⟩
  ·rintro ⟨⟩ -
   have bl:(Decs.cB p).length≤1000:=Nat.le_trans (trimRB_le p 48) hp
   generalize Decs.cB p=b at *
   unfold canS Decs.pt at hr
   simp only [awK,Nat.reduceMod,Nat.reduceDiv,reduceIte]
   by_cases e1:b=[]
   ·have e1':(b=[])=True:=eq_true e1
    rw [if_pos e1,List.append_nil] at hr
    cases neg
    ·rw [if_neg (fun q=>by cases q.1)] at hr
     subst hr
     simp (config:={maxSteps:=1000000}) (disch:=(try simp only [awL]);omega) only [awS,aseq_normal,aseq_ret,e1',↓awU,awV,awX,awF,↓reduceIte,↓reduceDIte,↓Qe,Qu,Qv,Qw,Qx,Qy,Qz,QA,QB,QC,QD,QE,QF,QG,QH,QI,QK]
     first | done | rfl
    ·by_cases e3:f=[48]
     ·have e3':(f=[48])=True:=eq_true e3
      rw [if_neg (fun q=>q.2 e3)] at hr
      subst hr
      simp (config:={maxSteps:=1000000}) (disch:=(try simp only [awL]);omega) only [awS,aseq_normal,aseq_ret,e1',e3',↓awU,awV,awX,awF,↓reduceIte,↓reduceDIte,↓Qe,Qu,Qv,Qw,Qx,Qy,Qz,QA,QB,QC,QD,QE,QF,QG,QH,QI,QK]
      first | done | rfl
     ·have e3':(f=[48])=False:=eq_false e3
      rw [if_pos ⟨rfl,e3⟩] at hr
      subst hr
      simp (config:={maxSteps:=1000000}) (disch:=(try simp only [awL]);omega) only [awS,aseq_normal,aseq_ret,e1',e3',↓awU,awV,awX,awF,↓reduceIte,↓reduceDIte,↓Qe,Qu,Qv,Qw,Qx,Qy,Qz,QA,QB,QC,QD,QE,QF,QG,QH,QI,QK]
      first | done | rfl
   ·have e1':(b=[])=False:=eq_false e1
    rw [if_neg e1] at hr
    cases neg
    ·rw [if_neg (fun q=>by cases q.1)] at hr
     subst hr
     simp (config:={maxSteps:=1000000}) (disch:=(try simp only [awL]);omega) only [awS,aseq_normal,aseq_ret,e1',↓awU,awV,awX,awF,↓reduceIte,↓reduceDIte,↓Qe,Qu,Qv,Qw,Qx,Qy,Qz,QA,QB,QC,QD,QE,QF,QG,QH,QI,QK]
     first | done | rfl
    ·by_cases e3:f++46::b=[48]
     ·have e3':(f++46::b=[48])=True:=eq_true e3
      rw [if_neg (fun q=>q.2 e3)] at hr
      subst hr
      simp (config:={maxSteps:=1000000}) (disch:=(try simp only [awL]);omega) only [awS,aseq_normal,aseq_ret,e1',e3',↓awU,awV,awX,awF,↓reduceIte,↓reduceDIte,↓Qe,Qu,Qv,Qw,Qx,Qy,Qz,QA,QB,QC,QD,QE,QF,QG,QH,QI,QK]
      first | done | rfl
     ·have e3':(f++46::b=[48])=False:=eq_false e3
      rw [if_pos ⟨rfl,e3⟩] at hr
      subst hr
      simp (config:={maxSteps:=1000000}) (disch:=(try simp only [awL]);omega) only [awS,aseq_normal,aseq_ret,e1',e3',↓awU,awV,awX,awF,↓reduceIte,↓reduceDIte,↓Qe,Qu,Qv,Qw,Qx,Qy,Qz,QA,QB,QC,QD,QE,QF,QG,QH,QI,QK]
      first | done | rfl
theorem canD_parts {t:List UInt8} (h:Num.decOk t=true):canS (Num.decNeg t) (Decs.pt (Decs.cF (Num.decF t)) (Decs.cB (Num.decB t)))=canD t:=by
 obtain ⟨c,F,B,rfl,hd,hc⟩:=Decs.dec_of h
 obtain ⟨_,h2,_⟩:=Decs.body_sg hd.two hc
 obtain ⟨h3,h4⟩:=Decs.parts_sg hd.two hc
 rw [Decs.canD_sg hd hc,h2,h3,h4]
 unfold canS
 by_cases e:c=some 45
 ·rw [decide_eq_true e]
  by_cases q:Decs.pt (Decs.cF F) (Decs.cB B)=[48]
  ·rw [if_neg (fun x=>x.2 q),if_neg (fun x=>x.2 q)];rfl
  ·rw [if_pos ⟨rfl,q⟩,if_pos ⟨e,q⟩];rfl
 ·rw [decide_eq_false e,if_neg (fun x=>by cases x.1),if_neg (fun x=>e x.1)];rfl
theorem dot_iff {t:List UInt8} (h:Num.decOk t=true):(46:UInt8)∈t↔Num.decB t≠[]:=by
 obtain ⟨c,F,B,rfl,hd,hc⟩:=Decs.dec_of h
 obtain ⟨h3,h4⟩:=Decs.parts_sg hd.two hc
 obtain ⟨_,_,h5⟩:=Decs.pt_cut hd.two
 rw [h4,← h5]
 unfold Decs.sg
 rcases hc with rfl | rfl | rfl
 ·exact Iff.rfl
 ·simp
 ·simp
theorem okIn_eq {t:List UInt8} (h:Num.decOk t=true):okIn t=decide (Num.decB t=[]):=by
 unfold okIn
 rw [h,Bool.and_true]
 by_cases e:Num.decB t=[]
 ·rw [decide_eq_true e,decide_eq_false (fun q=>(dot_iff h).1 q e)];rfl
 ·rw [decide_eq_false e,decide_eq_true ((dot_iff h).2 e)];rfl
theorem rcanon_spec (k:Int) (s:List UInt8) (hs:s.length≤2000000):Ctr TP G 25 [.d (.int .i64 k),.d (S s)] [] (.d (.tup [S (cnK k s),.bool (okK k s)])) []:=by
 have tl:=trimB_len s
 rcases k_cases k with rfl | rfl | rfl | rfl | rfl | h
 ·rw [show cnK 1 s=s from rfl,show okK 1 s=true from rfl]
  refine Ctr.pure (M:=M0) hmix Tryz.func25 rfl go25 ?_
  simp (config:={maxSteps:=1000000}) (disch:=(try simp only [awL]);omega) only [awS,Tryz.f25,↓awU,awV,awX,awF,↓reduceIte,↓reduceDIte,↓Qe,Qu,Qv,Qw,Qx,Qy,Qz,QA,QB,QC,QD,QE,QF,QG,QH,QI,QK]
  refine CallC.of (rtrim_spec s (by omega)) (by rfl) ?_
  generalize Lib.trimB s 32=t at *
  simp (config:={maxSteps:=1000000}) (disch:=(try simp only [awL]);omega) only [awS,↓awU,awV,awX,awF,↓reduceIte,↓reduceDIte,↓Qe,Qu,Qv,Qw,Qx,Qy,Qz,QA,QB,QC,QD,QE,QF,QG,QH,QI,QK]
  first | done | rfl
 ·rw [show cnK 2 s=canBo (Lib.trimB s 32) from rfl,show okK 2 s=okBo (Lib.trimB s 32) from rfl]
  refine Ctr.pure (M:=M0) hmix Tryz.func25 rfl go25 ?_
  simp (config:={maxSteps:=1000000}) (disch:=(try simp only [awL]);omega) only [awS,Tryz.f25,↓awU,awV,awX,awF,↓reduceIte,↓reduceDIte,↓Qe,Qu,Qv,Qw,Qx,Qy,Qz,QA,QB,QC,QD,QE,QF,QG,QH,QI,QK]
  refine CallC.of (rtrim_spec s (by omega)) (by rfl) ?_
  generalize Lib.trimB s 32=t at *
  have sp:=Dst.rfold_spec (G:=G) t (by omega)
  have cs:=bo_cases t
  generalize canBo t=c at *
  generalize okBo t=o at *
  generalize t.map Dst.foldB=f at *
  simp (config:={maxSteps:=1000000}) (disch:=(try simp only [awL]);omega) only [awS,↓awU,awV,awX,awF,↓reduceIte,↓reduceDIte,↓Qe,Qu,Qv,Qw,Qx,Qy,Qz,QA,QB,QC,QD,QE,QF,QG,QH,QI,QK]
  refine CallC.of sp (by rfl) ?_
  rcases cs with ⟨rfl,rfl,rfl⟩ | ⟨rfl,rfl,rfl⟩ | ⟨rfl,rfl,rfl⟩ | ⟨rfl,rfl,rfl⟩ | ⟨n1,n2,n3,n4,rfl,rfl⟩
  ·simp (config:={maxSteps:=1000000}) (disch:=(try simp only [awL]);omega) only [awS,↓awU,awV,awX,awF,↓reduceIte,↓reduceDIte,↓Qe,Qu,Qv,Qw,Qx,Qy,Qz,QA,QB,QC,QD,QE,QF,QG,QH,QI,QK]
   first | done | rfl | (simp [Br];done)
  ·simp (config:={maxSteps:=1000000}) (disch:=(try simp only [awL]);omega) only [awS,↓awU,awV,awX,awF,↓reduceIte,↓reduceDIte,↓Qe,Qu,Qv,Qw,Qx,Qy,Qz,QA,QB,QC,QD,QE,QF,QG,QH,QI,QK]
   first | done | rfl | (simp [Br];done)
  ·simp (config:={maxSteps:=1000000}) (disch:=(try simp only [awL]);omega) only [awS,↓awU,awV,awX,awF,↓reduceIte,↓reduceDIte,↓Qe,Qu,Qv,Qw,Qx,Qy,Qz,QA,QB,QC,QD,QE,QF,QG,QH,QI,QK]
   first | done | rfl | (simp [Br];done)
  ·simp (config:={maxSteps:=1000000}) (disch:=(try simp only [awL]);omega) only [awS,↓awU,awV,awX,awF,↓reduceIte,↓reduceDIte,↓Qe,Qu,Qv,Qw,Qx,Qy,Qz,QA,QB,QC,QD,QE,QF,QG,QH,QI,QK]
   first | done | rfl | (simp [Br];done)
  ·simp (config:={maxSteps:=1000000}) (disch:=(try simp only [awL]);omega) only [awS,n1,n2,n3,n4,↓awU,awV,awX,awF,↓reduceIte,↓reduceDIte,↓Qe,Qu,Qv,Qw,Qx,Qy,Qz,QA,QB,QC,QD,QE,QF,QG,QH,QI,QK]
   first | done | rfl | (simp [Br];done)
 ·rw [show cnK 3 s=canIn (Lib.trimB s 32) from rfl,show okK 3 s=okIn (Lib.trimB s 32) from rfl]
  refine Ctr.pure (M:=M0) hmix Tryz.func25 rfl go25 ?_
  simp (config:={maxSteps:=1000000}) (disch:=(try simp only [awL]);omega) only [awS,Tryz.f25,↓awU,awV,awX,awF,↓reduceIte,↓reduceDIte,↓Qe,Qu,Qv,Qw,Qx,Qy,Qz,QA,QB,QC,QD,QE,QF,QG,QH,QI,QK]
  refine CallC.of (rtrim_spec s (by omega)) (by rfl) ?_
  generalize Lib.trimB s 32=t at *
  obtain ⟨r,hr⟩:∃ r,r=D.tup [S (canIn t),D.bool (okIn t)]:=⟨_,rfl⟩
  rw [← hr]
  unfold canIn at hr
  simp (config:={maxSteps:=1000000}) (disch:=(try simp only [awL]);omega) only [awS,↓awU,awV,awX,awF,↓reduceIte,↓reduceDIte,↓Qe,Qu,Qv,Qw,Qx,Qy,Qz,QA,QB,QC,QD,QE,QF,QG,QH,QI,QK]
  have pp:=Num.rparts_spec (G:=G) t (by omega)
  unfold Num.partsD at pp
  rw [show Num.okB (Num.decBody t)=Num.decOk t from rfl,show Num.cutL 46 (Num.decBody t)=Num.decF t from rfl,show Num.cutR 46 (Num.decBody t)=Num.decB t from rfl] at pp
  refine CallC.of pp (by rfl) ?_
  cases ok:Num.decOk t
  ·have o2:okIn t=false:=by unfold okIn;rw [ok,Bool.and_false]
   rw [o2,if_neg Bool.false_ne_true] at hr
   rw [if_neg Bool.false_ne_true,if_neg Bool.false_ne_true]
   subst hr
   simp (config:={maxSteps:=1000000}) (disch:=(try simp only [awL]);omega) only [awS,↓awU,awV,awX,awF,↓reduceIte,↓reduceDIte,↓Qe,Qu,Qv,Qw,Qx,Qy,Qz,QA,QB,QC,QD,QE,QF,QG,QH,QI,QK]
   first | done | rfl
  ·rw [if_pos rfl,if_pos rfl,Bool.true_and]
   obtain ⟨q1,q2,q3⟩:=Num.decOk_facts ok
   have f1:0<(Num.decF t).length:=by
    have ok':=ok
    unfold Num.decOk Num.digB at ok'
    rw [Bool.and_eq_true,Bool.and_eq_true,decide_eq_true_eq] at ok'
    omega
   rw [List.length_append] at q2
   have ie:=okIn_eq ok
   have cp:=canD_parts ok
   rw [ie] at hr
   generalize Num.decF t=F at *
   generalize Num.decB t=B at *
   generalize Num.decNeg t=neg at *
   by_cases e:B=[]
   ·have e':(B=[])=True:=eq_true e
    rw [decide_eq_true e,if_pos rfl,← cp] at hr
    have ns:=rnumber_spec (G:=G) neg F B f1 (by omega) (by omega)
    simp (config:={maxSteps:=1000000}) (disch:=(try simp only [awL]);omega) only [awS,e',↓awU,awV,awX,awF,↓reduceIte,↓reduceDIte,↓Qe,Qu,Qv,Qw,Qx,Qy,Qz,QA,QB,QC,QD,QE,QF,QG,QH,QI,QK]
    refine CallC.of ns (by first | rfl) ?_
    subst hr
    simp (config:={maxSteps:=1000000}) (disch:=(try simp only [awL]);omega) only [awS,↓awU,awV,awX,awF,↓reduceIte,↓reduceDIte,↓Qe,Qu,Qv,Qw,Qx,Qy,Qz,QA,QB,QC,QD,QE,QF,QG,QH,QI,QK]
    first | done | rfl
   ·have e':(B=[])=False:=eq_false e
    rw [decide_eq_false e,if_neg Bool.false_ne_true] at hr
    subst hr
    simp (config:={maxSteps:=1000000}) (disch:=(try simp only [awL]);omega) only [awS,e',↓awU,awV,awX,awF,↓reduceIte,↓reduceDIte,↓Qe,Qu,Qv,Qw,Qx,Qy,Qz,QA,QB,QC,QD,QE,QF,QG,QH,QI,QK]
    first | done | rfl
 ·rw [show cnK 4 s=canDe (Lib.trimB s 32) from rfl,show okK 4 s=Num.decOk (Lib.trimB s 32) from rfl]
  refine Ctr.pure (M:=M0) hmix Tryz.func25 rfl go25 ?_
  simp (config:={maxSteps:=1000000}) (disch:=(try simp only [awL]);omega) only [awS,Tryz.f25,↓awU,awV,awX,awF,↓reduceIte,↓reduceDIte,↓Qe,Qu,Qv,Qw,Qx,Qy,Qz,QA,QB,QC,QD,QE,QF,QG,QH,QI,QK]
  refine CallC.of (rtrim_spec s (by omega)) (by rfl) ?_
  generalize Lib.trimB s 32=t at *
  obtain ⟨r,hr⟩:∃ r,r=D.tup [S (canDe t),D.bool (Num.decOk t)]:=⟨_,rfl⟩
  rw [← hr]
  unfold canDe at hr
  simp (config:={maxSteps:=1000000}) (disch:=(try simp only [awL]);omega) only [awS,↓awU,awV,awX,awF,↓reduceIte,↓reduceDIte,↓Qe,Qu,Qv,Qw,Qx,Qy,Qz,QA,QB,QC,QD,QE,QF,QG,QH,QI,QK]
  have pp:=Num.rparts_spec (G:=G) t (by omega)
  unfold Num.partsD at pp
  rw [show Num.okB (Num.decBody t)=Num.decOk t from rfl,show Num.cutL 46 (Num.decBody t)=Num.decF t from rfl,show Num.cutR 46 (Num.decBody t)=Num.decB t from rfl] at pp
  refine CallC.of pp (by rfl) ?_
  cases ok:Num.decOk t
  ·have o2:okIn t=false:=by unfold okIn;rw [ok,Bool.and_false]
   rw [ok,if_neg Bool.false_ne_true] at hr
   rw [if_neg Bool.false_ne_true,if_neg Bool.false_ne_true]
   subst hr
   simp (config:={maxSteps:=1000000}) (disch:=(try simp only [awL]);omega) only [awS,↓awU,awV,awX,awF,↓reduceIte,↓reduceDIte,↓Qe,Qu,Qv,Qw,Qx,Qy,Qz,QA,QB,QC,QD,QE,QF,QG,QH,QI,QK]
   first | done | rfl
  ·rw [if_pos rfl,if_pos rfl,Bool.true_and]
   obtain ⟨q1,q2,q3⟩:=Num.decOk_facts ok
   have f1:0<(Num.decF t).length:=by
    have ok':=ok
    unfold Num.decOk Num.digB at ok'
    rw [Bool.and_eq_true,Bool.and_eq_true,decide_eq_true_eq] at ok'
    omega
   rw [List.length_append] at q2
   have ie:=okIn_eq ok
   have cp:=canD_parts ok
   rw [ok,if_pos rfl,← cp] at hr
   generalize Num.decF t=F at *
   generalize Num.decB t=B at *
   generalize Num.decNeg t=neg at *
   have ns:=rnumber_spec (G:=G) neg F B f1 (by omega) (by omega)
   simp (config:={maxSteps:=1000000}) (disch:=(try simp only [awL]);omega) only [awS,↓awU,awV,awX,awF,↓reduceIte,↓reduceDIte,↓Qe,Qu,Qv,Qw,Qx,Qy,Qz,QA,QB,QC,QD,QE,QF,QG,QH,QI,QK]
   refine CallC.of ns (by first | rfl) ?_
   subst hr
   simp (config:={maxSteps:=1000000}) (disch:=(try simp only [awL]);omega) only [awS,↓awU,awV,awX,awF,↓reduceIte,↓reduceDIte,↓Qe,Qu,Qv,Qw,Qx,Qy,Qz,QA,QB,QC,QD,QE,QF,QG,QH,QI,QK]
   first | done | rfl
 ·rw [show cnK 5 s=canDt (Lib.trimB s 32) from rfl,show okK 5 s=okD (Lib.trimB s 32) from rfl]
  refine Ctr.pure (M:=M0) hmix Tryz.func25 rfl go25 ?_
  simp (config:={maxSteps:=1000000}) (disch:=(try simp only [awL]);omega) only [awS,Tryz.f25,↓awU,awV,awX,awF,↓reduceIte,↓reduceDIte,↓Qe,Qu,Qv,Qw,Qx,Qy,Qz,QA,QB,QC,QD,QE,QF,QG,QH,QI,QK]
  refine CallC.of (rtrim_spec s (by omega)) (by rfl) ?_
  generalize Lib.trimB s 32=t at *
  obtain ⟨r,hr⟩:∃ r,r=D.tup [S (canDt t),D.bool (okD t)]:=⟨_,rfl⟩
  rw [← hr]
  unfold canDt at hr
  have rs:=rdtx_spec (G:=G) t (by omega)
  unfold D4E at rs
  simp (config:={maxSteps:=1000000}) (disch:=(try simp only [awL]);omega) only [awS,↓awU,awV,awX,awF,↓reduceIte,↓reduceDIte,↓Qe,Qu,Qv,Qw,Qx,Qy,Qz,QA,QB,QC,QD,QE,QF,QG,QH,QI,QK]
  refine CallC.of rs (by rfl) ?_
  cases ok:okD t
  ·rw [ok,if_neg Bool.false_ne_true] at hr
   rw [show (rdt t).2.2.2=false from ok]
   subst hr
   simp (config:={maxSteps:=1000000}) (disch:=(try simp only [awL]);omega) only [awS,↓awU,awV,awX,awF,↓reduceIte,↓reduceDIte,↓Qe,Qu,Qv,Qw,Qx,Qy,Qz,QA,QB,QC,QD,QE,QF,QG,QH,QI,QK]
   first | done | rfl
  ·rw [ok,if_pos rfl] at hr
   rw [show (rdt t).2.2.2=true from ok]
   obtain ⟨p1,p2,p3,p4,p5,p6⟩:=okDt_pos (rdt_ok ok)
   generalize (rdt t).1=y at *
   generalize (rdt t).2.1=m at *
   generalize (rdt t).2.2.1=d at *
   obtain ⟨y,rfl⟩:∃ n:Nat,y=n:=⟨y.toNat,by omega⟩
   obtain ⟨m,rfl⟩:∃ n:Nat,m=n:=⟨m.toNat,by omega⟩
   obtain ⟨d,rfl⟩:∃ n:Nat,d=n:=⟨d.toNat,by omega⟩
   unfold dateS at hr
   rw [Int.toNat_natCast,Int.toNat_natCast,Int.toNat_natCast] at hr
   have a1:=rpadded_spec (G:=G) y 4 (by omega) (by decide)
   have a2:=rpadded_spec (G:=G) m 2 (by omega) (by decide)
   have a3:=rpadded_spec (G:=G) d 2 (by omega) (by decide)
   have b1:=padN_len 4 y
   have b2:=padN_len 2 m
   have b3:=padN_len 2 d
   generalize padN 4 y=ys at *
   generalize padN 2 m=ms at *
   generalize padN 2 d=ds at *
   simp (config:={maxSteps:=1000000}) (disch:=(try simp only [awL]);omega) only [awS,↓awU,awV,awX,awF,↓reduceIte,↓reduceDIte,↓Qe,Qu,Qv,Qw,Qx,Qy,Qz,QA,QB,QC,QD,QE,QF,QG,QH,QI,QK]
   refine CallC.of a1 (by rfl) ?_
   simp (config:={maxSteps:=1000000}) (disch:=(try simp only [awL]);omega) only [awS,↓awU,awV,awX,awF,↓reduceIte,↓reduceDIte,↓Qe,Qu,Qv,Qw,Qx,Qy,Qz,QA,QB,QC,QD,QE,QF,QG,QH,QI,QK]
   refine CallC.of a2 (by rfl) ?_
   simp (config:={maxSteps:=1000000}) (disch:=(try simp only [awL]);omega) only [awS,↓awU,awV,awX,awF,↓reduceIte,↓reduceDIte,↓Qe,Qu,Qv,Qw,Qx,Qy,Qz,QA,QB,QC,QD,QE,QF,QG,QH,QI,QK]
   refine CallC.of a3 (by rfl) ?_
   subst hr
   simp (config:={maxSteps:=1000000}) (disch:=(try simp only [awL]);omega) only [awS,List.append_assoc,↓awU,awV,awX,awF,↓reduceIte,↓reduceDIte,↓Qe,Qu,Qv,Qw,Qx,Qy,Qz,QA,QB,QC,QD,QE,QF,QG,QH,QI,QK]
   first | done | rfl | (simp only [List.append_assoc,List.singleton_append];rfl)
 ·have g:=h
  unfold kOf at g
  have f1:(k=1)=False:=eq_false (by omega)
  have f2:(k=2)=False:=eq_false (by omega)
  have f3:(k=3)=False:=eq_false (by omega)
  have f4:(k=4)=False:=eq_false (by omega)
  have f5:(k=5)=False:=eq_false (by omega)
  rw [(okK_no h s).1,(okK_no h s).2]
  refine Ctr.pure (M:=M0) hmix Tryz.func25 rfl go25 ?_
  simp (config:={maxSteps:=1000000}) (disch:=(try simp only [awL]);omega) only [awS,f1,f2,f3,f4,f5,Tryz.f25,↓awU,awV,awX,awF,↓reduceIte,↓reduceDIte,↓Qe,Qu,Qv,Qw,Qx,Qy,Qz,QA,QB,QC,QD,QE,QF,QG,QH,QI,QK]
  refine CallC.of (rtrim_spec s (by omega)) (by rfl) ?_
  simp (config:={maxSteps:=1000000}) (disch:=(try simp only [awL]);omega) only [awS,f1,f2,f3,f4,f5,↓awU,awV,awX,awF,↓reduceIte,↓reduceDIte,↓Qe,Qu,Qv,Qw,Qx,Qy,Qz,QA,QB,QC,QD,QE,QF,QG,QH,QI,QK]
  first | done | rfl
theorem rofW_spec (n:Int) (h1:-9223372036854775808≤n) (h2:n≤9223372036854775807):Ctr TP G 62 [.d (.int .i64 n),.d (.int .i64 1)] [] (.d (.tup [Num.Frac (n:Rat),.int .i64 0])) []:=by
 have:=Num.rof_spec (G:=G) n 1 h1 h2 (by decide) (by decide)
 rw [if_neg (by decide),if_neg (by decide),dInt_one] at this
 exact this
theorem rvalue_spec (k:Int) (k1:-9223372036854775808≤k) (k2:k≤9223372036854775807) (s:List UInt8) (hs:s.length≤2000000):Ctr TP G 26 [.d (.int .i64 k),.d (S s)] [] (.d (valE k s)) []:=by
 have tl:=trimB_len s
 have cs:=rcanon_spec (G:=G) k s hs
 obtain ⟨r,hr⟩:∃ r,r=valE k s:=⟨_,rfl⟩
 rw [← hr]
 unfold valE okV at hr
 refine Ctr.pure (M:=M0) hmix Tryz.func26 rfl go26 ?_
 cases ok:okK k s
 ·rw [ok] at hr cs
  rw [Bool.false_and,if_neg Bool.false_ne_true] at hr
  subst hr
  simp (config:={maxSteps:=1000000}) (disch:=(try simp only [awL]);omega) only [awS,Tryz.f26,↓awU,awV,awX,awF,↓reduceIte,↓reduceDIte,↓Qe,Qu,Qv,Qw,Qx,Qy,Qz,QA,QB,QC,QD,QE,QF,QG,QH,QI,QK]
  refine CallC.of cs (by rfl) ?_
  simp (config:={maxSteps:=1000000}) (disch:=(try simp only [awL]);omega) only [awS,↓awU,awV,awX,awF,↓reduceIte,↓reduceDIte,↓Qe,Qu,Qv,Qw,Qx,Qy,Qz,QA,QB,QC,QD,QE,QF,QG,QH,QI,QK]
  first | done | rfl
 ·rw [ok] at hr cs
  rw [Bool.true_and] at hr
  rcases k_cases k with rfl | rfl | rfl | rfl | rfl | h
  ·rw [decide_eq_true rfl,Bool.not_true,if_neg Bool.false_ne_true] at hr
   subst hr
   generalize cnK 1 s=x at *
   simp (config:={maxSteps:=1000000}) (disch:=(try simp only [awL]);omega) only [awS,Tryz.f26,↓awU,awV,awX,awF,↓reduceIte,↓reduceDIte,↓Qe,Qu,Qv,Qw,Qx,Qy,Qz,QA,QB,QC,QD,QE,QF,QG,QH,QI,QK]
   refine CallC.of cs (by rfl) ?_
   simp (config:={maxSteps:=1000000}) (disch:=(try simp only [awL]);omega) only [awS,↓awU,awV,awX,awF,↓reduceIte,↓reduceDIte,↓Qe,Qu,Qv,Qw,Qx,Qy,Qz,QA,QB,QC,QD,QE,QF,QG,QH,QI,QK]
   first | done | rfl
  ·rw [decide_eq_false (by decide),Bool.not_false,if_pos rfl] at hr
   have e1:cnK 2 s=canBo (Lib.trimB s 32):=rfl
   have e2:vlK 2 s=(boV (canBo (Lib.trimB s 32)):Rat):=rfl
   rw [e1] at cs
   rw [e2] at hr
   unfold boV at hr
   generalize canBo (Lib.trimB s 32)=x at *
   by_cases e:x=[116,114,117,101]
   ·have e':(x=[116,114,117,101])=True:=eq_true e
    rw [if_pos e] at hr
    have rf:=rofW_spec (G:=G) 1 (by decide) (by decide)
    subst hr
    simp (config:={maxSteps:=1000000}) (disch:=(try simp only [awL]);omega) only [awS,e',Tryz.f26,↓awU,awV,awX,awF,↓reduceIte,↓reduceDIte,↓Qe,Qu,Qv,Qw,Qx,Qy,Qz,QA,QB,QC,QD,QE,QF,QG,QH,QI,QK]
    refine CallC.of cs (by rfl) ?_
    simp (config:={maxSteps:=1000000}) (disch:=(try simp only [awL]);omega) only [awS,e',↓awU,awV,awX,awF,↓reduceIte,↓reduceDIte,↓Qe,Qu,Qv,Qw,Qx,Qy,Qz,QA,QB,QC,QD,QE,QF,QG,QH,QI,QK]
    refine CallC.of rf (by rfl) ?_
    simp (config:={maxSteps:=1000000}) (disch:=(try simp only [awL]);omega) only [awS,↓awU,awV,awX,awF,↓reduceIte,↓reduceDIte,↓Qe,Qu,Qv,Qw,Qx,Qy,Qz,QA,QB,QC,QD,QE,QF,QG,QH,QI,QK]
    first | done | rfl
   ·have e':(x=[116,114,117,101])=False:=eq_false e
    rw [if_neg e] at hr
    have rf:=rofW_spec (G:=G) 0 (by decide) (by decide)
    subst hr
    simp (config:={maxSteps:=1000000}) (disch:=(try simp only [awL]);omega) only [awS,e',Tryz.f26,↓awU,awV,awX,awF,↓reduceIte,↓reduceDIte,↓Qe,Qu,Qv,Qw,Qx,Qy,Qz,QA,QB,QC,QD,QE,QF,QG,QH,QI,QK]
    refine CallC.of cs (by rfl) ?_
    simp (config:={maxSteps:=1000000}) (disch:=(try simp only [awL]);omega) only [awS,e',↓awU,awV,awX,awF,↓reduceIte,↓reduceDIte,↓Qe,Qu,Qv,Qw,Qx,Qy,Qz,QA,QB,QC,QD,QE,QF,QG,QH,QI,QK]
    refine CallC.of rf (by rfl) ?_
    simp (config:={maxSteps:=1000000}) (disch:=(try simp only [awL]);omega) only [awS,↓awU,awV,awX,awF,↓reduceIte,↓reduceDIte,↓Qe,Qu,Qv,Qw,Qx,Qy,Qz,QA,QB,QC,QD,QE,QF,QG,QH,QI,QK]
    first | done | rfl
  ·rw [decide_eq_false (by decide),Bool.not_false,if_pos rfl] at hr
   have ok2:okIn (Lib.trimB s 32)=true:=ok
   have ok3:Num.decOk (Lib.trimB s 32)=true:=by unfold okIn at ok2;rw [Bool.and_eq_true] at ok2;exact ok2.2
   have e1:cnK 3 s=canD (Lib.trimB s 32):=by show canIn _=_;unfold canIn;rw [if_pos ok2]
   have e2:vlK 3 s=Num.decVal (Lib.trimB s 32):=rfl
   rw [e1] at cs
   rw [e2] at hr
   subst hr
   have ts:=Num.rdecimal_spec (G:=G) (canD (Lib.trimB s 32)) (Nat.le_trans (canD_small ok3) (by decide))
   rw [Decs.canD_ok ok3,if_pos rfl,Decs.canD_val ok3] at ts
   generalize canD (Lib.trimB s 32)=x at *
   simp (config:={maxSteps:=1000000}) (disch:=(try simp only [awL]);omega) only [awS,Tryz.f26,↓awU,awV,awX,awF,↓reduceIte,↓reduceDIte,↓Qe,Qu,Qv,Qw,Qx,Qy,Qz,QA,QB,QC,QD,QE,QF,QG,QH,QI,QK]
   refine CallC.of cs (by rfl) ?_
   simp (config:={maxSteps:=1000000}) (disch:=(try simp only [awL]);omega) only [awS,↓awU,awV,awX,awF,↓reduceIte,↓reduceDIte,↓Qe,Qu,Qv,Qw,Qx,Qy,Qz,QA,QB,QC,QD,QE,QF,QG,QH,QI,QK]
   refine CallC.of ts (by rfl) ?_
   simp (config:={maxSteps:=1000000}) (disch:=(try simp only [awL]);omega) only [awS,↓awU,awV,awX,awF,↓reduceIte,↓reduceDIte,↓Qe,Qu,Qv,Qw,Qx,Qy,Qz,QA,QB,QC,QD,QE,QF,QG,QH,QI,QK]
   first | done | rfl
  ·rw [decide_eq_false (by decide),Bool.not_false,if_pos rfl] at hr
   have ok3:Num.decOk (Lib.trimB s 32)=true:=ok
   have e1:cnK 4 s=canD (Lib.trimB s 32):=by show canDe _=_;unfold canDe;rw [if_pos ok3]
   have e2:vlK 4 s=Num.decVal (Lib.trimB s 32):=rfl
   rw [e1] at cs
   rw [e2] at hr
   subst hr
   have ts:=Num.rdecimal_spec (G:=G) (canD (Lib.trimB s 32)) (Nat.le_trans (canD_small ok3) (by decide))
   rw [Decs.canD_ok ok3,if_pos rfl,Decs.canD_val ok3] at ts
   generalize canD (Lib.trimB s 32)=x at *
   simp (config:={maxSteps:=1000000}) (disch:=(try simp only [awL]);omega) only [awS,Tryz.f26,↓awU,awV,awX,awF,↓reduceIte,↓reduceDIte,↓Qe,Qu,Qv,Qw,Qx,Qy,Qz,QA,QB,QC,QD,QE,QF,QG,QH,QI,QK]
   refine CallC.of cs (by rfl) ?_
   simp (config:={maxSteps:=1000000}) (disch:=(try simp only [awL]);omega) only [awS,↓awU,awV,awX,awF,↓reduceIte,↓reduceDIte,↓Qe,Qu,Qv,Qw,Qx,Qy,Qz,QA,QB,QC,QD,QE,QF,QG,QH,QI,QK]
   refine CallC.of ts (by rfl) ?_
   simp (config:={maxSteps:=1000000}) (disch:=(try simp only [awL]);omega) only [awS,↓awU,awV,awX,awF,↓reduceIte,↓reduceDIte,↓Qe,Qu,Qv,Qw,Qx,Qy,Qz,QA,QB,QC,QD,QE,QF,QG,QH,QI,QK]
   first | done | rfl
  ·rw [decide_eq_false (by decide),Bool.not_false,if_pos rfl] at hr
   have ok3:okD (Lib.trimB s 32)=true:=ok
   have e1:cnK 5 s=dateS (rdt (Lib.trimB s 32)).1 (rdt (Lib.trimB s 32)).2.1 (rdt (Lib.trimB s 32)).2.2.1:=by show canDt _=_;unfold canDt;rw [if_pos ok3]
   have e2:vlK 5 s=(dtV (Lib.trimB s 32):Rat):=rfl
   rw [e1] at cs
   rw [e2] at hr
   unfold dtV at hr
   have od:=rdt_ok ok3
   generalize (rdt (Lib.trimB s 32)).1=y at *
   generalize (rdt (Lib.trimB s 32)).2.1=m at *
   generalize (rdt (Lib.trimB s 32)).2.2.1=d at *
   obtain ⟨p1,p2,p3,p4,p5,p6⟩:=okDt_pos od
   have dl:(dateS y m d).length=10:=dateS_len _ _ _
   have rs:=rdtx_spec (G:=G) (dateS y m d) (by omega)
   rw [rdt_dateS od] at rs
   unfold D4E at rs
   simp only at rs
   have dy:=rday_spec (G:=G) y m d (by omega) (by omega) (by omega) (by omega) (by omega) (by omega)
   have dr:-719162≤dayV y m d∧dayV y m d≤2932896:=by
    have:=(okDt_is od).range
    unfold dayV
    rw [if_pos od];omega
   have rf:=rofW_spec (G:=G) (dayV y m d) (by omega) (by omega)
   subst hr
   generalize dayV y m d=dv at *
   generalize dateS y m d=x at *
   rw [od] at dy
   simp (config:={maxSteps:=1000000}) (disch:=(try simp only [awL]);omega) only [awS,Tryz.f26,↓awU,awV,awX,awF,↓reduceIte,↓reduceDIte,↓Qe,Qu,Qv,Qw,Qx,Qy,Qz,QA,QB,QC,QD,QE,QF,QG,QH,QI,QK]
   refine CallC.of cs (by rfl) ?_
   simp (config:={maxSteps:=1000000}) (disch:=(try simp only [awL]);omega) only [awS,↓awU,awV,awX,awF,↓reduceIte,↓reduceDIte,↓Qe,Qu,Qv,Qw,Qx,Qy,Qz,QA,QB,QC,QD,QE,QF,QG,QH,QI,QK]
   refine CallC.of rs (by rfl) ?_
   simp (config:={maxSteps:=1000000}) (disch:=(try simp only [awL]);omega) only [awS,↓awU,awV,awX,awF,↓reduceIte,↓reduceDIte,↓Qe,Qu,Qv,Qw,Qx,Qy,Qz,QA,QB,QC,QD,QE,QF,QG,QH,QI,QK]
   refine CallC.of dy (by rfl) ?_
   simp (config:={maxSteps:=1000000}) (disch:=(try simp only [awL]);omega) only [awS,↓awU,awV,awX,awF,↓reduceIte,↓reduceDIte,↓Qe,Qu,Qv,Qw,Qx,Qy,Qz,QA,QB,QC,QD,QE,QF,QG,QH,QI,QK]
   refine CallC.of rf (by rfl) ?_
   simp (config:={maxSteps:=1000000}) (disch:=(try simp only [awL]);omega) only [awS,↓awU,awV,awX,awF,↓reduceIte,↓reduceDIte,↓Qe,Qu,Qv,Qw,Qx,Qy,Qz,QA,QB,QC,QD,QE,QF,QG,QH,QI,QK]
   first | done | rfl
  ·rw [(okK_no h s).1] at ok;cases ok
theorem posB_le (bf:Opt→Opt→Bool) (o:Opt) (s:List Opt):∀ n,posB bf o s n≤n
 | 0=>Nat.le_refl _
 | n+1=>by
   rw [posB]
   split
   ·exact Nat.le_succ_of_le (posB_le bf o s n)
   ·exact Nat.le_refl _
theorem posB_ahead (bf:Opt→Opt→Bool) (o:Opt) (s:List Opt):∀ n,0<posB bf o s n→bf o (s.getD (posB bf o s n - 1) noO)=false
 | 0,h=>absurd h (Nat.lt_irrefl 0)
 | n+1,h=>by
   rw [posB] at h ⊢
   by_cases q:bf o (s.getD n noO)=true
   ·rw [if_pos q] at h ⊢;exact posB_ahead bf o s n h
   ·rw [if_neg q,Nat.add_sub_cancel];simpa using q
theorem posB_behind (bf:Opt→Opt→Bool) (o:Opt) (s:List Opt):∀ n i,posB bf o s n≤i→i<n→bf o (s.getD i noO)=true
 | 0,i,_,h=>absurd h (Nat.not_lt_zero _)
 | n+1,i,h1,h2=>by
   rw [posB] at h1
   by_cases q:bf o (s.getD n noO)=true
   ·rw [if_pos q] at h1
    rcases Nat.lt_or_ge i n with g | g
    ·exact posB_behind bf o s n i h1 g
    ·obtain rfl:i=n:=by omega
     exact q
   ·rw [if_neg q] at h1;omega
def AscO (s:List Opt):Prop:=s.Pairwise fun a b=>a.ag≤b.ag
theorem AscO.le {s:List Opt} (h:AscO s) {i j:Nat} (hi:i≤j) (hj:j<s.length):(s.getD i noO).ag≤(s.getD j noO).ag:=by
 rcases Nat.lt_or_eq_of_le hi with q | rfl
 ·have:=(List.pairwise_iff_getElem.1 h) i j (by omega) hj q
  rw [List.getD_eq_getElem?_getD,List.getElem?_eq_getElem (by omega),List.getD_eq_getElem?_getD,List.getElem?_eq_getElem hj]
  exact this
 ·exact Nat.le_refl _
theorem memG {s:List Opt} {x:Opt} (h:x∈s):∃ i,i<s.length∧s.getD i noO=x:=by
 obtain ⟨i,hi,e⟩:=List.getElem_of_mem h
 exact ⟨i,hi,by rw [List.getD_eq_getElem?_getD,List.getElem?_eq_getElem hi];exact e⟩
theorem asc_ins {s:List Opt} (h:AscO s) (o:Opt):AscO (insB befT o s):=by
 unfold insB
 have pl:=posB_le befT o s s.length
 have pa:=posB_ahead befT o s s.length
 have pb:=posB_behind befT o s s.length
 generalize posB befT o s s.length=p at *
 refine List.pairwise_append.2 ⟨h.sublist (List.take_sublist _ _),List.pairwise_cons.2 ⟨fun x hx=>?_,h.sublist (List.drop_sublist _ _)⟩,fun x hx y hy=>?_⟩
 ·obtain ⟨i,hi,rfl⟩:=memG hx
  rw [List.length_drop] at hi
  have e:(s.drop p).getD i noO=s.getD (p+i) noO:=by rw [List.getD_eq_getElem?_getD,List.getElem?_drop,← List.getD_eq_getElem?_getD]
  rw [e]
  have:=of_decide_eq_true (pb (p+i) (by omega) (by omega))
  omega
 ·obtain ⟨i,hi,rfl⟩:=memG hx
  rw [List.length_take] at hi
  have e:(s.take p).getD i noO=s.getD i noO:=by rw [List.getD_eq_getElem?_getD,List.getElem?_take,if_pos (by omega),← List.getD_eq_getElem?_getD]
  rw [e]
  have a1:(s.getD i noO).ag≤(s.getD (p - 1) noO).ag:=h.le (by omega) (by omega)
  rcases List.mem_cons.1 hy with rfl | hy
  ·have:=of_decide_eq_false (pa (by omega));omega
  ·obtain ⟨j,hj,rfl⟩:=memG hy
   rw [List.length_drop] at hj
   have e:(s.drop p).getD j noO=s.getD (p+j) noO:=by rw [List.getD_eq_getElem?_getD,List.getElem?_drop,← List.getD_eq_getElem?_getD]
   rw [e]
   exact h.le (by omega) (by omega)
theorem asc_sort (l:List Opt):AscO (sortB befT l):=by
 have:∀ (l s:List Opt),AscO s→AscO (l.foldl (fun s o=>insB befT o s) s):=by
  intro l
  induction l with
  | nil=>intro s h;exact h
  | cons o l ih=>intro s h;rw [List.foldl_cons];exact ih _ (asc_ins h o)
 exact this l [] List.Pairwise.nil
theorem ins_mem2 {bf:Opt→Opt→Bool} {o:Opt} {s:List Opt}:o∈insB bf o s∧∀ x∈s,x∈insB bf o s:=by
 unfold insB
 refine ⟨by simp,fun x hx=>?_⟩
 rw [← List.take_append_drop (posB bf o s s.length) s] at hx
 rcases List.mem_append.1 hx with q | q
 ·exact List.mem_append.2 (.inl q)
 ·exact List.mem_append.2 (.inr (List.mem_cons_of_mem _ q))
theorem sort_mem2 {bf:Opt→Opt→Bool} {l:List Opt}:∀ x∈l,x∈sortB bf l:=by
 have:∀ (l s:List Opt) (x:Opt),x∈s∨x∈l→x∈l.foldl (fun s o=>insB bf o s) s:=by
  intro l
  induction l with
  | nil=>intro s x h;rcases h with h | h;exact h;cases h
  | cons o l ih =>
   intro s x h
   rw [List.foldl_cons]
   refine ih _ _ ?_
   rcases h with h | h
   ·exact .inl (ins_mem2.2 x h)
   ·rcases List.mem_cons.1 h with rfl | h
    ·exact .inl ins_mem2.1
    ·exact .inr h
 intro x hx
 exact this l [] x (.inr hx)
theorem opts_mem {l:List Cel} {o:Opt}:o∈optsT l↔∃ k,kOf k∧o=optT l k:=by
 constructor
 ·intro h
  obtain ⟨k,hk,rfl⟩:=List.mem_map.1 (sortB_mem h)
  refine ⟨k,?_,rfl⟩
  have:k∈ordL:=List.mem_of_mem_take hk
  unfold ordL at this
  simp only [List.mem_cons,List.not_mem_nil,or_false] at this
  unfold kOf;omega
 ·rintro ⟨k,hk,rfl⟩
  refine sort_mem2 _ (List.mem_map.2 ⟨k,?_,rfl⟩)
  rw [List.take_of_length_le (by rw [ord_len];exact Nat.le_refl _)]
  unfold ordL
  unfold kOf at hk
  simp only [List.mem_cons,List.not_mem_nil,or_false];omega
theorem cnt_T (k:Int):∀ l:List Cel,l.countP (isT k)+l.countP (noT k)=l.countP vsT
 | []=>rfl
 | x::l=>by
   have ih:=cnt_T k l
   rw [List.countP_cons,List.countP_cons,List.countP_cons]
   obtain ⟨t,n⟩:=x
   have e1:isT k (t,n)=(!n && okK k t):=rfl
   have e2:noT k (t,n)=(!n && !okK k t):=rfl
   have e3:vsT (t,n)=!n:=rfl
   rw [e1,e2,e3]
   cases n<;>cases okK k t<;>simp<;>omega
theorem noT_1 (l:List Cel):l.countP (noT 1)=0:=by
 rw [List.countP_eq_zero]
 intro x _
 unfold noT
 rw [show okK 1 x.1=true from rfl]
 simp
theorem opts_head (l:List Cel):∃ k,kOf k∧(optsT l).getD 0 noO=optT l k∧l.countP (noT k)=0∧l.countP (isT k)=l.countP vsT:=by
 have ln:=optsT_len l
 have m0:(optsT l).getD 0 noO∈optsT l:=memD (d:=noO) (by omega)
 obtain ⟨k,hk,e⟩:=opts_mem.1 m0
 obtain ⟨i,hi,e1⟩:=memG (opts_mem.2 ⟨1,by unfold kOf;omega,rfl⟩:optT l 1∈optsT l)
 have le:((optsT l).getD 0 noO).ag≤((optsT l).getD i noO).ag:=(asc_sort _).le (Nat.zero_le _) hi
 rw [e1,e] at le
 have z:l.countP (noT k)≤l.countP (noT 1):=le
 rw [noT_1] at z
 have:=cnt_T k l
 exact ⟨k,hk,e,by omega,by omega⟩
theorem gsT_of (l:List Cel):∃ k,kOf k∧(optsT l).getD 0 noO=optT l k∧l.countP (noT k)=0∧gsT l=if l.countP vsT=0 then 1 else k:=by
 obtain ⟨k,hk,e,z,_⟩:=opts_head l
 refine ⟨k,hk,e,z,?_⟩
 unfold gsT
 rw [e]
 have en:nmdK (optT l k).txt=k:=nmd_of hk
 rw [en]
 by_cases c:l.countP vsT=0
 ·rw [if_pos c,if_neg]
  intro q
  obtain ⟨x,hx,hv⟩:=List.any_eq_true.1 q
  exact absurd hv (List.countP_eq_zero.1 c x hx)
 ·rw [if_neg c,if_pos]
  obtain ⟨x,hx,hv⟩:=List.countP_pos_iff.1 (Nat.pos_of_ne_zero c)
  exact List.any_eq_true.2 ⟨x,hx,hv⟩
theorem rwords_spec:Ctr TP G 53 [] [] (.d (Ss wdL false)) []:=by
 refine Ctr.pure (M:=M0) hmix Tryz.func53 rfl go53 ?_
 simp (config:={maxSteps:=1000000}) (disch:=(try simp only [awL]);omega) only [awS,Tryz.f53,↓awU,awV,awX,awF,↓reduceIte,↓reduceDIte,↓Qe,Qu,Qv,Qw,Qx,Qy,Qz,QA,QB,QC,QD,QE,QF,QG,QH,QI,QK]
 first | done | rfl
theorem wd_at {n:Nat} (h:n<5):(strs wdL).getD n .nilp=S (nmK ((n+1:Nat):Int)):=by
 have:n=0∨n=1∨n=2∨n=3∨n=4:=by omega
 rcases this with rfl | rfl | rfl | rfl | rfl<;>rfl
theorem kOf_nat {k:Int} (h:kOf k):∃ n:Nat,n<5∧k=((n+1:Nat):Int):=⟨(k - 1).toNat,by unfold kOf at h;omega,by unfold kOf at h;omega⟩
theorem rtname_spec (k:Int) (k1:-9223372036854775808≤k) (k2:k≤9223372036854775807):Ctr TP G 24 [.d (.int .i64 k)] [] (.d (.tup [S (nmK k),.bool (decide (kOf k))])) []:=by
 refine Ctr.pure (M:=M0) hmix Tryz.func24 rfl go24 ?_
 have wl:(strs wdL).length=5:=rfl
 have wl5:wdL.length=5:=rfl
 by_cases h:kOf k
 ·obtain ⟨n,hn,rfl⟩:=kOf_nat h
  rw [decide_eq_true h]
  have wa:=wd_at hn
  have en:(((n+1:Nat):Int) - 1)=(n:Int):=by omega
  generalize nmK ((n+1:Nat):Int)=x at *
  simp (config:={maxSteps:=1000000}) (disch:=(try simp only [awL]);omega) only [awS,en,Tryz.f24,↓awU,awV,awX,awF,↓reduceIte,↓reduceDIte,↓Qe,Qu,Qv,Qw,Qx,Qy,Qz,QA,QB,QC,QD,QE,QF,QG,QH,QI,QK]
  refine CallC.of rwords_spec (by rfl) ?_
  simp (config:={maxSteps:=1000000}) (disch:=(try simp only [awL]);omega) only [awS,en,wl,wl5,wa,↓awU,awV,awX,awF,↓reduceIte,↓reduceDIte,↓Qe,Qu,Qv,Qw,Qx,Qy,Qz,QA,QB,QC,QD,QE,QF,QG,QH,QI,QK]
  first | done | rfl
 ·have e1:nmK k=[]:=by unfold kOf at h;unfold nmK;rw [if_neg (by omega),if_neg (by omega),if_neg (by omega),if_neg (by omega),if_neg (by omega)]
  rw [e1,decide_eq_false h]
  unfold kOf at h
  rcases Int.lt_or_le k 1 with q | q
  ·simp (config:={maxSteps:=1000000}) (disch:=(try simp only [awL]);omega) only [awS,Tryz.f24,↓awU,awV,awX,awF,↓reduceIte,↓reduceDIte,↓Qe,Qu,Qv,Qw,Qx,Qy,Qz,QA,QB,QC,QD,QE,QF,QG,QH,QI,QK]
   first | done | rfl
  ·have q2:5<k:=by omega
   simp (config:={maxSteps:=1000000}) (disch:=(try simp only [awL]);omega) only [awS,Tryz.f24,↓awU,awV,awX,awF,↓reduceIte,↓reduceDIte,↓Qe,Qu,Qv,Qw,Qx,Qy,Qz,QA,QB,QC,QD,QE,QF,QG,QH,QI,QK]
   first | done | rfl
theorem nmd_at {s:List UInt8} {i:Nat} (hi:i<5) (h:∀ j,j<i→nmK ((j+1:Nat):Int)≠s):(nmK ((i+1:Nat):Int)=s→nmdK s=((i+1:Nat):Int)):=fun e=>by
 rw [← e];exact nmd_of (by unfold kOf;omega)
theorem rnamed_spec (s:List UInt8):Ctr TP G 34 [.d (S s)] [] (.d (.tup [.int .i64 (nmdK s),.bool (decide (nmdK s≠0))])) []:=by
 obtain ⟨r,hr⟩:∃ r,r=D.tup [D.int .i64 (nmdK s),D.bool (decide (nmdK s≠0))]:=⟨_,rfl⟩
 rw [← hr]
 refine Ctr.pure (M:=M0) hmix Tryz.func34 rfl go34 ?_
 have wl:(strs wdL).length=5:=rfl
 have wl5:wdL.length=5:=rfl
 simp (config:={maxSteps:=1000000}) (disch:=(try simp only [awL]);omega) only [awS,Tryz.f34,↓awU,awV,awX,awF,↓reduceIte,↓reduceDIte,↓Qe,Qu,Qv,Qw,Qx,Qy,Qz,QA,QB,QC,QD,QE,QF,QG,QH,QI,QK]
 refine CallC.of rwords_spec (by rfl) ?_
 simp (config:={maxSteps:=1000000}) (disch:=(try simp only [awL]);omega) only [awS,wl,wl5,↓awU,awV,awX,awF,↓reduceIte,↓reduceDIte,↓Qe,Qu,Qv,Qw,Qx,Qy,Qz,QA,QB,QC,QD,QE,QF,QG,QH,QI,QK]
 refine LoopC.fr 193 (α:=Nat) (fun i=>5 - i) (fun i=>[(8,.d (.int .i64 (i:Nat)))]) (fun _=>[]) (fun i=>i≤5∧∀ j,j<i→nmK ((j+1:Nat):Int)≠s) 0 ⟨Nat.zero_le _,fun j h=>absurd h (Nat.not_lt_zero _)⟩ ?_ ?_
 ·exact ⟨[],rfl,by simp,by simp [sA,kA,SW,AW],by simp [HW,BW,SW,AW]⟩
 ·rintro i ⟨h1,h2⟩
  simp only [awK,Nat.reduceMod,Nat.reduceDiv,reduceIte]
  rcases Nat.lt_or_ge i 5 with h | h
  ·have wa:=wd_at h
   have na:=nmd_at h h2
   generalize hx:nmK ((i+1:Nat):Int)=x at *
   by_cases e:x=s
   ·have e':(x=s)=True:=eq_true e
    rw [na e,decide_eq_true (by omega)] at hr
    subst hr
    simp (config:={maxSteps:=1000000}) (disch:=(try simp only [awL]);omega) only [awS,wl,wl5,wa,e',↓awU,awV,awX,awF,↓reduceIte,↓reduceDIte,↓Qe,Qu,Qv,Qw,Qx,Qy,Qz,QA,QB,QC,QD,QE,QF,QG,QH,QI,QK]
    first | done | rfl
   ·have e':(x=s)=False:=eq_false e
    simp (config:={maxSteps:=1000000}) (disch:=(try simp only [awL]);omega) only [awS,wl,wl5,wa,e',↓awU,awV,awX,awF,↓reduceIte,↓reduceDIte,↓Qe,Qu,Qv,Qw,Qx,Qy,Qz,QA,QB,QC,QD,QE,QF,QG,QH,QI,QK]
    first
    | exact ⟨i+1,⟨h,fun j hj=>by rcases Nat.lt_or_eq_of_le (Nat.le_of_lt_succ hj) with q | rfl;exact h2 j q;rw [hx];exact e⟩,by simp only;omega,⟨[],rfl,by simp,by simp [sA,kA,SW,AW],by simp [HW,BW,SW,AW]⟩⟩
  ·obtain rfl:i=5:=by omega
   have z:nmdK s=0:=nmd_no fun n hn=>by
    obtain ⟨m,hm,rfl⟩:=kOf_nat hn
    exact h2 m hm
   rw [z,decide_eq_false (by decide)] at hr
   subst hr
   simp (config:={maxSteps:=1000000}) (disch:=(try simp only [awL]);omega) only [awS,wl,wl5,↓awU,awV,awX,awF,↓reduceIte,↓reduceDIte,↓Qe,Qu,Qv,Qw,Qx,Qy,Qz,QA,QB,QC,QD,QE,QF,QG,QH,QI,QK]
   first | done | rfl
def MV:Muts:=fun k=>Nat.beq k 2000076
theorem MV_n {k:Nat} (h:k≠2000076):MV k=false:=by unfold MV;cases e:Nat.beq k 2000076 with
 | false=>rfl
 | true=>exact absurd (Nat.eq_of_beq_eq_true e) h
theorem MV_t {k:Nat} (h:k=2000076):MV k=true:=by subst h;rfl
theorem rtoptions_spec (nm:List UInt8) (l:List Cel) (full:Bool) (hl:okY l) :
  Ctr TP G 31 [.d (.agg [S nm,CelS l full])] [] (.d (.sl (optsT l).length false (optC (optsT l)))) []:=by
 refine Ctr.pure (M:=MV) hmix Tryz.func31 rfl go31 ?_
 have lc:=celsD_length l
 have l1:=hl.1
 have wl:(strs wdL).length=5:=rfl
 have wl5:wdL.length=5:=rfl
 have oo:=ints_length (k:=.i64) (l:=ordL)
 rw [ord_len] at oo
 simp (config:={maxSteps:=1000000}) (disch:=(try simp only [awL]);omega) only [awS,lc,MV_n,Tryz.f31,↓awU,awV,awX,awF,↓reduceIte,↓reduceDIte,↓Qe,Qu,Qv,Qw,Qx,Qy,Qz,QA,QB,QC,QD,QE,QF,QG,QH,QI,QK]
 refine LoopC.fx 12290 (α:=Nat) (β:=Unit) (fun i=>5 - i) (fun i=>[(3,.lsl 2 3 0 (sortB befT (preT l i)).length),(14,.d (.int .i64 (i:Nat)))]) (fun i=>[.box [.d (S nm),.d (CelS l full)],.row false (ints .i64 ordL),.row false (optC (sortB befT (preT l i)))]) (fun i=>i≤5)
  0 (fun _=>[(3,.lsl 0 3 0 (optsT l).length)]) (fun _=>[.row false (optC (optsT l))]) (fun _=>True) 0 (Nat.zero_le _) ?_ ?_ ?_
 ·first
  | exact ⟨[some 0,some 1,none],rfl,by simp,by simp [sA,kA,SW,AW,preT,sortB],by simp [HW,BW,SW,AW,preT,sortB,optC,ints,ordL]⟩
 ·intro i hi
  rcases Nat.lt_or_ge i 5 with h | h
  ·have pst:=preT_step l h
   have gi:=ints_getD (k:=.i64) (d:=.nilp) (l:=ordL) (i:=i) (by rw [ord_len];exact h)
   have kf:=ord_ok h
   have sln:=sortB_len befT (preT l i)
   rw [preT_len l hi] at sln
   have pl1:=preT_len l (i:=i+1) h
   generalize ordL.getD i 0=k0 at *
   obtain ⟨n,hn,rfl⟩:=kOf_nat kf
   have wa:=wd_at hn
   have en:(((n+1:Nat):Int) - 1)=(n:Int):=by omega
   have hso:sortB befT (preT l (i+1))=insB befT (optT l ((n+1:Nat):Int)) (sortB befT (preT l i)):=by rw [pst,sortB_snoc]
   have okS:∀ o∈sortB befT (preT l i),OkOp o:=fun o ho=>preT_ok l1 i o (sortB_mem ho)
   have mkc:(optT l ((n+1:Nat):Int)).cells=[S (nmK ((n+1:Nat):Int)),.int .i64 (l.countP (isT ((n+1:Nat):Int)):Nat),.int .i64 (l.countP (noT ((n+1:Nat):Int)):Nat)]:=rfl
   have hk:∃ k:Int,k=((n+1:Nat):Int):=⟨_,rfl⟩
   obtain ⟨k,hk⟩:=hk
   rw [← hk] at wa en hso mkc gi
   generalize hst2:sortB befT (preT l i)=st at *
   have ol:=optC_length st
   simp only [awK,Nat.reduceMod,Nat.reduceDiv,reduceIte]
   simp (config:={maxSteps:=1000000}) (disch:=(try simp only [awL]);omega) only [awS,lc,ol,oo,gi,MV_n,↓awU,awV,awX,awF,↓reduceIte,↓reduceDIte,↓Qe,Qu,Qv,Qw,Qx,Qy,Qz,QA,QB,QC,QD,QE,QF,QG,QH,QI,QK]
   refine CallC.of rwords_spec (by rfl) ?_
   simp (config:={maxSteps:=1000000}) (disch:=(try simp only [awL]);omega) only [awS,lc,ol,wl,wl5,en,wa,MV_n,↓awU,awV,awX,awF,↓reduceIte,↓reduceDIte,↓Qe,Qu,Qv,Qw,Qx,Qy,Qz,QA,QB,QC,QD,QE,QF,QG,QH,QI,QK]
   refine LoopC.fx 100692074 (α:=Nat) (β:=Unit) (fun j=>l.length - j) (fun j=>[(27,.d (.int .i64 (j:Nat)))])
    (fun j=>[.box [.d (S nm),.d (CelS l full)],.row false (ints .i64 ordL),.row false (optC st),.box [.d (S (nmK k)),.d (.int .i64 ((l.take j).countP (isT k):Nat)),.d (.int .i64 ((l.take j).countP (noT k):Nat))]]) (fun j=>j≤l.length)
    28746 (fun _=>[]) (fun _=>[.box [.d (S nm),.d (CelS l full)],.row false (ints .i64 ordL),.row false (optC st),.box [.d (S (nmK k)),.d (.int .i64 (l.countP (isT k):Nat)),.d (.int .i64 (l.countP (noT k):Nat))]]) (fun _=>True) 0 (Nat.zero_le _) ?_ ?_ ?_
   ·first
    | exact ⟨[some 0,some 1,some 2,some 3],rfl,by simp,by simp [sA,kA,SW,AW],by simp [HW,BW,SW,AW]⟩
   ·intro j hj
    have c1:=countP_le_n9 (isT k) (m:=1000000) l1 j
    have c2:=countP_le_n9 (noT k) (m:=1000000) l1 j
    simp only [awK,Nat.reduceMod,Nat.reduceDiv,reduceIte]
    rcases Nat.lt_or_ge j l.length with h3 | h3
    ·have gc:=celsD_get h3
     have gx:=hl.at h3
     have d1:=countP_step9 (isT k) h3
     have d2:=countP_step9 (noT k) h3
     generalize l.getD j noC=x at *
     obtain ⟨t,nul⟩:=x
     simp only at gx
     have gc:((celsD l).drop (j*2)).take 2=[.bool nul,S t]:=gc
     generalize (l.take j).countP (isT k)=f at *
     generalize (l.take j).countP (noT k)=g at *
     have cs:=rcanon_spec (G:=G) k t gx
     have q1:isT k (t,nul)=(!nul && okK k t):=rfl
     have q2:noT k (t,nul)=(!nul && !okK k t):=rfl
     rw [q1] at d1
     rw [q2] at d2
     generalize okK k t=o at *
     generalize cnK k t=y at *
     cases nul
     ·simp (config:={maxSteps:=1000000}) (disch:=(try simp only [awL]);omega) only [awS,lc,gc,MV_n,↓awU,awV,awX,awF,↓reduceIte,↓reduceDIte,↓Qe,Qu,Qv,Qw,Qx,Qy,Qz,QA,QB,QC,QD,QE,QF,QG,QH,QI,QK]
      refine CallC.of cs (by rfl) ?_
      cases o
      ·rw [if_neg (by decide),Nat.add_zero] at d1
       rw [if_pos (by decide)] at d2
       have en2:((g:Int)+1)=((g+1:Nat):Int):=by omega
       simp (config:={maxSteps:=1000000}) (disch:=(try simp only [awL]);omega) only [awS,lc,en2,MV_n,↓awU,awV,awX,awF,↓reduceIte,↓reduceDIte,↓Qe,Qu,Qv,Qw,Qx,Qy,Qz,QA,QB,QC,QD,QE,QF,QG,QH,QI,QK]
       first
       | exact ⟨j+1,h3,by simp only;omega,⟨[some 0,some 1,some 2,some 3],rfl,by simp,by simp [sA,kA,SW,AW],by simp [HW,BW,SW,AW,d1,d2]⟩⟩
       | exact ⟨by rfl,j+1,h3,by simp only;omega,⟨[some 0,some 1,some 2,some 3],rfl,by simp,by simp [sA,kA,SW,AW],by simp [HW,BW,SW,AW,d1,d2]⟩⟩
      ·rw [if_neg (by decide),Nat.add_zero] at d2
       rw [if_pos (by decide)] at d1
       have en2:((f:Int)+1)=((f+1:Nat):Int):=by omega
       simp (config:={maxSteps:=1000000}) (disch:=(try simp only [awL]);omega) only [awS,lc,en2,MV_n,↓awU,awV,awX,awF,↓reduceIte,↓reduceDIte,↓Qe,Qu,Qv,Qw,Qx,Qy,Qz,QA,QB,QC,QD,QE,QF,QG,QH,QI,QK]
       first
       | exact ⟨j+1,h3,by simp only;omega,⟨[some 0,some 1,some 2,some 3],rfl,by simp,by simp [sA,kA,SW,AW],by simp [HW,BW,SW,AW,d1,d2]⟩⟩
       | exact ⟨by rfl,j+1,h3,by simp only;omega,⟨[some 0,some 1,some 2,some 3],rfl,by simp,by simp [sA,kA,SW,AW],by simp [HW,BW,SW,AW,d1,d2]⟩⟩
     ·rw [Bool.not_true,Bool.false_and,if_neg Bool.false_ne_true,Nat.add_zero] at d1 d2
      simp (config:={maxSteps:=1000000}) (disch:=(try simp only [awL]);omega) only [awS,lc,gc,MV_n,↓awU,awV,awX,awF,↓reduceIte,↓reduceDIte,↓Qe,Qu,Qv,Qw,Qx,Qy,Qz,QA,QB,QC,QD,QE,QF,QG,QH,QI,QK]
      first
      | exact ⟨j+1,h3,by simp only;omega,⟨[some 0,some 1,some 2,some 3],rfl,by simp,by simp [sA,kA,SW,AW],by simp [HW,BW,SW,AW,d1,d2]⟩⟩
      | exact ⟨by rfl,j+1,h3,by simp only;omega,⟨[some 0,some 1,some 2,some 3],rfl,by simp,by simp [sA,kA,SW,AW],by simp [HW,BW,SW,AW,d1,d2]⟩⟩
    ·have e:j=l.length:=by omega
     subst e
     simp (config:={maxSteps:=1000000}) (disch:=(try simp only [awL]);omega) only [awS,lc,List.take_length,MV_n,↓awU,awV,awX,awF,↓reduceIte,↓reduceDIte,↓Qe,Qu,Qv,Qw,Qx,Qy,Qz,QA,QB,QC,QD,QE,QF,QG,QH,QI,QK]
     first
     | exact ⟨(),trivial,⟨[some 0,some 1,some 2,some 3],rfl,by simp,by simp [sA,kA,SW,AW],by simp [HW,BW,SW,AW]⟩⟩
   ·rintro ⟨⟩ -
    have c1:l.countP (isT k)≤1000000:=Nat.le_trans List.countP_le_length l1
    have c2:l.countP (noT k)≤1000000:=Nat.le_trans List.countP_le_length l1
    simp only [awK,Nat.reduceMod,Nat.reduceDiv,reduceIte]
    simp (config:={maxSteps:=1000000}) (disch:=(try simp only [awL]);omega) only [awS,ol,MV_n,↓awU,awV,awX,awF,↓reduceIte,↓reduceDIte,↓Qe,Qu,Qv,Qw,Qx,Qy,Qz,QA,QB,QC,QD,QE,QF,QG,QH,QI,QK]
    obtain ⟨mk,hmk⟩:∃ mk,mk=optT l k:=⟨_,rfl⟩
    rw [← hmk] at hso mkc
    have mt:mk.txt=nmK k:=by rw [hmk];rfl
    have mf:mk.fr=l.countP (isT k):=by rw [hmk];rfl
    have ma:mk.ag=l.countP (noT k):=by rw [hmk];rfl
    rw [← mt,← mf,← ma] at *
    clear hmk mt mf ma
    refine LoopC.fx 28746 (α:=Nat) (β:=Nat) (fun k=>k) (fun k=>[(11,.d (.int .i64 (k:Nat)))]) (fun _=>[.box [.d (S nm),.d (CelS l full)],.row false (ints .i64 ordL),.row false (optC st),.box [.d (S mk.txt),.d (.int .i64 mk.fr),.d (.int .i64 mk.ag)]])
     (fun k=>k≤st.length∧posB befT mk st st.length=posB befT mk st k) 28746 (fun k=>[(11,.d (.int .i64 (k:Nat)))]) (fun _=>[.box [.d (S nm),.d (CelS l full)],.row false (ints .i64 ordL),.row false (optC st),.box [.d (S mk.txt),.d (.int .i64 mk.fr),.d (.int .i64 mk.ag)]]) (fun k=>k≤st.length∧k=posB befT mk st st.length) st.length ⟨Nat.le_refl _,rfl⟩ ?_ ?_ ?_
    ·first | exact ⟨[some 0,some 1,some 2,some 3],rfl,by simp,by simp [sA,kA,SW,AW],by simp [HW,BW,SW,AW]⟩
    ·rintro k ⟨k1,k2⟩
     simp only [awK,Nat.reduceMod,Nat.reduceDiv,reduceIte]
     rcases Nat.eq_zero_or_pos k with h0 | h0
     ·subst h0
      simp (config:={maxSteps:=1000000}) (disch:=(try simp only [awL]);omega) only [awS,MV_n,↓awU,awV,awX,awF,↓reduceIte,↓reduceDIte,↓Qe,Qu,Qv,Qw,Qx,Qy,Qz,QA,QB,QC,QD,QE,QF,QG,QH,QI,QK]
      first | exact ⟨by rfl,0,⟨by omega,by rw [k2];rfl⟩,⟨[some 0,some 1,some 2,some 3],rfl,by simp,by simp [sA,kA,SW,AW],by simp [HW,BW,SW,AW]⟩⟩
     ·obtain ⟨q,rfl⟩:∃ q,k=q+1:=⟨k - 1,by omega⟩
      have eq1:(((q+1:Nat):Int) - 1)=(q:Int):=by omega
      have o2:=optC_ag (l:=st) (q:=q) (by omega)
      rw [show posB befT mk st (q+1)=if befT mk (st.getD q noO)=true then posB befT mk st q else q+1 from rfl] at k2
      obtain ⟨okp1,okp2⟩:=okS _ (memD (d:=noO) (l:=st) (i:=q) (by omega))
      generalize st.getD q noO=p at *
      unfold befT at k2
      by_cases hw:mk.ag<p.ag
      ·rw [if_pos (decide_eq_true hw)] at k2
       simp (config:={maxSteps:=1000000}) (disch:=(try simp only [awL]);omega) only [awS,MV_n,eq1,o2,↓awU,awV,awX,awF,↓reduceIte,↓reduceDIte,↓Qe,Qu,Qv,Qw,Qx,Qy,Qz,QA,QB,QC,QD,QE,QF,QG,QH,QI,QK]
       first | exact ⟨by rfl,q,⟨by omega,k2⟩,by simp only;omega,⟨[some 0,some 1,some 2,some 3],rfl,by simp,by simp [sA,kA,SW,AW],by simp [HW,BW,SW,AW]⟩⟩
      ·rw [if_neg (by simpa using hw)] at k2
       simp (config:={maxSteps:=1000000}) (disch:=(try simp only [awL]);omega) only [awS,MV_n,eq1,o2,↓awU,awV,awX,awF,↓reduceIte,↓reduceDIte,↓Qe,Qu,Qv,Qw,Qx,Qy,Qz,QA,QB,QC,QD,QE,QF,QG,QH,QI,QK]
       first | exact ⟨by rfl,q+1,⟨by omega,k2.symm⟩,⟨[some 0,some 1,some 2,some 3],rfl,by simp,by simp [sA,kA,SW,AW],by simp [HW,BW,SW,AW]⟩⟩
    ·rintro k ⟨k1,k2⟩
     simp only [awK,Nat.reduceMod,Nat.reduceDiv,reduceIte]
     unfold insB at hso
     rw [← k2] at hso
     simp (config:={maxSteps:=1000000}) (disch:=(try simp only [awL]);omega) only [awS,MV_t,MV_n,show markK MV (some 76)=true from rfl,ol,↓awU,awV,awX,awF,↓reduceIte,↓reduceDIte,↓Qe,Qu,Qv,Qw,Qx,Qy,Qz,QA,QB,QC,QD,QE,QF,QG,QH,QI,QK]
     have c1:cut (optC st) (k*3) ((st.length - k)*3)=optC (st.drop k):=by
      unfold cut;rw [optC_drop,List.take_of_length_le (by rw [optC_length,List.length_drop];omega)]
     have c2:D.str (bs mk.txt)::D.int .i64 mk.fr::D.int .i64 mk.ag::optC (st.drop k)=optC (mk::st.drop k):=rfl
     have c3:cut (optC (mk::st.drop k)) 0 ((1+(st.length - k))*3)=optC (mk::st.drop k):=cut_all (by rw [optC_length,List.length_cons,List.length_drop];omega)
     have c4:(optC st).take (k*3)++optC (mk::st.drop k)=optC (sortB befT (preT l (i+1))):=by rw [optC_take,← optC_app,hso]
     have hln:(sortB befT (preT l (i+1))).length=k+(1+(st.length - k)):=by rw [sortB_len,pl1];omega
     rw [c1,c2,c3,c4]
     first
     | (refine ⟨by rw [optC_length,List.length_drop];omega,by rw [optC_length,List.length_cons,List.length_drop];omega,by rfl,
       i+1,h,by simp only;omega,⟨[some 0,some 1,some 6],rfl,by simp,by simp [sA,kA,SW,AW,hln],?_⟩⟩;simp [HW,BW,SW,AW,List.getElem?_cons_succ,List.getElem?_cons_zero])
  ·obtain rfl:i=5:=by omega
   simp only [awK,Nat.reduceMod,Nat.reduceDiv,reduceIte]
   simp (config:={maxSteps:=1000000}) (disch:=(try simp only [awL]);omega) only [awS,oo,MV_n,↓awU,awV,awX,awF,↓reduceIte,↓reduceDIte,↓Qe,Qu,Qv,Qw,Qx,Qy,Qz,QA,QB,QC,QD,QE,QF,QG,QH,QI,QK]
   rw [show sortB befT (preT l 5)=optsT l from rfl]
   first
   | exact ⟨(),trivial,⟨[some 2],rfl,by simp,by simp [sA,kA,SW,AW],by simp [HW,BW,SW,AW]⟩⟩
 ·rintro ⟨⟩ -
  simp only [awK,Nat.reduceMod,Nat.reduceDiv,reduceIte]
  have ol:=optC_length (optsT l)
  simp (config:={maxSteps:=1000000}) (disch:=(try simp only [awL]);omega) only [awS,ol,MV_n,↓awU,awV,awX,awF,↓reduceIte,↓reduceDIte,↓Qe,Qu,Qv,Qw,Qx,Qy,Qz,QA,QB,QC,QD,QE,QF,QG,QH,QI,QK]
  first
  | (rw [cut_all (by rw [ol];omega)])
def fitT (k:Int) (x:Cel):Bool:=x.2 || okK k x.1
def apT (k:Int) (x:Cel):Cel:=if x.2=true then x else (cnK k x.1,false)
def tapE (k:Int) (l:List Cel):Int:=if kOf k then (if l.all (fitT k)=true then 0 else 4) else 2
def tapR (nm:List UInt8) (k:Int) (l:List Cel):D:=.tup [if tapE k l=0 then .agg [S nm,CelS (l.map (apT k)) false] else .agg [S [],.sl 0 false []],.int .i64 (tapE k l)]
theorem map_stepT {k:Int} {l:List Cel} {i:Nat} (h:i<l.length):(l.take (i+1)).map (apT k)=(l.take i).map (apT k)++[apT k (l.getD i noC)]:=by
 rw [List.take_add_one,getD_some (d:=noC) h];simp
theorem look_yesT {k:Int} (h:kOf k):∃ f g,lookV (.agg [.str ByteArray.empty,.nilf,.nilf]) kindsM (.int .i64 k) true=.tup [.agg [S (nmK k),f,g],.bool true]∧(f.one && g.one)=true:=by
 unfold kOf at h
 rcases h with rfl | rfl | rfl | rfl | rfl<;>exact ⟨_,_,rfl,rfl⟩
theorem tapply_spec (hG:Num.HG G) (hE:HE G) (hP:HP G) (nm:List UInt8) (l:List Cel) (full:Bool) (hl:okY l) (k:Int) (k1:-9223372036854775808≤k) (k2:k≤9223372036854775807) :
  Ctr TP G 21 [.d (.agg [S nm,CelS l full]),.d (.int .i64 k)] [] (.d (tapR nm k l)) []:=by
 obtain ⟨r,hr⟩:∃ r,r=tapR nm k l:=⟨_,rfl⟩
 rw [← hr]
 unfold tapR tapE at hr
 have lc:=celsD_length l
 have l1:=hl.1
 have kk:=kk_int
 have hb0:ByteArray.empty=bs []:=rfl
 refine Ctr.pure (M:=M0) hmix Tryz.func21 rfl go21 ?_
 by_cases e1:kOf k
 ·rw [if_pos e1] at hr
  obtain ⟨f1,f2,lk,ff⟩:=look_yesT e1
  simp (config:={maxSteps:=1000000}) (disch:=(try simp only [awL]);omega) only [awS,lc,Tryz.f21,↓awU,awV,awX,awF,↓reduceIte,↓reduceDIte,↓Qe,Qu,Qv,Qw,Qx,Qy,Qz,QA,QB,QC,QD,QE,QF,QG,QH,QI,QK]
  refine CallC.by (L:=[]) kinds_spec (by rfl) (by rfl) (by simp) ?_
  simp (config:={maxSteps:=1000000}) (disch:=(try simp only [awL]);omega) only [awS,lc,kk,lk,↓awU,awV,awX,awF,↓reduceIte,↓reduceDIte,↓Qe,Qu,Qv,Qw,Qx,Qy,Qz,QA,QB,QC,QD,QE,QF,QG,QH,QI,QK]
  refine ⟨ff,?_⟩
  refine LoopC.fr 201326866 (α:=Nat) (fun i=>l.length - i) (fun i=>[(28,.d (.int .i64 (i:Nat)))])
   (fun i=>[.dead,.box [.d (.str ByteArray.empty),.d (.sl 0 true [])],.dead,.dead,.box [.d (S nm),.lsl 5 2 0 i],.row false (celsD ((l.take i).map (apT k)))]) (fun i=>i≤l.length∧(l.take i).all (fitT k)=true) 0 ⟨Nat.zero_le _,rfl⟩ ?_ ?_
  ·first
   | exact ⟨[some 0,some 1,some 2,some 3,some 4,none],rfl,by simp,by simp [sA,kA,SW,AW],by simp [HW,BW,SW,AW,celsD]⟩
  ·rintro i ⟨hi,ha⟩
   have al:=celsD_length ((l.take i).map (apT k))
   rw [List.length_map,List.length_take,Nat.min_eq_left hi] at al
   simp only [awK,Nat.reduceMod,Nat.reduceDiv,reduceIte]
   rcases Nat.lt_or_ge i l.length with h | h
   ·have gc:=celsD_get h
    have gx:=hl.at h
    have at1:=@all_takeU l (fitT k) i h ha
    have st:=map_stepT (k:=k) h
    have sp:=celsD_pushU ((l.take i).map (apT k)) (apT k (l.getD i noC))
    rw [← st] at sp
    rcases hx:l.getD i noC with ⟨t,nul⟩
    rw [hx] at gc gx at1 sp
    simp only at gx
    cases nul
    ·have mf:fitT k (t,false)=okK k t:=rfl
     rw [mf] at at1
     have gc:((celsD l).drop (i*2)).take 2=[.bool false,S t]:=gc
     have nf:okK k t=false→l.all (fitT k)=false:=fun q=>by
      cases q2:l.all (fitT k)
      ·rfl
      ·have:=List.all_eq_true.1 q2 _ (memD (d:=noC) h)
       rw [hx,mf,q] at this
       cases this
     have sp:celsD ((l.take i).map (apT k))++[.bool false,S (cnK k t)]=celsD ((l.take (i+1)).map (apT k)):=sp
     have cs:=canon_spec hG hE hP k k1 k2 t gx
     generalize okK k t=o at *
     generalize cnK k t=y at *
     simp (config:={maxSteps:=1000000}) (disch:=(try simp only [awL]);omega) only [awS,lc,al,gc,↓awU,awV,awX,awF,↓reduceIte,↓reduceDIte,↓Qe,Qu,Qv,Qw,Qx,Qy,Qz,QA,QB,QC,QD,QE,QF,QG,QH,QI,QK]
     refine CallC.of cs (by rfl) ?_
     cases o
     ·rw [nf rfl,if_neg Bool.false_ne_true,if_neg (by decide)] at hr
      subst hr
      simp (config:={maxSteps:=1000000}) (disch:=(try simp only [awL]);omega) only [awS,lc,al,↓awU,awV,awX,awF,↓reduceIte,↓reduceDIte,↓Qe,Qu,Qv,Qw,Qx,Qy,Qz,QA,QB,QC,QD,QE,QF,QG,QH,QI,QK]
      first | done | rfl
     ·simp (config:={maxSteps:=1000000}) (disch:=(try simp only [awL]);omega) only [awS,lc,al,↓awU,awV,awX,awF,↓reduceIte,↓reduceDIte,↓Qe,Qu,Qv,Qw,Qx,Qy,Qz,QA,QB,QC,QD,QE,QF,QG,QH,QI,QK]
      rw [List.map_take,List.map_take] at sp
      first
      | exact ⟨i+1,⟨h,at1 rfl⟩,by simp only;omega,⟨[some 0,some 1,some 2,some 3,some 4,some 8],rfl,by simp,by simp [sA,kA,SW,AW],by simp [HW,BW,SW,AW,cut,sp]⟩⟩
      | exact ⟨by rfl,i+1,⟨h,at1 rfl⟩,by simp only;omega,⟨[some 0,some 1,some 2,some 3,some 4,some 8],rfl,by simp,by simp [sA,kA,SW,AW],by simp [HW,BW,SW,AW,cut,sp]⟩⟩
    ·have gc:((celsD l).drop (i*2)).take 2=[.bool true,S t]:=gc
     have sp:celsD ((l.take i).map (apT k))++[.bool true,S t]=celsD ((l.take (i+1)).map (apT k)):=sp
     simp (config:={maxSteps:=1000000}) (disch:=(try simp only [awL]);omega) only [awS,lc,al,gc,↓awU,awV,awX,awF,↓reduceIte,↓reduceDIte,↓Qe,Qu,Qv,Qw,Qx,Qy,Qz,QA,QB,QC,QD,QE,QF,QG,QH,QI,QK]
     rw [List.map_take,List.map_take] at sp
     first
     | exact ⟨i+1,⟨h,at1 rfl⟩,by simp only;omega,⟨[some 0,some 1,some 2,some 3,some 4,some 8],rfl,by simp,by simp [sA,kA,SW,AW],by simp [HW,BW,SW,AW,cut,sp]⟩⟩
     | exact ⟨by rfl,i+1,⟨h,at1 rfl⟩,by simp only;omega,⟨[some 0,some 1,some 2,some 3,some 4,some 8],rfl,by simp,by simp [sA,kA,SW,AW],by simp [HW,BW,SW,AW,cut,sp]⟩⟩
   ·have e:i=l.length:=by omega
    subst e
    rw [List.take_length] at ha al ⊢
    rw [ha,if_pos rfl,if_pos rfl] at hr
    have ll:(l.map (apT k)).length=l.length:=by simp
    have cu:cut (celsD (l.map (apT k))) 0 (l.length*2)=celsD (l.map (apT k)):=cutA _ _ (by omega)
    subst hr
    unfold CelS
    rw [ll]
    simp (config:={maxSteps:=1000000}) (disch:=(try simp only [awL]);omega) only [awS,lc,al,cu,↓awU,awV,awX,awF,↓reduceIte,↓reduceDIte,↓Qe,Qu,Qv,Qw,Qx,Qy,Qz,QA,QB,QC,QD,QE,QF,QG,QH,QI,QK]
    first | done | rfl
 ·rw [if_neg e1,if_neg (by decide)] at hr
  have lk:=look_no e1
  unfold noK at lk
  subst hr
  simp (config:={maxSteps:=1000000}) (disch:=(try simp only [awL]);omega) only [awS,lc,Tryz.f21,↓awU,awV,awX,awF,↓reduceIte,↓reduceDIte,↓Qe,Qu,Qv,Qw,Qx,Qy,Qz,QA,QB,QC,QD,QE,QF,QG,QH,QI,QK]
  refine CallC.by (L:=[]) kinds_spec (by rfl) (by rfl) (by simp) ?_
  simp (config:={maxSteps:=1000000}) (disch:=(try simp only [awL]);omega) only [awS,lc,kk,lk,↓awU,awV,awX,awF,↓reduceIte,↓reduceDIte,↓Qe,Qu,Qv,Qw,Qx,Qy,Qz,QA,QB,QC,QD,QE,QF,QG,QH,QI,QK]
  first | done | rfl
theorem rtapply_spec (nm:List UInt8) (l:List Cel) (full:Bool) (hl:okY l) (k:Int) (k1:-9223372036854775808≤k) (k2:k≤9223372036854775807) :
  Ctr TP G 28 [.d (.agg [S nm,CelS l full]),.d (.int .i64 k)] [] (.d (tapR nm k l)) []:=by
 obtain ⟨r,hr⟩:∃ r,r=tapR nm k l:=⟨_,rfl⟩
 rw [← hr]
 unfold tapR tapE at hr
 have lc:=celsD_length l
 have l1:=hl.1
 have hb0:ByteArray.empty=bs []:=rfl
 have rn:=rtname_spec (G:=G) k k1 k2
 refine Ctr.pure (M:=M0) hmix Tryz.func28 rfl go28 ?_
 by_cases e1:kOf k
 ·rw [if_pos e1] at hr
  rw [decide_eq_true e1] at rn
  simp (config:={maxSteps:=1000000}) (disch:=(try simp only [awL]);omega) only [awS,lc,Tryz.f28,↓awU,awV,awX,awF,↓reduceIte,↓reduceDIte,↓Qe,Qu,Qv,Qw,Qx,Qy,Qz,QA,QB,QC,QD,QE,QF,QG,QH,QI,QK]
  refine CallC.of rn (by rfl) ?_
  simp (config:={maxSteps:=1000000}) (disch:=(try simp only [awL]);omega) only [awS,lc,↓awU,awV,awX,awF,↓reduceIte,↓reduceDIte,↓Qe,Qu,Qv,Qw,Qx,Qy,Qz,QA,QB,QC,QD,QE,QF,QG,QH,QI,QK]
  refine LoopC.fr 100663570 (α:=Nat) (fun i=>l.length - i) (fun i=>[(27,.d (.int .i64 (i:Nat)))])
   (fun i=>[.dead,.box [.d (.str ByteArray.empty),.d (.sl 0 true [])],.box [.d (S nm),.lsl 3 2 0 i],.row false (celsD ((l.take i).map (apT k)))]) (fun i=>i≤l.length∧(l.take i).all (fitT k)=true) 0 ⟨Nat.zero_le _,rfl⟩ ?_ ?_
  ·first
   | exact ⟨[some 0,some 1,some 2,none],rfl,by simp,by simp [sA,kA,SW,AW],by simp [HW,BW,SW,AW,celsD]⟩
  ·rintro i ⟨hi,ha⟩
   have al:=celsD_length ((l.take i).map (apT k))
   rw [List.length_map,List.length_take,Nat.min_eq_left hi] at al
   simp only [awK,Nat.reduceMod,Nat.reduceDiv,reduceIte]
   rcases Nat.lt_or_ge i l.length with h | h
   ·have gc:=celsD_get h
    have gx:=hl.at h
    have at1:=@all_takeU l (fitT k) i h ha
    have st:=map_stepT (k:=k) h
    have sp:=celsD_pushU ((l.take i).map (apT k)) (apT k (l.getD i noC))
    rw [← st] at sp
    rcases hx:l.getD i noC with ⟨t,nul⟩
    rw [hx] at gc gx at1 sp
    simp only at gx
    cases nul
    ·have mf:fitT k (t,false)=okK k t:=rfl
     rw [mf] at at1
     have gc:((celsD l).drop (i*2)).take 2=[.bool false,S t]:=gc
     have nf:okK k t=false→l.all (fitT k)=false:=fun q=>by
      cases q2:l.all (fitT k)
      ·rfl
      ·have:=List.all_eq_true.1 q2 _ (memD (d:=noC) h)
       rw [hx,mf,q] at this
       cases this
     have sp:celsD ((l.take i).map (apT k))++[.bool false,S (cnK k t)]=celsD ((l.take (i+1)).map (apT k)):=sp
     have cs:=rcanon_spec (G:=G) k t gx
     generalize okK k t=o at *
     generalize cnK k t=y at *
     simp (config:={maxSteps:=1000000}) (disch:=(try simp only [awL]);omega) only [awS,lc,al,gc,↓awU,awV,awX,awF,↓reduceIte,↓reduceDIte,↓Qe,Qu,Qv,Qw,Qx,Qy,Qz,QA,QB,QC,QD,QE,QF,QG,QH,QI,QK]
     refine CallC.of cs (by rfl) ?_
     cases o
     ·rw [nf rfl,if_neg Bool.false_ne_true,if_neg (by decide)] at hr
      subst hr
      simp (config:={maxSteps:=1000000}) (disch:=(try simp only [awL]);omega) only [awS,lc,al,↓awU,awV,awX,awF,↓reduceIte,↓reduceDIte,↓Qe,Qu,Qv,Qw,Qx,Qy,Qz,QA,QB,QC,QD,QE,QF,QG,QH,QI,QK]
      first | done | rfl
     ·simp (config:={maxSteps:=1000000}) (disch:=(try simp only [awL]);omega) only [awS,lc,al,↓awU,awV,awX,awF,↓reduceIte,↓reduceDIte,↓Qe,Qu,Qv,Qw,Qx,Qy,Qz,QA,QB,QC,QD,QE,QF,QG,QH,QI,QK]
      rw [List.map_take,List.map_take] at sp
      first
      | exact ⟨i+1,⟨h,at1 rfl⟩,by simp only;omega,⟨[some 0,some 1,some 2,some 6],rfl,by simp,by simp [sA,kA,SW,AW],by simp [HW,BW,SW,AW,cut,sp]⟩⟩
      | exact ⟨by rfl,i+1,⟨h,at1 rfl⟩,by simp only;omega,⟨[some 0,some 1,some 2,some 6],rfl,by simp,by simp [sA,kA,SW,AW],by simp [HW,BW,SW,AW,cut,sp]⟩⟩
    ·have gc:((celsD l).drop (i*2)).take 2=[.bool true,S t]:=gc
     have sp:celsD ((l.take i).map (apT k))++[.bool true,S t]=celsD ((l.take (i+1)).map (apT k)):=sp
     simp (config:={maxSteps:=1000000}) (disch:=(try simp only [awL]);omega) only [awS,lc,al,gc,↓awU,awV,awX,awF,↓reduceIte,↓reduceDIte,↓Qe,Qu,Qv,Qw,Qx,Qy,Qz,QA,QB,QC,QD,QE,QF,QG,QH,QI,QK]
     rw [List.map_take,List.map_take] at sp
     first
     | exact ⟨i+1,⟨h,at1 rfl⟩,by simp only;omega,⟨[some 0,some 1,some 2,some 6],rfl,by simp,by simp [sA,kA,SW,AW],by simp [HW,BW,SW,AW,cut,sp]⟩⟩
     | exact ⟨by rfl,i+1,⟨h,at1 rfl⟩,by simp only;omega,⟨[some 0,some 1,some 2,some 6],rfl,by simp,by simp [sA,kA,SW,AW],by simp [HW,BW,SW,AW,cut,sp]⟩⟩
   ·have e:i=l.length:=by omega
    subst e
    rw [List.take_length] at ha al ⊢
    rw [ha,if_pos rfl,if_pos rfl] at hr
    have ll:(l.map (apT k)).length=l.length:=by simp
    have cu:cut (celsD (l.map (apT k))) 0 (l.length*2)=celsD (l.map (apT k)):=cutA _ _ (by omega)
    subst hr
    unfold CelS
    rw [ll]
    simp (config:={maxSteps:=1000000}) (disch:=(try simp only [awL]);omega) only [awS,lc,al,cu,↓awU,awV,awX,awF,↓reduceIte,↓reduceDIte,↓Qe,Qu,Qv,Qw,Qx,Qy,Qz,QA,QB,QC,QD,QE,QF,QG,QH,QI,QK]
    first | done | rfl
 ·rw [if_neg e1,if_neg (by decide)] at hr
  rw [decide_eq_false e1] at rn
  subst hr
  simp (config:={maxSteps:=1000000}) (disch:=(try simp only [awL]);omega) only [awS,lc,Tryz.f28,↓awU,awV,awX,awF,↓reduceIte,↓reduceDIte,↓Qe,Qu,Qv,Qw,Qx,Qy,Qz,QA,QB,QC,QD,QE,QF,QG,QH,QI,QK]
  refine CallC.of rn (by rfl) ?_
  simp (config:={maxSteps:=1000000}) (disch:=(try simp only [awL]);omega) only [awS,lc,↓awU,awV,awX,awF,↓reduceIte,↓reduceDIte,↓Qe,Qu,Qv,Qw,Qx,Qy,Qz,QA,QB,QC,QD,QE,QF,QG,QH,QI,QK]
  first | done | rfl
theorem rguess_spec (nm:List UInt8) (l:List Cel) (full:Bool) (hl:okY l) :
  Ctr TP G 32 [.d (.agg [S nm,CelS l full])] [] (.d (.int .i64 (gsT l))) []:=by
 refine Ctr.pure (M:=M0) hmix Tryz.func32 rfl go32 ?_
 have o1:=rtoptions_spec (G:=G) nm l full hl
 have o2:=rtoptions_spec (G:=G) nm l false hl
 obtain ⟨k,hk,e,z,hg⟩:=gsT_of l
 have ct:=cnt_T k l
 have cl:l.countP vsT≤1000000:=Nat.le_trans List.countP_le_length hl.1
 rw [hg]
 have ol:=optsT_len l
 rw [ol] at o1 o2
 have og:=optC_get (l:=optsT l) (k:=0) (by omega)
 rw [Nat.zero_mul,List.drop_zero,e] at og
 have og:(optC (optsT l)).take 3=[S (nmK k),.int .i64 (l.countP (isT k):Nat),.int .i64 (l.countP (noT k):Nat)]:=og
 have oc:=optC_length (optsT l)
 rw [ol] at oc
 have ns:=rnamed_spec (G:=G) (nmK k)
 rw [nmd_of hk] at ns
 generalize optC (optsT l)=O at *
 generalize l.countP (isT k)=f at *
 generalize l.countP (noT k)=g at *
 generalize l.countP vsT=n at *
 generalize nmK k=x at *
 obtain rfl:g=0:=z
 obtain rfl:f=n:=by omega
 simp (config:={maxSteps:=1000000}) (disch:=(try simp only [awL]);omega) only [awS,Tryz.f32,↓awU,awV,awX,awF,↓reduceIte,↓reduceDIte,↓Qe,Qu,Qv,Qw,Qx,Qy,Qz,QA,QB,QC,QD,QE,QF,QG,QH,QI,QK]
 first | refine CallC.of o1 (by rfl) ?_ | refine CallC.of o2 (by rfl) ?_
 all_goals (
  by_cases hf:f=0
  ·rw [if_pos hf]
   subst hf
   simp (config:={maxSteps:=1000000}) (disch:=(try simp only [awL]);omega) only [awS,oc,og,↓awU,awV,awX,awF,↓reduceIte,↓reduceDIte,↓Qe,Qu,Qv,Qw,Qx,Qy,Qz,QA,QB,QC,QD,QE,QF,QG,QH,QI,QK]
   first | done | rfl
  ·rw [if_neg hf]
   simp (config:={maxSteps:=1000000}) (disch:=(try simp only [awL]);omega) only [awS,oc,og,↓awU,awV,awX,awF,↓reduceIte,↓reduceDIte,↓Qe,Qu,Qv,Qw,Qx,Qy,Qz,QA,QB,QC,QD,QE,QF,QG,QH,QI,QK]
   refine CallC.of ns (by first | rfl) ?_
   simp (config:={maxSteps:=1000000}) (disch:=(try simp only [awL]);omega) only [awS,↓awU,awV,awX,awF,↓reduceIte,↓reduceDIte,↓Qe,Qu,Qv,Qw,Qx,Qy,Qz,QA,QB,QC,QD,QE,QF,QG,QH,QI,QK]
   first | done | rfl)
def tkK (t:List Int) (kind k:Nat):Nat:=if pk t k 7=0 then (pk t (k+1) 7).toNat else kind
def tkP (t:List Int) (k:Nat):Nat:=if pk t k 7=0 then k+2 else k+1
def tmX (t:List Int) (kind k:Nat):List UInt8:=fieldM t (tkP t k) (tkK t kind k)
def tmQ (t:List Int) (kind k:Nat):Nat:=fieldK t (tkP t k) (tkK t kind k)
def tmCel (t:List Int) (kind k:Nat):Cel:=if pk t (tmQ t kind k) 6=0 then ([],true) else (tmX t kind k,false)
def tmL (t:List Int) (kind:Nat):Nat→Nat→List Cel × Nat
 | 0,k=>([],k)
 | n+1,k=>(tmCel t kind k::(tmL t kind n (tmQ t kind k+1)).1,(tmL t kind n (tmQ t kind k+1)).2)
def madeT (t:List Int) (k:Nat):List Cel:=(tmL t (pk t k 5).toNat (pk t (k+1) 8).toNat (k+2)).1
def madeTK (t:List Int) (k:Nat):Nat:=(tmL t (pk t k 5).toNat (pk t (k+1) 8).toNat (k+2)).2
theorem tmL_ok (t:List Int) (kind:Nat):∀ n k,(tmL t kind n k).1.length=n∧∀ x∈(tmL t kind n k).1,x.1.length≤30
 | 0,k=>⟨rfl,fun x h=>by cases h⟩
 | n+1,k=>by
   rw [tmL]
   have ih:=tmL_ok t kind n (tmQ t kind k+1)
   refine ⟨by rw [List.length_cons,ih.1],fun x hx=>?_⟩
   rcases List.mem_cons.1 hx with e | hx
   ·rw [e]
    have:=(fieldM_ok t (tkP t k) (tkK t kind k)).2
    unfold tmCel
    split
    ·simp
    ·exact this
   ·exact ih.2 x hx
theorem madeT_ok (t:List Int) (k:Nat):(madeT t k).length≤7∧∀ x∈madeT t k,x.1.length≤30:=by
 have h1:=tmL_ok t (pk t k 5).toNat (pk t (k+1) 8).toNat (k+2)
 have h2:=@pk_range t (k+1) 8 (by decide)
 unfold madeT
 exact ⟨by omega,h1.2⟩
theorem madeT_okY (t:List Int) (k:Nat):okY (madeT t k):=⟨by have:=(madeT_ok t k).1;omega,fun x hx=>by have:=(madeT_ok t k).2 x hx;omega⟩
theorem celsD_setY {l:List Cel} {x y:Cel}:(celsD (l++[x])).take (l.length*2)++CelC y++(celsD (l++[x])).drop (l.length*2+2)=celsD (l++[y]):=by
 have e:celsD (l++[x])=celsD l++CelC x:=by simp [celsD]
 have e2:celsD (l++[y])=celsD l++CelC y:=by simp [celsD]
 have ll:=celsD_length l
 rw [e,e2,List.take_append_of_le_length (by omega),List.take_of_length_le (by omega),List.drop_append,List.drop_of_length_le (by omega),show l.length*2+2 - (celsD l).length=2 by omega]
 simp
theorem celsD_pushY (a:List Cel) (x:Cel):celsD a++[.bool x.2,S x.1]=celsD (a++[x]):=by simp [celsD]
theorem tmade_spec (t:List Int) (k:Nat) (ht:OkM t) :
  Ctr TP G 19 [.ptr 0 0] [DiceM t k] (.d (.agg [S [99],CelS (madeT t k) false])) [DiceM t (madeTK t k)]:=by
 obtain ⟨r,hr⟩:∃ r,r=madeT t k:=⟨_,rfl⟩
 obtain ⟨k2,hk⟩:∃ k2,k2=madeTK t k:=⟨_,rfl⟩
 rw [← hr,← hk]
 unfold madeT at hr
 unfold madeTK at hk
 refine Ctr.body (M:=M0) hmix Tryz.func19 rfl go19 ?_
 obtain ⟨kind,hc,hc2⟩:=pk_nat t k 5 (by decide)
 obtain ⟨m,hm,hm2⟩:=pk_nat t (k+1) 8 (by decide)
 rw [hc,hm,Int.toNat_natCast,Int.toNat_natCast] at hr hk
 have hb0:ByteArray.empty=bs []:=rfl
 simp (config:={maxSteps:=1000000}) (disch:=(try simp only [awL]);omega) only [awS,Tryz.f19,↓awU,awV,awX,awF,↓reduceIte,↓reduceDIte,↓Qe,Qu,Qv,Qw,Qx,Qy,Qz,QA,QB,QC,QD,QE,QF,QG,QH,QI,QK]
 refine CallC.by (pick_spec t k 5 ht (by decide) (by decide)) (by rfl) (by rfl) (Nat.le_refl _) ?_
 rw [hc]
 simp (config:={maxSteps:=1000000}) (disch:=(try simp only [awL]);omega) only [awS,↓awU,awV,awX,awF,↓reduceIte,↓reduceDIte,↓Qe,Qu,Qv,Qw,Qx,Qy,Qz,QA,QB,QC,QD,QE,QF,QG,QH,QI,QK]
 refine CallC.by (pick_spec t (k+1) 8 ht (by decide) (by decide)) (by rfl) (by rfl) (Nat.le_refl _) ?_
 rw [hm]
 simp (config:={maxSteps:=1000000}) (disch:=(try simp only [awL]);omega) only [awS,↓awU,awV,awX,awF,↓reduceIte,↓reduceDIte,↓Qe,Qu,Qv,Qw,Qx,Qy,Qz,QA,QB,QC,QD,QE,QF,QG,QH,QI,QK]
 refine LoopC.fr 29 (α:=List Cel × Nat × Nat) (fun x=>x.2.1) (fun x=>[(5,.d (.int .i64 (x.2.1:Nat)))]) (fun x=>[DiceM t x.2.2,.box [.d (.str ByteArray.empty),.d (.sl 0 true [])],.box [.d (S [99]),.lsl 3 2 0 x.1.length],.row false (celsD x.1)])
  (fun x=>x.1.length+x.2.1≤7∧r=x.1++(tmL t kind x.2.1 x.2.2).1∧k2=(tmL t kind x.2.1 x.2.2).2) ([],m,k+2) ⟨by simp only [List.length_nil];omega,hr,hk⟩ ?_ ?_
 ·first
  | exact ⟨[some 0,some 1,some 2,none],rfl,by simp,by simp [sA,kA,SW,AW],by simp [HW,BW,SW,AW,celsD]⟩
 ·rintro ⟨acc,n,p⟩ ⟨h1,h2,h3⟩
  simp only at h1 h2 h3
  have al:=celsD_length acc
  simp only [awK,Nat.reduceMod,Nat.reduceDiv,reduceIte]
  match n with
  | 0 =>
   simp only [tmL,List.append_nil] at h2 h3
   subst h2 h3
   have cu:cut (celsD r) 0 (r.length*2)=celsD r:=by unfold cut;rw [List.drop_zero,List.take_of_length_le (by omega)]
   simp (config:={maxSteps:=1000000}) (disch:=(try simp only [awL]);omega) only [awS,al,cu,↓awU,awV,awX,awF,↓reduceIte,↓reduceDIte,↓Qe,Qu,Qv,Qw,Qx,Qy,Qz,QA,QB,QC,QD,QE,QF,QG,QH,QI,QK]
   refine ⟨[some 0],rfl,by simp,by simp [HW,BW,SW,AW],.inr ⟨_,rfl,?_,rfl⟩⟩
   simp (config:={maxSteps:=1000000}) (disch:=(try simp only [awL]);omega) only [awS,cu,↓awU,awV,awX,awF,↓reduceIte,↓reduceDIte,↓Qe,Qu,Qv,Qw,Qx,Qy,Qz,QA,QB,QC,QD,QE,QF,QG,QH,QI,QK]
   try rfl
  | n+1 =>
   simp only [tmL] at h2 h3
   unfold tmCel tmX tmQ tkK tkP at h2
   unfold tmQ tkK tkP at h3
   simp (config:={maxSteps:=1000000}) (disch:=(try simp only [awL]);omega) only [awS,↓awU,awV,awX,awF,↓reduceIte,↓reduceDIte,↓Qe,Qu,Qv,Qw,Qx,Qy,Qz,QA,QB,QC,QD,QE,QF,QG,QH,QI,QK]
   refine CallC.by (pick_spec t p 7 ht (by decide) (by decide)) (by rfl) (by rfl) (Nat.le_refl _) ?_
   by_cases e7:pk t p 7=0
   ·simp only [if_pos e7] at h2 h3
    rw [e7]
    simp (config:={maxSteps:=1000000}) (disch:=(try simp only [awL]);omega) only [awS,↓awU,awV,awX,awF,↓reduceIte,↓reduceDIte,↓Qe,Qu,Qv,Qw,Qx,Qy,Qz,QA,QB,QC,QD,QE,QF,QG,QH,QI,QK]
    refine CallC.by (pick_spec t (p+1) 7 ht (by decide) (by decide)) (by rfl) (by rfl) (Nat.le_refl _) ?_
    obtain ⟨c,hq,hq2⟩:=pk_nat t (p+1) 7 (by decide)
    rw [hq] at h2 h3 ⊢
    simp only [Int.toNat_natCast] at h2 h3
    simp (config:={maxSteps:=1000000}) (disch:=(try simp only [awL]);omega) only [awS,al,↓awU,awV,awX,awF,↓reduceIte,↓reduceDIte,↓Qe,Qu,Qv,Qw,Qx,Qy,Qz,QA,QB,QC,QD,QE,QF,QG,QH,QI,QK]
    rw [show p+1+1=p+2 from rfl]
    refine CallC.by (field_mspec t (p+2) c ht (by omega)) (by rfl) (by rfl) (Nat.le_refl _) ?_
    have xl:=(fieldM_ok t (p+2) c).2
    generalize fieldM t (p+2) c=x at *
    generalize fieldK t (p+2) c=p3 at *
    have sp:=celsD_pushY acc (x,false)
    have tl:(acc++[(x,false)]).length=acc.length+1:=by simp
    have st:=@celsD_setY acc (x,false) ([],true)
    simp only at sp
    have cu2:cut [D.bool false,D.str (bs x)] 0 2=[D.bool false,D.str (bs x)]:=rfl
    simp (config:={maxSteps:=1000000}) (disch:=(try simp only [awL]);omega) only [awS,al,cu2,sp,List.length_cons,List.length_nil,↓awU,awV,awX,awF,↓reduceIte,↓reduceDIte,↓Qe,Qu,Qv,Qw,Qx,Qy,Qz,QA,QB,QC,QD,QE,QF,QG,QH,QI,QK]
    try refine ⟨by rfl,?_⟩
    try simp (config:={maxSteps:=1000000}) (disch:=(try simp only [awL]);omega) only [awS,al,cu2,sp,List.length_cons,List.length_nil,↓awU,awV,awX,awF,↓reduceIte,↓reduceDIte,↓Qe,Qu,Qv,Qw,Qx,Qy,Qz,QA,QB,QC,QD,QE,QF,QG,QH,QI,QK]
    refine CallC.by (pick_spec t p3 6 ht (by decide) (by decide)) (by rfl) (by rfl) (Nat.le_refl _) ?_
    by_cases q:pk t p3 6=0
    ·rw [if_pos q] at h2
     rw [q]
     have h4:r=(acc++[([],true)])++(tmL t kind n (p3+1)).1:=by rw [h2];simp
     have tl2:(acc++[(([],true):Cel)]).length=acc.length+1:=by simp
     generalize acc++[(x,false)]=acc1 at *
     generalize acc++[(([],true):Cel)]=acc2 at *
     simp (config:={maxSteps:=1000000}) (disch:=(try simp only [awL]);omega) only [awS,al,tl,↓awU,awV,awX,awF,↓reduceIte,↓reduceDIte,↓Qe,Qu,Qv,Qw,Qx,Qy,Qz,QA,QB,QC,QD,QE,QF,QG,QH,QI,QK]
     have st2:List.take (acc.length*2) (celsD acc1)++[D.bool true,D.str ByteArray.empty]++List.drop (acc.length*2+2) (celsD acc1)=celsD acc2:=st
     rw [st2]
     first
     | exact ⟨by rw [celsD_length];omega,(acc2,n,p3+1),⟨by simp only;omega,h4,h3⟩,by simp only;omega,⟨[some 0,some 1,some 2,some 5],rfl,by simp,by simp [sA,kA,SW,AW],by simp [HW,BW,SW,AW,tl2]⟩⟩
    ·rw [if_neg q] at h2
     have q0:(pk t p3 6=0)=False:=eq_false q
     have h4:r=(acc++[(x,false)])++(tmL t kind n (p3+1)).1:=by rw [h2];simp
     generalize acc++[(x,false)]=acc2 at *
     simp (config:={maxSteps:=1000000}) (disch:=(try simp only [awL]);omega) only [awS,al,q0,↓awU,awV,awX,awF,↓reduceIte,↓reduceDIte,↓Qe,Qu,Qv,Qw,Qx,Qy,Qz,QA,QB,QC,QD,QE,QF,QG,QH,QI,QK]
     first
     | exact ⟨(acc2,n,p3+1),⟨by simp only;omega,h4,h3⟩,by simp only;omega,⟨[some 0,some 1,some 2,some 5],rfl,by simp,by simp [sA,kA,SW,AW],by simp [HW,BW,SW,AW,tl]⟩⟩
   ·have e70:(pk t p 7=0)=False:=eq_false e7
    simp only [if_neg e7] at h2 h3
    simp (config:={maxSteps:=1000000}) (disch:=(try simp only [awL]);omega) only [awS,e70,al,↓awU,awV,awX,awF,↓reduceIte,↓reduceDIte,↓Qe,Qu,Qv,Qw,Qx,Qy,Qz,QA,QB,QC,QD,QE,QF,QG,QH,QI,QK]
    refine CallC.by (field_mspec t (p+1) kind ht (by omega)) (by rfl) (by rfl) (Nat.le_refl _) ?_
    have xl:=(fieldM_ok t (p+1) kind).2
    generalize fieldM t (p+1) kind=x at *
    generalize fieldK t (p+1) kind=p3 at *
    have sp:=celsD_pushY acc (x,false)
    have tl:(acc++[(x,false)]).length=acc.length+1:=by simp
    have st:=@celsD_setY acc (x,false) ([],true)
    simp only at sp
    have cu2:cut [D.bool false,D.str (bs x)] 0 2=[D.bool false,D.str (bs x)]:=rfl
    simp (config:={maxSteps:=1000000}) (disch:=(try simp only [awL]);omega) only [awS,al,cu2,sp,List.length_cons,List.length_nil,↓awU,awV,awX,awF,↓reduceIte,↓reduceDIte,↓Qe,Qu,Qv,Qw,Qx,Qy,Qz,QA,QB,QC,QD,QE,QF,QG,QH,QI,QK]
    try refine ⟨by rfl,?_⟩
    try simp (config:={maxSteps:=1000000}) (disch:=(try simp only [awL]);omega) only [awS,al,cu2,sp,List.length_cons,List.length_nil,↓awU,awV,awX,awF,↓reduceIte,↓reduceDIte,↓Qe,Qu,Qv,Qw,Qx,Qy,Qz,QA,QB,QC,QD,QE,QF,QG,QH,QI,QK]
    refine CallC.by (pick_spec t p3 6 ht (by decide) (by decide)) (by rfl) (by rfl) (Nat.le_refl _) ?_
    by_cases q:pk t p3 6=0
    ·rw [if_pos q] at h2
     rw [q]
     have h4:r=(acc++[([],true)])++(tmL t kind n (p3+1)).1:=by rw [h2];simp
     have tl2:(acc++[(([],true):Cel)]).length=acc.length+1:=by simp
     generalize acc++[(x,false)]=acc1 at *
     generalize acc++[(([],true):Cel)]=acc2 at *
     simp (config:={maxSteps:=1000000}) (disch:=(try simp only [awL]);omega) only [awS,al,tl,↓awU,awV,awX,awF,↓reduceIte,↓reduceDIte,↓Qe,Qu,Qv,Qw,Qx,Qy,Qz,QA,QB,QC,QD,QE,QF,QG,QH,QI,QK]
     have st2:List.take (acc.length*2) (celsD acc1)++[D.bool true,D.str ByteArray.empty]++List.drop (acc.length*2+2) (celsD acc1)=celsD acc2:=st
     rw [st2]
     first
     | exact ⟨by rw [celsD_length];omega,(acc2,n,p3+1),⟨by simp only;omega,h4,h3⟩,by simp only;omega,⟨[some 0,some 1,some 2,some 5],rfl,by simp,by simp [sA,kA,SW,AW],by simp [HW,BW,SW,AW,tl2]⟩⟩
    ·rw [if_neg q] at h2
     have q0:(pk t p3 6=0)=False:=eq_false q
     have h4:r=(acc++[(x,false)])++(tmL t kind n (p3+1)).1:=by rw [h2];simp
     generalize acc++[(x,false)]=acc2 at *
     simp (config:={maxSteps:=1000000}) (disch:=(try simp only [awL]);omega) only [awS,al,q0,↓awU,awV,awX,awF,↓reduceIte,↓reduceDIte,↓Qe,Qu,Qv,Qw,Qx,Qy,Qz,QA,QB,QC,QD,QE,QF,QG,QH,QI,QK]
     first
     | exact ⟨(acc2,n,p3+1),⟨by simp only;omega,h4,h3⟩,by simp only;omega,⟨[some 0,some 1,some 2,some 5],rfl,by simp,by simp [sA,kA,SW,AW],by simp [HW,BW,SW,AW,tl]⟩⟩
end Go.Proofs.YtdpjcghiegggbaaGreatDoor
namespace Go.Proofs.YtdpjcghiegggbaaGreatDoor.Dst
open Go Go.Proofs Go.Abs
variable {G:Globals}
def strs (l:List (List UInt8)):List D:=l.map fun s=>S s
theorem strs_length {l:List (List UInt8)}:(strs l).length=l.length:=by simp [strs]
theorem strs_unf {l:List (List UInt8)}:(strs l).map unf0=strs l:=by simp [strs,unf0]
theorem strs_getD {l:List (List UInt8)} {i:Nat} (h:i<l.length):(strs l).getD i .nilp=S (l.getD i []):=by
 simp [strs,List.getD_eq_getElem?_getD,h]
abbrev Ss (l:List (List UInt8)) (full:Bool):D:=.sl l.length full (strs l)
abbrev Ru (kind lim num den:Int):D:=.agg [.int .i64 kind,.int .i64 lim,.int .i64 num,.int .i64 den]
abbrev DiceM (t:List Int) (k:Nat):ABlk:=.box [.d (.sl t.length false (ints .u8 t)),.d (.int .i64 (min k t.length:Nat))]
def OkM (t:List Int):Prop:=t.length≤300∧∀ i,0≤t.getD i 0∧t.getD i 0≤255
theorem new_spec (t:List Int) (ht:t.length≤9223372036854775807):Ctr TP G 13 [.d (.sl t.length false (ints .u8 t))] [] (.ptr 0 0) [DiceM (t.take 300) 0]:=by
 refine Ctr.body (M:=M0) hmix Tryz.func13 rfl go13 ?_
 rcases Nat.lt_or_ge 300 t.length with h | h
 ·have e:(t.take 300).length=300:=by rw [List.length_take];omega
  simp (config:={maxSteps:=1000000}) (disch:=(try simp only [awL]);omega) only [Tryz.f13,e,↓awU,awV,awX,awF,↓reduceIte,↓reduceDIte,↓Qe,Qu,Qv,Qw,Qx,Qy,Qz,QA,QB,QC,QD,QE,QF,QG,QH,QI,QK]
  exact ⟨[some 0],rfl,by simp,by simp [HW,BW,SW,AW];omega,.inl (by simp [AW])⟩
 ·have e:t.take 300=t:=List.take_of_length_le h
  simp (config:={maxSteps:=1000000}) (disch:=(try simp only [awL]);omega) only [Tryz.f13,e,↓awU,awV,awX,awF,↓reduceIte,↓reduceDIte,↓Qe,Qu,Qv,Qw,Qx,Qy,Qz,QA,QB,QC,QD,QE,QF,QG,QH,QI,QK]
  exact ⟨[some 0],rfl,by simp,by simp [HW,BW,SW,AW],.inl (by simp [AW,SW])⟩
def pk (t:List Int) (k:Nat) (n:Int):Int:=t.getD k 0 % n
theorem pk_range {t:List Int} {k:Nat} {n:Int} (h:0<n):0≤pk t k n∧pk t k n<n:=⟨Int.emod_nonneg _ (by omega),Int.emod_lt_of_pos _ h⟩
theorem pk_nat (t:List Int) (k:Nat) (n:Int) (h:0<n):∃ c:Nat,pk t k n=c∧(c:Int)<n:=⟨(pk t k n).toNat,by have:=@pk_range t k n h;omega,by have:=@pk_range t k n h;omega⟩
theorem pick_spec (t:List Int) (k:Nat) (n:Int) (ht:OkM t) (h0:0<n) (h1:n≤1000) :
  Ctr TP G 41 [.ptr 0 0,.d (.int .i64 n)] [DiceM t k] (.d (.int .i64 (pk t k n))) [DiceM t (k+1)]:=by
 obtain ⟨ht,htt⟩:=ht
 refine Ctr.body (M:=M0) hmix Tryz.func41 rfl go41 ?_
 rcases Nat.lt_or_ge k t.length with h | h
 ·have e1:min k t.length=k:=by omega
  have e2:min (k+1) t.length=k+1:=by omega
  obtain ⟨b1,b2⟩:=htt k
  have e3:(t.getD k 0).tmod n=pk t k n:=Int.tmod_eq_emod_of_nonneg b1
  simp only [e1,e2,DiceM]
  simp (config:={maxSteps:=1000000}) (disch:=(try simp only [awL]);omega) only [Tryz.f41,e3,↓awU,awV,awX,awF,↓reduceIte,↓reduceDIte,↓Qe,Qu,Qv,Qw,Qx,Qy,Qz,QA,QB,QC,QD,QE,QF,QG,QH,QI,QK]
  refine ⟨by rfl,by rfl,?_⟩
  exact ⟨[some 0],rfl,by simp,by simp [HW,BW,SW,AW],.inl (by simp [AW,SW])⟩
 ·have e1:min k t.length=t.length:=by omega
  have e2:min (k+1) t.length=t.length:=by omega
  have e3:pk t k n=0:=by rw [pk,List.getD_eq_getElem?_getD,List.getElem?_eq_none h];simp
  simp only [e1,e2,e3,DiceM]
  simp (config:={maxSteps:=1000000}) (disch:=(try simp only [awL]);omega) only [Tryz.f41,↓awU,awV,awX,awF,↓reduceIte,↓reduceDIte,↓Qe,Qu,Qv,Qw,Qx,Qy,Qz,QA,QB,QC,QD,QE,QF,QG,QH,QI,QK]
  refine ⟨by rfl,?_⟩
  exact ⟨[some 0],rfl,by simp,by simp [HW,BW,SW,AW],.inl (by simp [AW,SW])⟩
theorem words_spec:Ctr TP G 43 [] [] (.d (Ss wordsL false)) []:=by
 refine Ctr.pure (M:=M0) hmix Tryz.func43 rfl go43 ?_
 simp (config:={maxSteps:=1000000}) (disch:=(try simp only [awL]);omega) only [awS,Tryz.f43,↓awU,awV,awX,awF,↓reduceIte,↓reduceDIte,↓Qe,Qu,Qv,Qw,Qx,Qy,Qz,QA,QB,QC,QD,QE,QF,QG,QH,QI,QK]
 try rfl
structure RuV where
 kind:Int
 lim:Int
 num:Int
 den:Int
abbrev RuV.D (r:RuV):D:=Ru r.kind r.lim r.num r.den
end Go.Proofs.YtdpjcghiegggbaaGreatDoor.Dst
namespace Go.Proofs.YtdpjcghiegggbaaGreatDoor
open Go Go.Proofs Go.Abs
variable {G:Globals}
theorem ex_dec:Num.decOk (Lib.trimB [43,48,48,55,46,53,48] 32)=true∧canD (Lib.trimB [43,48,48,55,46,53,48] 32)=[55,46,53]∧Num.decOk (Lib.trimB [45,48,46,48] 32)=true∧canD (Lib.trimB [45,48,46,48] 32)=[48]:=by decide +kernel
theorem ex_day:okDt 1969 12 31=true∧dayV 1969 12 31=-1:=by decide +kernel
theorem ex_date:IsDt (0+719162) 1970 0 0:=by unfold IsDt;decide +kernel
theorem tsane_spec (hG:Num.HG G):Ctr TP G 8 [] [] (.d (.bool true)) []:=by
 refine Ctr.pure (M:=M0) hmix Tryz.func8 rfl go8 ?_
 obtain ⟨a1,a2,a3,a4⟩:=ex_dec
 have s1:=canon4_spec hG [43,48,48,55,46,53,48] (by decide)
 have s2:=canon4_spec hG [45,48,46,48] (by decide)
 rw [a1,if_pos rfl,a2] at s1
 rw [a3,if_pos rfl,a4] at s2
 have s3:=day_spec (G:=G) 1969 12 31 (by decide) (by decide) (by decide) (by decide) (by decide) (by decide)
 rw [ex_day.1,ex_day.2] at s3
 have s4:=tdate_spec (G:=G) 0 ex_date
 simp (config:={maxSteps:=1000000}) (disch:=(try simp only [awL]);omega) only [awS,Tryz.f8,↓awU,awV,awX,awF,↓reduceIte,↓reduceDIte,↓Qe,Qu,Qv,Qw,Qx,Qy,Qz,QA,QB,QC,QD,QE,QF,QG,QH,QI,QK]
 refine CallC.of s1 (by rfl) ?_
 simp (config:={maxSteps:=1000000}) (disch:=(try simp only [awL]);omega) only [awS,↓awU,awV,awX,awF,↓reduceIte,↓reduceDIte,↓Qe,Qu,Qv,Qw,Qx,Qy,Qz,QA,QB,QC,QD,QE,QF,QG,QH,QI,QK]
 refine CallC.of s2 (by rfl) ?_
 simp (config:={maxSteps:=1000000}) (disch:=(try simp only [awL]);omega) only [awS,↓awU,awV,awX,awF,↓reduceIte,↓reduceDIte,↓Qe,Qu,Qv,Qw,Qx,Qy,Qz,QA,QB,QC,QD,QE,QF,QG,QH,QI,QK]
 refine CallC.of s3 (by rfl) ?_
 simp (config:={maxSteps:=1000000}) (disch:=(try simp only [awL]);omega) only [awS,↓awU,awV,awX,awF,↓reduceIte,↓reduceDIte,↓Qe,Qu,Qv,Qw,Qx,Qy,Qz,QA,QB,QC,QD,QE,QF,QG,QH,QI,QK]
 refine CallC.of s4 (by rfl) ?_
 simp (config:={maxSteps:=1000000}) (disch:=(try simp only [awL]);omega) only [awS,↓awU,awV,awX,awF,↓reduceIte,↓reduceDIte,↓Qe,Qu,Qv,Qw,Qx,Qy,Qz,QA,QB,QC,QD,QE,QF,QG,QH,QI,QK]
 first | done | rfl | decide
theorem dg_B {b:UInt8} (h:Decs.dg b=true):dgB b=true:=decide_eq_true (Num.dig_range h)
theorem dropW_head (c:UInt8):∀ l:List UInt8,(l.dropWhile (· == c)).head?≠some c
 | []=>by simp
 | b::l=>by
   rw [List.dropWhile_cons]
   by_cases e:b=c
   ·rw [if_pos (by simpa using e)];exact dropW_head c l
   ·rw [if_neg (by simpa using e)];simpa using e
theorem cF_head (F:List UInt8):Decs.cF F=[48]∨(Decs.cF F).head?≠some 48:=by
 unfold Decs.cF
 by_cases e:Lib.trimLeftB F 48=[]
 ·rw [if_pos e];exact .inl rfl
 ·rw [if_neg e];exact .inr (dropW_head 48 F)
theorem cB_last (B:List UInt8):(Decs.cB B).getLast?≠some 48:=by
 unfold Decs.cB Lib.trimRightB
 rw [List.getLast?_reverse]
 exact dropW_head 48 _
theorem dec_canon:∀ (n:Nat) (l:List UInt8),l.length=n→(∀ b∈l,dgB b=true)→l≠[]→(l=[48]∨l.head?≠some 48)→l=Lib.decDigits (dgV l)
 | 0,l,h,_,h0,_=>absurd (List.length_eq_zero_iff.1 h) h0
 | n+1,l,h,g,h0,hh=>by
   rcases snocX l with rfl | ⟨k,b,rfl⟩
   ·exact absurd rfl h0
   ·have hb:=dgB_val (g b (by simp))
    rcases k with _ | ⟨c,k⟩
    ·have e:dgV ([]++[b])=b.toNat - 48:=by rw [dgV_snoc];show 0*10+_=_;omega
     rw [e,Lib.decDigits_one (by omega),show 48+(b.toNat - 48)=b.toNat by omega,UInt8.ofNat_toNat];rfl
    ·have hh2:(c::k).head?≠some 48:=by
      rcases hh with q | q
      ·have:=congrArg List.length q;simp at this
      ·simpa using q
     have ih:=dec_canon n (c::k) (by simpa using h) (fun x hx=>g x (by rw [List.mem_append];exact .inl hx)) (by simp) (.inr hh2)
     have pos:0<dgV (c::k):=by
      rcases Nat.eq_zero_or_pos (dgV (c::k)) with q | q
      ·rw [q,Lib.decDigits_one (by decide)] at ih
       exact absurd (by rw [ih];rfl) hh2
      ·exact q
     rw [dgV_snoc,Lib.decDigits,dif_neg (by omega),show (dgV (c::k)*10+(b.toNat - 48)) / 10=dgV (c::k) by omega,show (dgV (c::k)*10+(b.toNat - 48)) % 10=b.toNat - 48 by omega,← ih,show 48+(b.toNat - 48)=b.toNat by omega,UInt8.ofNat_toNat]
theorem dig_inj {l m:List UInt8} (h:l.length=m.length) (g1:∀ b∈l,dgB b=true) (g2:∀ b∈m,dgB b=true) (e:dgV l=dgV m):l=m:=by
 rw [← padN_dgV _ l rfl g1,← padN_dgV _ m rfl g2,h,e]
theorem dgV_app (F B:List UInt8):dgV (F++B)=dgV F*10 ^ B.length+dgV B:=Decs.num_app F B
structure Can (F B:List UInt8):Prop where
 d:Decs.Dec F B
 f:F=[48]∨F.head?≠some 48
 b:B.getLast?≠some 48
theorem Can.of {F B:List UInt8} (h:Decs.Dec F B):Can (Decs.cF F) (Decs.cB B):=⟨Decs.canDec h,cF_head F,cB_last B⟩
theorem last_ne {A B:List UInt8} (hB:B≠[]) (g:∀ b∈B,dgB b=true) (h:B.getLast?≠some 48):dgV (A++B) % 10≠0:=by
 rcases snocX B with rfl | ⟨k,b,rfl⟩
 ·exact absurd rfl hB
 ·have hb:=dgB_val (g b (by simp))
  have hn:b.toNat≠48:=fun q=>h (by rw [show b=48 from UInt8.toNat_inj.1 q];simp)
  rw [← List.append_assoc,dgV_snoc];omega
theorem Can.len {F B F' B':List UInt8} (h:Can F B) (h':Can F' B') (e:dgV (F++B)*10 ^ B'.length=dgV (F'++B')*10 ^ B.length):¬ B.length<B'.length:=by
 intro q
 have hB:B'≠[]:=by rintro rfl;simp at q
 have nz:=last_ne (A:=F') hB (fun b hb=>dg_B (h'.d.bd b hb)) h'.b
 obtain ⟨k,hk⟩:∃ k,B'.length=B.length+(k+1):=⟨B'.length - B.length - 1,by omega⟩
 rw [hk,Nat.pow_add,← Nat.mul_assoc,Nat.mul_right_comm] at e
 have e:=Nat.eq_of_mul_eq_mul_right (Nat.pow_pos (n:=B.length) (by decide:0<10)) e
 apply nz
 rw [← e,Nat.pow_succ,← Nat.mul_assoc]
 exact Nat.mul_mod_left _ _
theorem Can.inj {F B F' B':List UInt8} (h:Can F B) (h':Can F' B') (e:dgV (F++B)*10 ^ B'.length=dgV (F'++B')*10 ^ B.length):F=F'∧B=B':=by
 have l1:=h.len h' e
 have l2:=h'.len h e.symm
 have l:B.length=B'.length:=by omega
 rw [l] at e
 have e:=Nat.eq_of_mul_eq_mul_right (Nat.pow_pos (n:=B'.length) (by decide:0<10)) e
 rw [dgV_app,dgV_app,l] at e
 have b1:=dgV_lt _ B rfl (fun b hb=>dg_B (h.d.bd b hb))
 have b2:=dgV_lt _ B' rfl (fun b hb=>dg_B (h'.d.bd b hb))
 rw [l] at b1
 generalize hp:10 ^ B'.length=p at *
 have e1:dgV F=dgV F':=by
  have c1:(dgV F*p+dgV B) / p=(dgV F'*p+dgV B') / p:=by rw [e]
  rw [Nat.mul_comm (dgV F) p,Nat.mul_comm (dgV F') p,Nat.mul_add_div (by omega),Nat.mul_add_div (by omega),Nat.div_eq_of_lt b1,Nat.div_eq_of_lt b2] at c1
  omega
 have e2:dgV B=dgV B':=by rw [e1] at e;omega
 refine ⟨?_,dig_inj l (fun b hb=>dg_B (h.d.bd b hb)) (fun b hb=>dg_B (h'.d.bd b hb)) e2⟩
 have n1:F≠[]:=by have:=h.d.f1;rintro rfl;simp at this
 have n2:F'≠[]:=by have:=h'.d.f1;rintro rfl;simp at this
 rw [dec_canon _ F rfl (fun b hb=>dg_B (h.d.fd b hb)) n1 h.f,dec_canon _ F' rfl (fun b hb=>dg_B (h'.d.fd b hb)) n2 h'.f,e1]
theorem Can.zero {F B:List UInt8} (h:Can F B) (z:dgV (F++B)=0):Decs.pt F B=[48]:=by
 have c:Can [48] []:=⟨⟨by decide,by decide,by decide,by decide,fun b hb=>by cases hb⟩,.inl rfl,by simp⟩
 have z':dgV ([48]++([]:List UInt8))=0:=rfl
 obtain ⟨rfl,rfl⟩:=h.inj c (by rw [z,z',Nat.zero_mul,Nat.zero_mul])
 rfl
theorem int_fv {n:Int} (h1:-9223372036854775808≤n) (h2:n≤9223372036854775807):Num.FV (n:Rat):=by
 rw [← dInt_one]
 exact (Num.Fw_divInt (k:=2) (by decide) (Num.sz_int h1 h2) (Num.sz_int (by decide) (by decide))).fv (by decide)
theorem vlK_fv {k:Int} {s:List UInt8} (h:okV k s=true):Num.FV (vlK k s):=by
 unfold okV at h
 rw [Bool.and_eq_true] at h
 obtain ⟨h,k1⟩:=h
 have k1:k≠1:=fun q=>by rw [q] at k1;revert k1;decide
 rcases k_cases k with rfl | rfl | rfl | rfl | rfl | n
 ·exact absurd rfl k1
 ·show Num.FV (boV (canBo (Lib.trimB s 32)):Rat)
  unfold boV
  split
  ·exact int_fv (by decide) (by decide)
  ·exact int_fv (by decide) (by decide)
 ·have h:okIn (Lib.trimB s 32)=true:=h
  have ok:Num.decOk (Lib.trimB s 32)=true:=by unfold okIn at h;rw [Bool.and_eq_true] at h;exact h.2
  exact (decVal_fw ok).fv (by decide)
 ·have ok:Num.decOk (Lib.trimB s 32)=true:=h
  exact (decVal_fw ok).fv (by decide)
 ·have ok:okD (Lib.trimB s 32)=true:=h
  have od:=rdt_ok ok
  have dr:-719162≤dtV (Lib.trimB s 32)∧dtV (Lib.trimB s 32)≤2932896:=by
   have:=(okDt_is od).range
   unfold dtV dayV
   rw [if_pos od];omega
  exact int_fv (by show -9223372036854775808≤dtV _;omega) (by show dtV _≤9223372036854775807;omega)
 ·rw [(okK_no n s).1] at h;cases h
theorem tapR_form (nm:List UInt8) (k:Int) (l:List Cel):∃ nm2 l2,tapR nm k l=.tup [.agg [S nm2,CelS l2 false],.int .i64 (tapE k l)]∧l2.length≤l.length:=by
 unfold tapR
 by_cases h:tapE k l=0
 ·rw [if_pos h]
  exact ⟨nm,l.map (apT k),rfl,by rw [List.length_map];exact Nat.le_refl _⟩
 ·rw [if_neg h]
  exact ⟨[],[],rfl,Nat.zero_le _⟩
theorem valE_form (k:Int) (s:List UInt8):∃ d,valE k s=.tup [d,.bool (okV k s)]∧Num.SmF d:=by
 unfold valE
 by_cases h:okV k s=true
 ·rw [if_pos h];exact ⟨_,rfl,Num.SmF_Frac (vlK_fv h)⟩
 ·rw [if_neg h];exact ⟨_,rfl,Num.SmF_Zf⟩
def tx12 (x a b c n:List UInt8):Row:=[x,32::x,a,b,c,n++[32],[50,48,50,52,45,48,50,45,51,48],[50,57,46,48,50,46,49,57,48,48],[50,57,46,48,50,46,50,48,48,48],[48,48,48,48,45,48,49,45,48,49],[48,48,49,50,51,52,53,54,55,56,57,48,49,50,51,52,53],[45,48,48,48,46,49,48]]
theorem tx12_len {x a b c n:List UInt8} (hx:x.length≤60) (ha:a.length≤60) (hb:b.length≤60) (hc:c.length≤60) (hn:n.length≤60):∀ s∈tx12 x a b c n,s.length≤61:=by
 intro s hs
 unfold tx12 at hs
 simp only [List.mem_cons,List.not_mem_nil,or_false] at hs
 rcases hs with e | e | e | e | e | e | e | e | e | e | e | e<;>subst e<;>first | decide | omega | (simp only [List.length_cons,List.length_append,List.length_nil];omega)
def kds (k:Int):List Int:=[k,0,1,2,3,4,5,6]
theorem kds_ok {k:Int} (h1:-9223372036854775808≤k) (h2:k≤9223372036854775807):∀ z∈kds k,-9223372036854775808≤z∧z≤9223372036854775807:=by
 intro z hz
 unfold kds at hz
 simp only [List.mem_cons,List.not_mem_nil,or_false] at hz
 rcases hz with e | e | e | e | e | e | e | e<;>subst e<;>first | exact ⟨h1,h2⟩ | decide
theorem row_kds (k:Int):[D.int .i64 k,D.int .i64 0,D.int .i64 1,D.int .i64 2,D.int .i64 3,D.int .i64 4,D.int .i64 5,D.int .i64 6]=ints .i64 (kds k):=rfl
theorem row_tx12 (x a b c n:List UInt8):[D.str (bs x),D.str (bs (32::x)),D.str (bs a),D.str (bs b),D.str (bs c),D.str (bs (n++[32])),D.str ⟨#[50,48,50,52,45,48,50,45,51,48]⟩,D.str ⟨#[50,57,46,48,50,46,49,57,48,48]⟩,D.str ⟨#[50,57,46,48,50,46,50,48,48,48]⟩,D.str ⟨#[48,48,48,48,45,48,49,45,48,49]⟩,D.str ⟨#[48,48,49,50,51,52,53,54,55,56,57,48,49,50,51,52,53]⟩,D.str ⟨#[45,48,48,48,46,49,48]⟩]=strs (tx12 x a b c n):=rfl
theorem tsteps_law (hG:Num.HG G) (hE:HE G) (hP:HP G) (hO:HO G) (t:List Int) (ht:OkS t) (hl:t.length≤9223372036854775807) (x:List UInt8) (hx:x.length≤1048576)
  (raw:List Cel) (hraw:raw.length≤9223372036854775807∧∀ x∈raw,x.1.length≤1048576) (kd:Int) (kd1:-9223372036854775808≤kd) (kd2:kd≤9223372036854775807) :
  Ctr TP G 6 [.d (.sl t.length false (ints .u8 t)),.d (S x),.d (CelS raw false),.d (.int .i64 kd)] [] (.d (.bool true)) []:=by
 refine Ctr.pure (M:=M0) hmix Tryz.func6 rfl go6 ?_
 have hmm:=ht.take
 have hraw1:=hraw.1
 simp (config:={maxSteps:=1000000}) (disch:=(try simp only [awL]);omega) only [awS,Tryz.f6,↓awU,awV,awX,awF,↓reduceIte,↓reduceDIte,↓Qe,Qu,Qv,Qw,Qx,Qy,Qz,QA,QB,QC,QD,QE,QF,QG,QH,QI,QK]
 refine CallC.pure (tsane_spec (G:=G) hG) ?_
 by_cases g2:x.length≤60
 ·by_cases g1:raw.length≤20
  ·simp (config:={maxSteps:=1000000}) (disch:=(try simp only [awL]);omega) only [awS,↓awU,awV,awX,awF,↓reduceIte,↓reduceDIte,↓Qe,Qu,Qv,Qw,Qx,Qy,Qz,QA,QB,QC,QD,QE,QF,QG,QH,QI,QK]
   refine CallC.by (new_spec t hl) (by rfl) (by rfl) (Nat.zero_le _) ?_
   generalize t.take 300=t0 at *
   simp (config:={maxSteps:=1000000}) (disch:=(try simp only [awL]);omega) only [awS,↓awU,awV,awX,awF,↓reduceIte,↓reduceDIte,↓Qe,Qu,Qv,Qw,Qx,Qy,Qz,QA,QB,QC,QD,QE,QF,QG,QH,QI,QK]
   refine CallC.by (field_mspec t0 0 1 hmm (by decide)) (by rfl) (by rfl) (Nat.le_refl _) ?_
   have n1:=(fieldM_ok t0 0 1).2
   generalize fieldM t0 0 1=x1 at *
   generalize fieldK t0 0 1=k1 at *
   simp (config:={maxSteps:=1000000}) (disch:=(try simp only [awL]);omega) only [awS,↓awU,awV,awX,awF,↓reduceIte,↓reduceDIte,↓Qe,Qu,Qv,Qw,Qx,Qy,Qz,QA,QB,QC,QD,QE,QF,QG,QH,QI,QK]
   refine CallC.by (field_mspec t0 k1 2 hmm (by decide)) (by rfl) (by rfl) (Nat.le_refl _) ?_
   have n2:=(fieldM_ok t0 k1 2).2
   generalize fieldM t0 k1 2=x2 at *
   generalize fieldK t0 k1 2=k2 at *
   simp (config:={maxSteps:=1000000}) (disch:=(try simp only [awL]);omega) only [awS,↓awU,awV,awX,awF,↓reduceIte,↓reduceDIte,↓Qe,Qu,Qv,Qw,Qx,Qy,Qz,QA,QB,QC,QD,QE,QF,QG,QH,QI,QK]
   refine CallC.by (field_mspec t0 k2 3 hmm (by decide)) (by rfl) (by rfl) (Nat.le_refl _) ?_
   have n3:=(fieldM_ok t0 k2 3).2
   generalize fieldM t0 k2 3=x3 at *
   generalize fieldK t0 k2 3=k3 at *
   simp (config:={maxSteps:=1000000}) (disch:=(try simp only [awL]);omega) only [awS,↓awU,awV,awX,awF,↓reduceIte,↓reduceDIte,↓Qe,Qu,Qv,Qw,Qx,Qy,Qz,QA,QB,QC,QD,QE,QF,QG,QH,QI,QK]
   refine CallC.by (number_spec t0 k3 hmm) (by rfl) (by rfl) (Nat.le_refl _) ?_
   have n4:=(numM_len t0 k3).2
   generalize numM t0 k3=x4 at *
   generalize numK t0 k3=k4 at *
   simp (config:={maxSteps:=1000000}) (disch:=(try simp only [awL]);omega) only [awS,↓awU,awV,awX,awF,↓reduceIte,↓reduceDIte,↓Qe,Qu,Qv,Qw,Qx,Qy,Qz,QA,QB,QC,QD,QE,QF,QG,QH,QI,QK]
   rw [row_tx12 x x1 x2 x3 x4,row_kds kd]
   have tl:=tx12_len (x:=x) (a:=x1) (b:=x2) (c:=x3) (n:=x4) g2 (by omega) (by omega) (by omega) (by omega)
   have sl:=@strs_length (tx12 x x1 x2 x3 x4)
   have s12:(tx12 x x1 x2 x3 x4).length=12:=rfl
   rw [s12] at sl
   generalize tx12 x x1 x2 x3 x4=T at *
   have kl:=ints_length (k:=.i64) (l:=kds kd)
   have kl8:(kds kd).length=8:=rfl
   rw [kl8] at kl
   have kok:=kds_ok kd1 kd2
   generalize kds kd=KD at *
   refine LoopC.fx 27670116110564328966 (α:=Nat × Nat) (β:=Unit) (fun z=>8 - z.1) (fun z=>[(65,.d (.int .i64 (z.1:Nat)))]) (fun z=>[DiceM t0 z.2,.row false (strs T),.row false (ints .i64 KD)]) (fun z=>z.1≤8)
    2 (fun _=>[]) (fun _=>[]) (fun _=>True) (0,k4) (Nat.zero_le _) ?_ ?_ ?_
   ·first | exact ⟨[some 0,some 1,some 2],rfl,by simp,by simp [sA,kA,SW,AW],by simp [HW,BW,SW,AW]⟩
   ·rintro ⟨i,k⟩ hi
    simp only at hi
    simp only [awK,Nat.reduceMod,Nat.reduceDiv,reduceIte]
    rcases Nat.lt_or_ge i 8 with h | h
    ·have gk:=ints_getD (k:=.i64) (d:=.nilp) (l:=KD) (i:=i) (by omega)
     have kb:=kok _ (memD (d:=(0:Int)) (l:=KD) (i:=i) (by omega))
     generalize KD.getD i 0=K at *
     have e1:=tname_spec (G:=G) K kb.1 kb.2
     have e2:=rtname_spec (G:=G) K kb.1 kb.2
     generalize decide (kOf K)=ko at *
     generalize nmK K=nK at *
     simp (config:={maxSteps:=1000000}) (disch:=(try simp only [awL]);omega) only [awS,kl,gk,↓awU,awV,awX,awF,↓reduceIte,↓reduceDIte,↓Qe,Qu,Qv,Qw,Qx,Qy,Qz,QA,QB,QC,QD,QE,QF,QG,QH,QI,QK]
     refine CallC.of e1 (by rfl) ?_
     simp (config:={maxSteps:=1000000}) (disch:=(try simp only [awL]);omega) only [awS,↓awU,awV,awX,awF,↓reduceIte,↓reduceDIte,↓Qe,Qu,Qv,Qw,Qx,Qy,Qz,QA,QB,QC,QD,QE,QF,QG,QH,QI,QK]
     refine CallC.of e2 (by rfl) ?_
     simp (config:={maxSteps:=1000000}) (disch:=(try simp only [awL]);omega) only [awS,sl,↓awU,awV,awX,awF,↓reduceIte,↓reduceDIte,↓Qe,Qu,Qv,Qw,Qx,Qy,Qz,QA,QB,QC,QD,QE,QF,QG,QH,QI,QK]
     refine LoopC.fx 464227579295621861070607878 (α:=Nat) (β:=Unit) (fun j=>12 - j) (fun j=>[(89,.d (.int .i64 (j:Nat)))]) (fun _=>[DiceM t0 k,.row false (strs T),.row false (ints .i64 KD)]) (fun j=>j≤12)
      64563604257983436294 (fun _=>[]) (fun _=>[DiceM t0 k,.row false (strs T),.row false (ints .i64 KD)]) (fun _=>True) 0 (Nat.zero_le _) ?_ ?_ ?_
     ·first | exact ⟨[some 0,some 1,some 2],rfl,by simp,by simp [sA,kA,SW,AW],by simp [HW,BW,SW,AW]⟩
     ·intro j hj
      simp only [awK,Nat.reduceMod,Nat.reduceDiv,reduceIte]
      rcases Nat.lt_or_ge j 12 with h5 | h5
      ·have gs:=strs_getD (l:=T) (i:=j) (by omega)
       have gl:=tl _ (memD (d:=[]) (l:=T) (i:=j) (by omega))
       generalize T.getD j []=q at *
       have c1:=canon_spec hG hE hP K kb.1 kb.2 q (by omega)
       have c2:=rcanon_spec (G:=G) K q (by omega)
       have v1:=value_spec hG hE hP K kb.1 kb.2 q (by omega)
       have v2:=rvalue_spec (G:=G) K kb.1 kb.2 q (by omega)
       obtain ⟨d,ed,z1,z2,ez,hz1,hz2⟩:=valE_form K q
       have sf:=Num.rsameF_spec (G:=G) z1 z2 hz1 hz2
       rw [ed,ez] at v1 v2
       generalize okV K q=ov at *
       generalize okK K q=ok at *
       generalize cnK K q=Y at *
       unfold Num.FrI at sf v1 v2
       generalize Num.toW z1.natAbs=w1 at *
       generalize Num.toW z2.natAbs=w2 at *
       generalize decide (z1<0)=u1 at *
       generalize decide (z2<0)=u2 at *
       simp (config:={maxSteps:=1000000}) (disch:=(try simp only [awL]);omega) only [awS,sl,gs,↓awU,awV,awX,awF,↓reduceIte,↓reduceDIte,↓Qe,Qu,Qv,Qw,Qx,Qy,Qz,QA,QB,QC,QD,QE,QF,QG,QH,QI,QK]
       refine CallC.of c1 (by rfl) ?_
       simp (config:={maxSteps:=1000000}) (disch:=(try simp only [awL]);omega) only [awS,↓awU,awV,awX,awF,↓reduceIte,↓reduceDIte,↓Qe,Qu,Qv,Qw,Qx,Qy,Qz,QA,QB,QC,QD,QE,QF,QG,QH,QI,QK]
       refine CallC.of c2 (by rfl) ?_
       simp (config:={maxSteps:=1000000}) (disch:=(try simp only [awL]);omega) only [awS,↓awU,awV,awX,awF,↓reduceIte,↓reduceDIte,↓Qe,Qu,Qv,Qw,Qx,Qy,Qz,QA,QB,QC,QD,QE,QF,QG,QH,QI,QK]
       refine CallC.of v1 (by rfl) ?_
       simp (config:={maxSteps:=1000000}) (disch:=(try simp only [awL]);omega) only [awS,↓awU,awV,awX,awF,↓reduceIte,↓reduceDIte,↓Qe,Qu,Qv,Qw,Qx,Qy,Qz,QA,QB,QC,QD,QE,QF,QG,QH,QI,QK]
       refine CallC.of v2 (by rfl) ?_
       simp (config:={maxSteps:=1000000}) (disch:=(try simp only [awL]);omega) only [awS,bne_self_eq_false,beq_self_eq_true,↓awU,awV,awX,awF,↓reduceIte,↓reduceDIte,↓Qe,Qu,Qv,Qw,Qx,Qy,Qz,QA,QB,QC,QD,QE,QF,QG,QH,QI,QK]
       refine CallC.of sf (by rfl) ?_
       simp (config:={maxSteps:=1000000}) (disch:=(try simp only [awL]);omega) only [awS,↓awU,awV,awX,awF,↓reduceIte,↓reduceDIte,↓Qe,Qu,Qv,Qw,Qx,Qy,Qz,QA,QB,QC,QD,QE,QF,QG,QH,QI,QK]
       first
       | exact ⟨j+1,h5,by simp only;omega,⟨[some 0,some 1,some 2],rfl,by simp,by simp [sA,kA,SW,AW],by simp [HW,BW,SW,AW]⟩⟩
       | exact ⟨by rfl,j+1,h5,by simp only;omega,⟨[some 0,some 1,some 2],rfl,by simp,by simp [sA,kA,SW,AW],by simp [HW,BW,SW,AW]⟩⟩
      ·obtain rfl:j=12:=by omega
       simp (config:={maxSteps:=1000000}) (disch:=(try simp only [awL]);omega) only [awS,sl,↓awU,awV,awX,awF,↓reduceIte,↓reduceDIte,↓Qe,Qu,Qv,Qw,Qx,Qy,Qz,QA,QB,QC,QD,QE,QF,QG,QH,QI,QK]
       first | exact ⟨(),trivial,⟨[some 0,some 1,some 2],rfl,by simp,by simp [sA,kA,SW,AW],by simp [HW,BW,SW,AW]⟩⟩
     ·rintro ⟨⟩ -
      simp only [awK,Nat.reduceMod,Nat.reduceDiv,reduceIte]
      simp (config:={maxSteps:=1000000}) (disch:=(try simp only [awL]);omega) only [awS,↓awU,awV,awX,awF,↓reduceIte,↓reduceDIte,↓Qe,Qu,Qv,Qw,Qx,Qy,Qz,QA,QB,QC,QD,QE,QF,QG,QH,QI,QK]
      refine CallC.by (tmade_spec t0 k hmm) (by rfl) (by rfl) (Nat.le_refl _) ?_
      have okm:=madeT_okY t0 k
      generalize madeTK t0 k=kk at *
      generalize madeT t0 k=l at *
      have okr:okY raw:=⟨by omega,fun z hz=>by have:=hraw.2 z hz;omega⟩
      simp (config:={maxSteps:=1000000}) (disch:=(try simp only [awL]);omega) only [awS,↓awU,awV,awX,awF,↓reduceIte,↓reduceDIte,↓Qe,Qu,Qv,Qw,Qx,Qy,Qz,QA,QB,QC,QD,QE,QF,QG,QH,QI,QK]
      have hLx:∀ i,i<2→∃ (nm:List UInt8) (cs:List Cel),([S [99],CelS l false,S [],CelS raw false].drop (i*2)).take 2=[S nm,CelS cs false]∧okY cs:=by
       intro i hi
       rcases (by omega:i=0∨i=1) with rfl | rfl
       ·exact ⟨[99],l,rfl,okm⟩
       ·exact ⟨[],raw,rfl,okr⟩
      have hb0:D.str ByteArray.empty=S []:=rfl
      try rw [hb0]
      generalize hL2:[S [99],CelS l false,S [],CelS raw false]=L2 at *
      have hLl:L2.length=4:=by rw [← hL2];rfl
      clear hL2
      refine LoopC.fx 8362779449448983678075958915847393548178950 (α:=Nat) (β:=Unit) (fun j=>2 - j) (fun j=>[(143,.d (.int .i64 (j:Nat)))]) (fun _=>[DiceM t0 kk,.row false (strs T),.row false (ints .i64 KD),.row false L2]) (fun j=>j≤2)
       64563604257983432198 (fun _=>[]) (fun _=>[DiceM t0 kk,.row false (strs T),.row false (ints .i64 KD)]) (fun _=>True) 0 (Nat.zero_le _) ?_ ?_ ?_
      ·first | exact ⟨[some 0,some 1,some 2,some 3],rfl,by simp,by simp [sA,kA,SW,AW],by simp [HW,BW,SW,AW]⟩
      ·intro j hj
       simp only [awK,Nat.reduceMod,Nat.reduceDiv,reduceIte]
       rcases Nat.lt_or_ge j 2 with h2 | h2
       ·obtain ⟨nm,cs,gl,okc⟩:=hLx j h2
        have a1:=tapply_spec hG hE hP nm cs false okc K kb.1 kb.2
        have a2:=rtapply_spec (G:=G) nm cs false okc K kb.1 kb.2
        obtain ⟨nm2,l2,e,le⟩:=tapR_form nm K cs
        rw [e] at a1 a2
        have sc:=sameCells_spec (G:=G) ⟨nm2,l2⟩ false false (by show l2.length≤1000000;have:=okc.1;omega)
        have o1:=toptions_spec hG hE hP hO nm cs false okc
        have o2:=rtoptions_spec (G:=G) nm cs false okc
        have ol:=optsT_len cs
        have so:=sameOpt_spec (G:=G) (optsT cs) false false (by rw [ol];decide)
        have q1:=guess_spec hG hE hP hO nm cs false okc
        have q2:=rguess_spec (G:=G) nm cs false okc
        rw [ol] at o1 o2 so
        generalize optC (optsT cs)=O at *
        generalize gsT cs=gs at *
        generalize tapE K cs=er at *
        simp (config:={maxSteps:=1000000}) (disch:=(try simp only [awL]);omega) only [awS,hLl,gl,↓awU,awV,awX,awF,↓reduceIte,↓reduceDIte,↓Qe,Qu,Qv,Qw,Qx,Qy,Qz,QA,QB,QC,QD,QE,QF,QG,QH,QI,QK]
        refine CallC.of a1 (by rfl) ?_
        simp (config:={maxSteps:=1000000}) (disch:=(try simp only [awL]);omega) only [awS,↓awU,awV,awX,awF,↓reduceIte,↓reduceDIte,↓Qe,Qu,Qv,Qw,Qx,Qy,Qz,QA,QB,QC,QD,QE,QF,QG,QH,QI,QK]
        refine CallC.of a2 (by rfl) ?_
        simp (config:={maxSteps:=1000000}) (disch:=(try simp only [awL]);omega) only [awS,↓awU,awV,awX,awF,↓reduceIte,↓reduceDIte,↓Qe,Qu,Qv,Qw,Qx,Qy,Qz,QA,QB,QC,QD,QE,QF,QG,QH,QI,QK]
        refine CallC.of sc (by rfl) ?_
        simp (config:={maxSteps:=1000000}) (disch:=(try simp only [awL]);omega) only [awS,↓awU,awV,awX,awF,↓reduceIte,↓reduceDIte,↓Qe,Qu,Qv,Qw,Qx,Qy,Qz,QA,QB,QC,QD,QE,QF,QG,QH,QI,QK]
        refine CallC.of o1 (by rfl) ?_
        simp (config:={maxSteps:=1000000}) (disch:=(try simp only [awL]);omega) only [awS,↓awU,awV,awX,awF,↓reduceIte,↓reduceDIte,↓Qe,Qu,Qv,Qw,Qx,Qy,Qz,QA,QB,QC,QD,QE,QF,QG,QH,QI,QK]
        refine CallC.of o2 (by rfl) ?_
        simp (config:={maxSteps:=1000000}) (disch:=(try simp only [awL]);omega) only [awS,↓awU,awV,awX,awF,↓reduceIte,↓reduceDIte,↓Qe,Qu,Qv,Qw,Qx,Qy,Qz,QA,QB,QC,QD,QE,QF,QG,QH,QI,QK]
        refine CallC.of so (by rfl) ?_
        simp (config:={maxSteps:=1000000}) (disch:=(try simp only [awL]);omega) only [awS,↓awU,awV,awX,awF,↓reduceIte,↓reduceDIte,↓Qe,Qu,Qv,Qw,Qx,Qy,Qz,QA,QB,QC,QD,QE,QF,QG,QH,QI,QK]
        refine CallC.of q1 (by rfl) ?_
        simp (config:={maxSteps:=1000000}) (disch:=(try simp only [awL]);omega) only [awS,↓awU,awV,awX,awF,↓reduceIte,↓reduceDIte,↓Qe,Qu,Qv,Qw,Qx,Qy,Qz,QA,QB,QC,QD,QE,QF,QG,QH,QI,QK]
        refine CallC.of q2 (by rfl) ?_
        simp (config:={maxSteps:=1000000}) (disch:=(try simp only [awL]);omega) only [awS,bne_self_eq_false,beq_self_eq_true,↓awU,awV,awX,awF,↓reduceIte,↓reduceDIte,↓Qe,Qu,Qv,Qw,Qx,Qy,Qz,QA,QB,QC,QD,QE,QF,QG,QH,QI,QK]
        first
        | exact ⟨j+1,h2,by simp only;omega,⟨[some 0,some 1,some 2,some 3],rfl,by simp,by simp [sA,kA,SW,AW],by simp [HW,BW,SW,AW]⟩⟩
        | exact ⟨by rfl,j+1,h2,by simp only;omega,⟨[some 0,some 1,some 2,some 3],rfl,by simp,by simp [sA,kA,SW,AW],by simp [HW,BW,SW,AW]⟩⟩
       ·obtain rfl:j=2:=by omega
        simp (config:={maxSteps:=1000000}) (disch:=(try simp only [awL]);omega) only [awS,hLl,↓awU,awV,awX,awF,↓reduceIte,↓reduceDIte,↓Qe,Qu,Qv,Qw,Qx,Qy,Qz,QA,QB,QC,QD,QE,QF,QG,QH,QI,QK]
        first | exact ⟨(),trivial,⟨[some 0,some 1,some 2],rfl,by simp,by simp [sA,kA,SW,AW],by simp [HW,BW,SW,AW]⟩⟩
      ·rintro ⟨⟩ -
       simp only [awK,Nat.reduceMod,Nat.reduceDiv,reduceIte]
       simp (config:={maxSteps:=1000000}) (disch:=(try simp only [awL]);omega) only [awS,↓awU,awV,awX,awF,↓reduceIte,↓reduceDIte,↓Qe,Qu,Qv,Qw,Qx,Qy,Qz,QA,QB,QC,QD,QE,QF,QG,QH,QI,QK]
       first | exact ⟨(i+1,kk),h,by simp only;omega,⟨[some 0,some 1,some 2],rfl,by simp,by simp [sA,kA,SW,AW],by simp [HW,BW,SW,AW]⟩⟩
    ·obtain rfl:i=8:=by omega
     simp (config:={maxSteps:=1000000}) (disch:=(try simp only [awL]);omega) only [awS,kl,↓awU,awV,awX,awF,↓reduceIte,↓reduceDIte,↓Qe,Qu,Qv,Qw,Qx,Qy,Qz,QA,QB,QC,QD,QE,QF,QG,QH,QI,QK]
     first | exact ⟨(),trivial,⟨[],rfl,by simp,by simp [sA,kA,SW,AW],by simp [HW,BW,SW,AW]⟩⟩
   ·rintro ⟨⟩ -
    simp only [awK,Nat.reduceMod,Nat.reduceDiv,reduceIte]
    have m1:=named_spec (G:=G) x
    have m2:=rnamed_spec (G:=G) x
    generalize decide (nmdK x≠0)=b at *
    generalize nmdK x=n at *
    simp (config:={maxSteps:=1000000}) (disch:=(try simp only [awL]);omega) only [awS,↓awU,awV,awX,awF,↓reduceIte,↓reduceDIte,↓Qe,Qu,Qv,Qw,Qx,Qy,Qz,QA,QB,QC,QD,QE,QF,QG,QH,QI,QK]
    refine CallC.of m1 (by rfl) ?_
    simp (config:={maxSteps:=1000000}) (disch:=(try simp only [awL]);omega) only [awS,↓awU,awV,awX,awF,↓reduceIte,↓reduceDIte,↓Qe,Qu,Qv,Qw,Qx,Qy,Qz,QA,QB,QC,QD,QE,QF,QG,QH,QI,QK]
    refine CallC.of m2 (by rfl) ?_
    simp (config:={maxSteps:=1000000}) (disch:=(try simp only [awL]);omega) only [awS,beq_self_eq_true,↓awU,awV,awX,awF,↓reduceIte,↓reduceDIte,↓Qe,Qu,Qv,Qw,Qx,Qy,Qz,QA,QB,QC,QD,QE,QF,QG,QH,QI,QK]
    first | done | rfl
  ·simp (config:={maxSteps:=1000000}) (disch:=(try simp only [awL]);omega) only [awS,↓awU,awV,awX,awF,↓reduceIte,↓reduceDIte,↓Qe,Qu,Qv,Qw,Qx,Qy,Qz,QA,QB,QC,QD,QE,QF,QG,QH,QI,QK]
   first | done | rfl
 ·simp (config:={maxSteps:=1000000}) (disch:=(try simp only [awL]);omega) only [awS,↓awU,awV,awX,awF,↓reduceIte,↓reduceDIte,↓Qe,Qu,Qv,Qw,Qx,Qy,Qz,QA,QB,QC,QD,QE,QF,QG,QH,QI,QK]
  first | done | rfl
end Go.Proofs.YtdpjcghiegggbaaGreatDoor
