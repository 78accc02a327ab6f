/-
  A world that lays the variables of nullSteps.
-/
import Derived.Test.YtkgbbdoeodmkgaaGreatDoorMb3
import Derived.Shelf.SortM.Plain
import Derived.Shelf.SortM.SortNone
import Derived.Ground.SlgmProg
set_option linter.all false
open Go.Abs renaming ofVal→Qa,ofVal0→Qb,isShift→Qc,aggK→Qd,purePost→Qe,combine→Qf,idsA→Qg,cellsA→Qh,numsOf→Qi,srcA→Qj,calleeA→Qk,refsA→Ql,isScalar→Qm,scalarD→Qn,scalar0→Qo,putL→Qr,unfA→Qs,sidsB→QJ,keyKD→QL,isIntK→QM,aggD→QN,aggL→QO,eqKs→QP,boxRow→QQ,nextC_more→QT,nextC_over→QU,bs_size→QV,bs_extract→QW,bs_toList→QX,bs_append→QY,byteAt_bs→QZ,bs_cells→Q0,nums_length→Q1,nums_getD→Q2
open Go.Abs.AV renaming one→Qp
open Go.Abs.D renaming one→Qq
open Go.IntKind renaming signed→Qt
open Nat renaming reduceAdd→Qu,reduceSub→Qv,reduceMul→Qw,reducePow→Qx,reduceDiv→Qy,reduceMod→Qz,reduceEqDiff→QI,reduceBEq→QK
open Int renaming reduceAdd→QA,reduceSub→QB,reduceMul→QC,reducePow→QD,reduceNeg→QE,reduceToNat→QF,reduceLT→QG,reduceLE→QH
open Option renaming toList_some→QR,toList_none→QS
namespace Go.Proofs.YtkgbbdoeodmkgaaGreatDoor
open Go Go.Proofs Go.Abs Go.RowKit Go.ChangeShapes Go.WideShapes Go.ChangeAt
noncomputable def laidWorld_nullSteps (os:Os):World :=
 {World.holding Tryz.prog os ⟨#[.cells #[.int .u32 1] 107],#[],[]⟩ with heap:=((((((((World.holding Tryz.prog os ⟨#[.cells #[.int .u32 1] 107],#[],[]⟩).heap.modify 7 fun
   | .cells _ t frozen=>.cells #[.int .u8 0,.int .u8 1,.int .u8 28,.int .u8 2,.int .u8 29,.int .u8 14,.int .u8 24,.int .u8 3,.int .u8 30,.int .u8 22,.int .u8 20,.int .u8 15,.int .u8 25,.int .u8 17,.int .u8 4,.int .u8 8,.int .u8 31,.int .u8 27,.int .u8 13,.int .u8 23,.int .u8 21,.int .u8 19,.int .u8 16,.int .u8 7,.int .u8 26,.int .u8 12,.int .u8 18,.int .u8 6,.int .u8 11,.int .u8 5,.int .u8 10,.int .u8 9] t frozen
   | o=>o).modify 8 fun
   | .cells _ t frozen=>.cells #[.int .u8 0,.int .u8 1,.int .u8 56,.int .u8 2,.int .u8 57,.int .u8 49,.int .u8 28,.int .u8 3,.int .u8 61,.int .u8 58,.int .u8 42,.int .u8 50,.int .u8 38,.int .u8 29,.int .u8 17,.int .u8 4,.int .u8 62,.int .u8 47,.int .u8 59,.int .u8 36,.int .u8 45,.int .u8 43,.int .u8 51,.int .u8 22,.int .u8 53,.int .u8 39,.int .u8 33,.int .u8 30,.int .u8 24,.int .u8 18,.int .u8 12,.int .u8 5,.int .u8 63,.int .u8 55,.int .u8 48,.int .u8 27,.int .u8 60,.int .u8 41,.int .u8 37,.int .u8 16,.int .u8 46,.int .u8 35,.int .u8 44,.int .u8 21,.int .u8 52,.int .u8 32,.int .u8 23,.int .u8 11,.int .u8 54,.int .u8 26,.int .u8 40,.int .u8 15,.int .u8 34,.int .u8 20,.int .u8 31,.int .u8 10,.int .u8 25,.int .u8 14,.int .u8 19,.int .u8 9,.int .u8 13,.int .u8 8,.int .u8 7,.int .u8 6] t frozen
   | o=>o).modify 5 fun
   | .cells _ t frozen=>.cells #[.int .u64 1,.int .u64 10,.int .u64 100,.int .u64 1000,.int .u64 10000,.int .u64 100000,.int .u64 1000000,.int .u64 10000000,.int .u64 100000000,.int .u64 1000000000,.int .u64 10000000000,.int .u64 100000000000,.int .u64 1000000000000,.int .u64 10000000000000,.int .u64 100000000000000,.int .u64 1000000000000000,.int .u64 10000000000000000,.int .u64 100000000000000000,.int .u64 1000000000000000000,.int .u64 10000000000000000000] t frozen
   | o=>o).modify 3 fun
   | .cells _ t frozen=>.cells #[.int .u8 128,.int .u8 191,.int .u8 160,.int .u8 191,.int .u8 128,.int .u8 159,.int .u8 144,.int .u8 191,.int .u8 128,.int .u8 143,.int .u8 0,.int .u8 0,.int .u8 0,.int .u8 0,.int .u8 0,.int .u8 0,.int .u8 0,.int .u8 0,.int .u8 0,.int .u8 0,.int .u8 0,.int .u8 0,.int .u8 0,.int .u8 0,.int .u8 0,.int .u8 0,.int .u8 0,.int .u8 0,.int .u8 0,.int .u8 0,.int .u8 0,.int .u8 0] t frozen
   | o=>o).modify 1 fun
   | .cells _ t frozen=>.cells #[.slice (some ⟨(World.settled Tryz.prog os).heap.size,0,none⟩) 1 1] t frozen
   | o=>o).modify 0 fun
   | .cells _ t frozen=>.cells #[.string ⟨#[78,65]⟩,.string ⟨#[78,47,65]⟩,.string ⟨#[110,47,97]⟩,.string ⟨#[110,117,108,108]⟩,.string ⟨#[78,85,76,76]⟩,.string ⟨#[110,111,110,101]⟩,.string ⟨#[78,111,110,101]⟩,.string ⟨#[110,97,110]⟩,.string ⟨#[78,97,78]⟩,.string ⟨#[45]⟩,.string ⟨#[45,45]⟩,.string ⟨#[63]⟩,.string ⟨#[46]⟩,.string ⟨#[35,78,47,65]⟩] t frozen
   | o=>o).modify 2 fun
   | .cells _ t frozen=>.cells (Go.Pinned.utf8FirstZ.map fun (n:Nat)=>Value.int .u8 (n:Int)).toArray t frozen
   | o=>o)}
set_option maxRecDepth 100000 in
theorem laid_met_nullSteps (os:Os) (args:Array Value):laidMet Tryz.prog [("math/bits.deBruijn32tab",Rows.laid_math_bits_deBruijn32tab),("math/bits.deBruijn64tab",Rows.laid_math_bits_deBruijn64tab),("internal/strconv.uint64pow10",Rows.laid_internal_strconv_uint64pow10),("unicode/utf8.acceptRanges",Rows.laid_unicode_utf8_acceptRanges),("tablefinder/fraction.one",Rows.laid_tablefinder_fraction_one),("tablefinder/null.known",Rows.laid_tablefinder_null_known),("unicode/utf8.first",Rows.laid_unicode_utf8_first)] ((laidWorld_nullSteps os).forCall (fun _ _=>0) ⟨#[],args,[]⟩).memory :=
 laidMet_of_run' 8 (by kernel_rfl) (by kernel_rfl)
end Go.Proofs.YtkgbbdoeodmkgaaGreatDoor
namespace Go.Proofs.YtkgbbdoeodmkgaaGreatDoor
open Go Go.Proofs Go.Abs Go.RowKit Go.ChangeShapes Go.WideShapes Go.ChangeAt Go.Joins Go.Deep
theorem bulk_part {H:Type} {d:DataW H}:∀ {l:List (DataW H)},d∈l→Rows.uptoBulk d≤Rows.uptoBulkAll l
 | [],h=>by cases h
 | x::r,h=>by
   simp only [Rows.uptoBulkAll]
   rcases List.mem_cons.1 h with e | e
   ·subst e;omega
   ·have:=bulk_part e;omega
theorem bulk_le {H:Type} {l:List (DataW H)} (hk:Rows.uptoSmall H l=true):Rows.uptoBulkAll l≤1048576:=of_decide_eq_true hk
theorem bulk_of {H:Type} {l:List (DataW H)} {d:DataW H} (hk:Rows.uptoSmall H l=true) (h:d∈l):Rows.uptoBulk d≤1048576:=Nat.le_trans (bulk_part h) (bulk_le hk)
theorem bulk_str {H:Type} {x:List UInt8} (h:Rows.uptoBulk (DataW.lit (H:=H) (.string (bs x).data.toList))≤1048576):x.length≤1048576:=by
 simp only [Rows.uptoBulk] at h
 have e:(bs x).data.toList.length=x.length:=by rw [Array.length_toList];first | done | rfl | exact bs_size
 omega
theorem open_strlistB {H:Type} {enc:TypeId × Value→H} {P:Program} {W:World} {base:Nat} {held:Bool} {t e:TypeId} {fuel:Nat} {v:Value} {x:DataW H × List MemPlace} (ht:P.underlying t=some (.slice e)) (he:P.underlying e=some .string) (hc:P.cellsOf e=1)
  (hv:∃ a n c,v=.slice a n c) (h:DataW.trod enc P W base (fun _=>true) held fuel t v.cells.toList=some x) :
  ∃ l:List (List UInt8),R (heldW W) (fun _=>none) v (.d (.sl l.length false (l.map fun s=>.str (bs s))))∧(∀ s∈l,s.length≤maxLen∧s.length≤Rows.uptoBulk x.1)∧l.length≤maxLen:=by
 obtain ⟨a,n,c,rfl⟩:=hv
 rcases open_strings ht he hc h with ⟨hcs,_⟩ | ⟨x,l,cp,zs,hcs,_,hl,hm,hz,hxx,hcell,hwz⟩
 ·simp [Value.cells] at hcs
  obtain ⟨rfl,rfl,rfl⟩:=hcs
  exact ⟨[],.d _ _ (.sl0 _ _),by simp,by simp⟩
 ·simp [Value.cells] at hcs
  obtain ⟨rfl,rfl,rfl⟩:=hcs
  subst hxx
  have hz:zs.length=c:=by simpa using hz
  have lt:(zs.take n).length=n:=by rw [List.length_take];omega
  rcases RD_strings hl (by omega) hcell with hr | h0
  ·refine ⟨(zs.take n).map fun s=>s.data.toList,?_,?_,by rw [List.length_map,lt];omega⟩
   ·have e:(((zs.take n).map fun s=>s.data.toList).map fun s=>D.str (bs s))=(zs.take n).map fun s=>.str s:=by
     rw [List.map_map]
     exact List.map_congr_left fun s _=>by show D.str (bs s.data.toList)=.str s;rw [← bs_of s]
    rw [e,List.length_map,lt]
    exact .d _ _ hr
   ·intro s hs
    obtain ⟨z,hz1,rfl⟩:=List.mem_map.1 hs
    refine ⟨hwz z (List.mem_of_mem_take hz1),?_⟩
    have hm:(DataW.lit (H:=H) (.string z.data.toList))∈Go.ChangeShapes.strs (zs.take n):=List.mem_map.2 ⟨z,hz1,rfl⟩
    have:=bulk_part hm
    simp only [Rows.uptoBulk] at this ⊢
    omega
  ·subst h0
   refine ⟨[],?_,by simp,by simp⟩
   rcases Nat.eq_zero_or_pos c with h1 | h1
   ·subst h1;exact .d _ _ (.sl0 _ _)
   ·obtain ⟨b,off,spot⟩:=x
    have hs:spot=none:=by simpa [Addr.add] using World.cell?_spot (hcell 0 (by omega))
    subst hs
    exact .d _ _ (.sl b off 0 c false _ (fun _=>undef) (by omega) (fun h=>by cases h) (by simp) (by simp) (by simp))
end Go.Proofs.YtkgbbdoeodmkgaaGreatDoor
namespace Go.Proofs.YtkgbbdoeodmkgaaGreatDoor
open Go Go.Proofs Go.Abs
variable {G:Globals}
def okL (l:List Cel):Prop:=l.length≤1000000∧∀ x∈l,x.1.length≤1000000000
theorem okL.at {l:List Cel} (h:okL l) {i:Nat} (hi:i<l.length):(l.getD i noC).1.length≤1000000000:=h.2 _ (memD hi)
theorem keysOK_S {m:List (D × D)} (h:KeyS m):keysOK Tryz.prog 9 m=true:=h.ok
def MpI (l:List Cel) (i:Nat) (mp:List (D × D)):Prop:=KeyS mp∧∀ m∈knownL,lookV (.int .i64 0) mp (S m) false=.int .i64 ((l.take i).countP (isMk m):Nat)
theorem MpI.same {l:List Cel} {i:Nat} {mp:List (D × D)} (h:MpI l i mp) (hi:i<l.length) (hx:∀ m∈knownL,isMk m (l.getD i noC)=false):MpI l (i+1) mp :=
 ⟨h.1,fun m hm=>by rw [h.2 m hm,countP_step (isMk m) hi,hx m hm,if_neg Bool.false_ne_true,Nat.add_zero]⟩
theorem MpI.upd {l:List Cel} {i:Nat} {mp:List (D × D)} (h:MpI l i mp) (hi:i<l.length) {t:List UInt8} (ht:t=Lib.trimB (l.getD i noC).1 32) (hn:(l.getD i noC).2=false) (hk:t∈knownL) :
  MpI l (i+1) (updE mp (S t) (.int .i64 ((l.take i).countP (isMk t)+1:Nat))):=⟨h.1.upd _ _,fun m hm=>by
 rw [look_upd h.1,countP_step (isMk m) hi]
 by_cases e:m=t
 ·subst e
  have:isMk m (l.getD i noC)=true:=by unfold isMk;rw [hn,← ht,decide_eq_true rfl];rfl
  rw [if_pos rfl,this,if_pos rfl]
 ·have:isMk m (l.getD i noC)=false:=by unfold isMk;rw [hn,← ht,decide_eq_false (fun q=>e q.symm)];rfl
  rw [if_neg e,this,if_neg Bool.false_ne_true,h.2 m hm];rfl⟩
theorem nullP_len (l:List Cel) (n:Nat):(nullP l n).length≤14:=by
 unfold nullP
 rw [List.length_map]
 refine Nat.le_trans (List.length_filter_le _ _) ?_
 rw [List.length_take];show min n 14≤14;omega
set_option maxHeartbeats 16000000 in
set_option maxRecDepth 100000 in
theorem noptions_spec (hG:Num.HG G) (hK:HK G) (nm:List UInt8) (l:List Cel) (full:Bool) (hl:okL l) :
  Ctr Tryz.prog G 10 [.d (.agg [S nm,CelS l full])] [] (.d (.sl (nullO l).length false (optC (nullO l)))) []:=by
 refine Ctr.pure (M:=M0) hmix Tryz.func10 rfl go10 ?_
 have hK':G 0=some (strs knownL):=hK
 have lc:=celsD_length l
 have l1:=hl.1
 simp (config:={maxSteps:=1000000}) (disch:=((try simp only [awL]);omega)) only [QR,QS,QT,QU,QV,QW,QX,QY,QZ,Q0,Q1,Q2,lc,Tryz.f10,↓awU,awV,awF,Qa,Qb,Qc,Qd,forall_const,↓reduceIte,↓reduceDIte,↓Qe,Qf,Qg,Qh,Qi,Qj,Qk,Ql,Qm,Qn,Qo,Qp,Qq,Qr,Qs,implies_true,Qt,Qu,Qv,Qw,Qx,Qy,Qz,QA,QB,QC,QD,QE,QF,QG,QH,QI,QJ,QK,QL,QM,QN,QO,QP,QQ]
 refine LoopC.fx 24584 (α:=Nat × List (D × D)) (β:=List (D × D)) (fun x=>l.length - x.1) (fun x=>[(4,.d (.int .i64 ((l.take x.1).countP isOt:Nat))),(15,.d (.int .i64 (x.1:Nat)))])
  (fun x=>[.box [.d (S nm),.d (CelS l full)],.map x.2]) (fun x=>x.1≤l.length∧MpI l x.1 x.2)
  8 (fun _=>[(4,.d (.int .i64 (l.countP isOt:Nat)))]) (fun y=>[.box [.d (S nm),.d (CelS l full)],.map y]) (fun y=>MpI l l.length y) (0,[]) ⟨Nat.zero_le _,KeyS.nil,fun m hm=>rfl⟩ ?_ ?_ ?_
 ·exact ⟨[some 0,some 1],rfl,by simp,by simp [setsA,keepA,SWeak,AWeak],by simp [HWeak,BWeak,SWeak,AWeak]⟩
 ·rintro ⟨i,mp⟩ ⟨h1,h2⟩
  simp only at h1 h2
  have ok1:=keysOK_S h2.1
  have ot:=countP_le_n isOt (m:=1000000) l1 i
  simp only [awK,Nat.reduceMod,Nat.reduceDiv,reduceIte]
  rcases Nat.lt_or_ge i l.length with h | h
  ·have gc:=celsD_get h
   have gx:=hl.at h
   have co:=countP_step isOt h
   have same:=h2.same h
   have upd:=fun t=>h2.upd h (t:=t)
   have hm:=fun m=>countP_le_n (isMk m) (m:=1000000) l1 i
   have h2b:=h2.2
   generalize hx:l.getD i noC=x at *
   obtain ⟨t,nul⟩:=x
   simp only at gx
   have tl:=trimB_len t
   simp (config:={maxSteps:=1000000}) (disch:=((try simp only [awL]);omega)) only [QR,QS,QT,QU,QV,QW,QX,QY,QZ,Q0,Q1,Q2,lc,gc,↓awU,awV,awF,Qa,Qb,Qc,Qd,forall_const,↓reduceIte,↓reduceDIte,↓Qe,Qf,Qg,Qh,Qi,Qj,Qk,Ql,Qm,Qn,Qo,Qp,Qq,Qr,Qs,implies_true,Qt,Qu,Qv,Qw,Qx,Qy,Qz,QA,QB,QC,QD,QE,QF,QG,QH,QI,QJ,QK,QL,QM,QN,QO,QP,QQ]
   refine CallC.of (ttrim_spec t (by omega)) (by rfl) ?_
   obtain ⟨tr,htr⟩:∃ tr,tr=Lib.trimB t 32:=⟨_,rfl⟩
   rw [← htr] at tl ⊢
   cases nul
   ·have co2:isOt (t,false)=(!decide (tr∈knownL) && (!decide (tr=[]) && !numB tr)):=by unfold isOt;rw [← htr];rfl
    have mk2:∀ m,isMk m (t,false)=decide (tr=m):=fun m=>by unfold isMk;rw [← htr];rfl
    rw [co2] at co
    simp only [mk2] at same
    simp (config:={maxSteps:=1000000}) (disch:=((try simp only [awL]);omega)) only [QR,QS,QT,QU,QV,QW,QX,QY,QZ,Q0,Q1,Q2,lc,hK',known_cut,known_one,↓awU,awV,awF,Qa,Qb,Qc,Qd,forall_const,↓reduceIte,↓reduceDIte,↓Qe,Qf,Qg,Qh,Qi,Qj,Qk,Ql,Qm,Qn,Qo,Qp,Qq,Qr,Qs,implies_true,Qt,Qu,Qv,Qw,Qx,Qy,Qz,QA,QB,QC,QD,QE,QF,QG,QH,QI,QJ,QK,QL,QM,QN,QO,QP,QQ]
    refine CallC.of (containsL_spec knownL false tr (by decide)) (by rfl) ?_
    by_cases e:tr∈knownL
    ·rw [decide_eq_true e] at co ⊢
     have u2:=upd tr htr rfl e
     have lk:=h2b tr e
     have hm2:=hm tr
     rw [Bool.not_true,Bool.false_and,if_neg Bool.false_ne_true,Nat.add_zero] at co
     generalize (l.take i).countP (isMk tr)=c at *
     have c1:((c:Nat):Int)+1=((c+1:Nat):Int):=by omega
     simp (config:={maxSteps:=1000000}) (disch:=((try simp only [awL]);omega)) only [QR,QS,QT,QU,QV,QW,QX,QY,QZ,Q0,Q1,Q2,lc,ok1,lk,c1,↓awU,awV,awF,Qa,Qb,Qc,Qd,forall_const,↓reduceIte,↓reduceDIte,↓Qe,Qf,Qg,Qh,Qi,Qj,Qk,Ql,Qm,Qn,Qo,Qp,Qq,Qr,Qs,implies_true,Qt,Qu,Qv,Qw,Qx,Qy,Qz,QA,QB,QC,QD,QE,QF,QG,QH,QI,QJ,QK,QL,QM,QN,QO,QP,QQ]
     first
     | exact ⟨(i+1,updE mp (S tr) (.int .i64 (c+1:Nat))),⟨h,u2⟩,by simp only;omega,⟨[some 0,some 1],rfl,by simp,by simp [setsA,keepA,SWeak,AWeak,co],by simp [HWeak,BWeak,SWeak,AWeak]⟩⟩
     | exact ⟨by rfl,(i+1,updE mp (S tr) (.int .i64 (c+1:Nat))),⟨h,u2⟩,by simp only;omega,⟨[some 0,some 1],rfl,by simp,by simp [setsA,keepA,SWeak,AWeak,co],by simp [HWeak,BWeak,SWeak,AWeak]⟩⟩
    ·rw [decide_eq_false e] at co ⊢
     have s2:=same fun m hm3=>decide_eq_false fun q=>e (q▸hm3)
     by_cases e2:tr=[]
     ·rw [decide_eq_true e2] at co
      simp only [Bool.not_true,Bool.false_and,Bool.not_false,Bool.true_and,Bool.and_false,if_neg Bool.false_ne_true,Nat.add_zero] at co
      have e3:(tr=[])=True:=eq_true e2
      simp (config:={maxSteps:=1000000}) (disch:=((try simp only [awL]);omega)) only [QR,QS,QT,QU,QV,QW,QX,QY,QZ,Q0,Q1,Q2,lc,e3,↓awU,awV,awF,Qa,Qb,Qc,Qd,forall_const,↓reduceIte,↓reduceDIte,↓Qe,Qf,Qg,Qh,Qi,Qj,Qk,Ql,Qm,Qn,Qo,Qp,Qq,Qr,Qs,implies_true,Qt,Qu,Qv,Qw,Qx,Qy,Qz,QA,QB,QC,QD,QE,QF,QG,QH,QI,QJ,QK,QL,QM,QN,QO,QP,QQ]
      first
      | exact ⟨(i+1,mp),⟨h,s2⟩,by simp only;omega,⟨[some 0,some 1],rfl,by simp,by simp [setsA,keepA,SWeak,AWeak,co],by simp [HWeak,BWeak,SWeak,AWeak]⟩⟩
      | exact ⟨by rfl,(i+1,mp),⟨h,s2⟩,by simp only;omega,⟨[some 0,some 1],rfl,by simp,by simp [setsA,keepA,SWeak,AWeak,co],by simp [HWeak,BWeak,SWeak,AWeak]⟩⟩
     ·rw [decide_eq_false e2] at co
      simp only [Bool.not_false,Bool.true_and] at co
      have e3:(tr=[])=False:=eq_false e2
      simp (config:={maxSteps:=1000000}) (disch:=((try simp only [awL]);omega)) only [QR,QS,QT,QU,QV,QW,QX,QY,QZ,Q0,Q1,Q2,lc,e3,↓awU,awV,awF,Qa,Qb,Qc,Qd,forall_const,↓reduceIte,↓reduceDIte,↓Qe,Qf,Qg,Qh,Qi,Qj,Qk,Ql,Qm,Qn,Qo,Qp,Qq,Qr,Qs,implies_true,Qt,Qu,Qv,Qw,Qx,Qy,Qz,QA,QB,QC,QD,QE,QF,QG,QH,QI,QJ,QK,QL,QM,QN,QO,QP,QQ]
      refine CallC.of (number_spec9 hG tr (by omega)) (by rfl) ?_
      cases e4:numB tr
      ·rw [e4,Bool.not_false,if_pos rfl] at co
       simp (config:={maxSteps:=1000000}) (disch:=((try simp only [awL]);omega)) only [QR,QS,QT,QU,QV,QW,QX,QY,QZ,Q0,Q1,Q2,lc,↓awU,awV,awF,Qa,Qb,Qc,Qd,forall_const,↓reduceIte,↓reduceDIte,↓Qe,Qf,Qg,Qh,Qi,Qj,Qk,Ql,Qm,Qn,Qo,Qp,Qq,Qr,Qs,implies_true,Qt,Qu,Qv,Qw,Qx,Qy,Qz,QA,QB,QC,QD,QE,QF,QG,QH,QI,QJ,QK,QL,QM,QN,QO,QP,QQ]
       first
       | exact ⟨(i+1,mp),⟨h,s2⟩,by simp only;omega,⟨[some 0,some 1],rfl,by simp,by simp [setsA,keepA,SWeak,AWeak,co],by simp [HWeak,BWeak,SWeak,AWeak]⟩⟩
       | exact ⟨by rfl,(i+1,mp),⟨h,s2⟩,by simp only;omega,⟨[some 0,some 1],rfl,by simp,by simp [setsA,keepA,SWeak,AWeak,co],by simp [HWeak,BWeak,SWeak,AWeak]⟩⟩
      ·rw [e4,Bool.not_true,if_neg Bool.false_ne_true,Nat.add_zero] at co
       simp (config:={maxSteps:=1000000}) (disch:=((try simp only [awL]);omega)) only [QR,QS,QT,QU,QV,QW,QX,QY,QZ,Q0,Q1,Q2,lc,↓awU,awV,awF,Qa,Qb,Qc,Qd,forall_const,↓reduceIte,↓reduceDIte,↓Qe,Qf,Qg,Qh,Qi,Qj,Qk,Ql,Qm,Qn,Qo,Qp,Qq,Qr,Qs,implies_true,Qt,Qu,Qv,Qw,Qx,Qy,Qz,QA,QB,QC,QD,QE,QF,QG,QH,QI,QJ,QK,QL,QM,QN,QO,QP,QQ]
       first
       | exact ⟨(i+1,mp),⟨h,s2⟩,by simp only;omega,⟨[some 0,some 1],rfl,by simp,by simp [setsA,keepA,SWeak,AWeak,co],by simp [HWeak,BWeak,SWeak,AWeak]⟩⟩
       | exact ⟨by rfl,(i+1,mp),⟨h,s2⟩,by simp only;omega,⟨[some 0,some 1],rfl,by simp,by simp [setsA,keepA,SWeak,AWeak,co],by simp [HWeak,BWeak,SWeak,AWeak]⟩⟩
   ·have co2:isOt (t,true)=false:=by unfold isOt;rfl
    have mk2:∀ m,isMk m (t,true)=false:=fun m=>by unfold isMk;rfl
    rw [co2,if_neg Bool.false_ne_true,Nat.add_zero] at co
    have s2:=same fun m _=>mk2 m
    simp (config:={maxSteps:=1000000}) (disch:=((try simp only [awL]);omega)) only [QR,QS,QT,QU,QV,QW,QX,QY,QZ,Q0,Q1,Q2,lc,↓awU,awV,awF,Qa,Qb,Qc,Qd,forall_const,↓reduceIte,↓reduceDIte,↓Qe,Qf,Qg,Qh,Qi,Qj,Qk,Ql,Qm,Qn,Qo,Qp,Qq,Qr,Qs,implies_true,Qt,Qu,Qv,Qw,Qx,Qy,Qz,QA,QB,QC,QD,QE,QF,QG,QH,QI,QJ,QK,QL,QM,QN,QO,QP,QQ]
    first
    | exact ⟨(i+1,mp),⟨h,s2⟩,by simp only;omega,⟨[some 0,some 1],rfl,by simp,by simp [setsA,keepA,SWeak,AWeak,co],by simp [HWeak,BWeak,SWeak,AWeak]⟩⟩
    | exact ⟨by rfl,(i+1,mp),⟨h,s2⟩,by simp only;omega,⟨[some 0,some 1],rfl,by simp,by simp [setsA,keepA,SWeak,AWeak,co],by simp [HWeak,BWeak,SWeak,AWeak]⟩⟩
  ·have e:i=l.length:=by omega
   subst e
   rw [List.take_of_length_le (Nat.le_refl _)] at ot
   simp (config:={maxSteps:=1000000}) (disch:=((try simp only [awL]);omega)) only [QR,QS,QT,QU,QV,QW,QX,QY,QZ,Q0,Q1,Q2,lc,List.take_length,↓awU,awV,awF,Qa,Qb,Qc,Qd,forall_const,↓reduceIte,↓reduceDIte,↓Qe,Qf,Qg,Qh,Qi,Qj,Qk,Ql,Qm,Qn,Qo,Qp,Qq,Qr,Qs,implies_true,Qt,Qu,Qv,Qw,Qx,Qy,Qz,QA,QB,QC,QD,QE,QF,QG,QH,QI,QJ,QK,QL,QM,QN,QO,QP,QQ]
   exact ⟨mp,h2,⟨[some 0,some 1],rfl,by simp,by simp [setsA,keepA,SWeak,AWeak],by simp [HWeak,BWeak,SWeak,AWeak]⟩⟩
 ·intro mp h2
  have ok1:=keysOK_S h2.1
  have ot:l.countP isOt≤1000000:=Nat.le_trans List.countP_le_length l1
  simp only [awK,Nat.reduceMod,Nat.reduceDiv,reduceIte]
  have kl:(strs knownL).length=14:=rfl
  have kt:List.take 14 (strs knownL)=strs knownL:=rfl
  simp (config:={maxSteps:=1000000}) (disch:=((try simp only [awL]);omega)) only [QR,QS,QT,QU,QV,QW,QX,QY,QZ,Q0,Q1,Q2,hK',kl,kt,↓awU,awV,awF,Qa,Qb,Qc,Qd,forall_const,↓reduceIte,↓reduceDIte,↓Qe,Qf,Qg,Qh,Qi,Qj,Qk,Ql,Qm,Qn,Qo,Qp,Qq,Qr,Qs,implies_true,Qt,Qu,Qv,Qw,Qx,Qy,Qz,QA,QB,QC,QD,QE,QF,QG,QH,QI,QJ,QK,QL,QM,QN,QO,QP,QQ]
  refine LoopC.fr 17592186044440 (α:=Nat) (fun n=>14 - n) (fun n=>[(8,.lsl 2 3 0 (nullP l n).length),(45,.d (.int .i64 (n:Nat)))]) (fun n=>[.dead,.map mp,.row false (optC (nullP l n))]) (fun n=>n≤14) 0 (Nat.zero_le _) ?_ ?_
  ·exact ⟨[some 0,some 1,none],rfl,by simp,by simp [setsA,keepA,SWeak,AWeak,nullP],by simp [HWeak,BWeak,SWeak,AWeak,nullP,optC]⟩
  ·intro n hn
   have ol:=optC_length (nullP l n)
   have pl:=nullP_len l n
   simp only [awK,Nat.reduceMod,Nat.reduceDiv,reduceIte]
   rcases Nat.lt_or_ge n 14 with h | h
   ·have sg:=strs_getD (l:=knownL) (i:=n) h
    have lk:=h2.2 _ (memD (d:=[]) (show n<knownL.length from h))
    rw [List.take_length] at lk
    have st:=nullP_step l h
    have cm:l.countP (isMk (knownL.getD n []))≤1000000:=Nat.le_trans List.countP_le_length l1
    generalize l.countP isOt=ag at *
    generalize l.countP (isMk (knownL.getD n []))=fc at *
    generalize knownL.getD n []=m at *
    rcases Nat.eq_zero_or_pos fc with e | e
    ·subst e
     rw [if_neg (by omega)] at st
     simp (config:={maxSteps:=1000000}) (disch:=((try simp only [awL]);omega)) only [QR,QS,QT,QU,QV,QW,QX,QY,QZ,Q0,Q1,Q2,ol,kl,sg,ok1,lk,↓awU,awV,awF,Qa,Qb,Qc,Qd,forall_const,↓reduceIte,↓reduceDIte,↓Qe,Qf,Qg,Qh,Qi,Qj,Qk,Ql,Qm,Qn,Qo,Qp,Qq,Qr,Qs,implies_true,Qt,Qu,Qv,Qw,Qx,Qy,Qz,QA,QB,QC,QD,QE,QF,QG,QH,QI,QJ,QK,QL,QM,QN,QO,QP,QQ]
     first
     | exact ⟨n+1,h,by simp only;omega,⟨[some 0,some 1,some 2],rfl,by simp,by simp [setsA,keepA,SWeak,AWeak,st],by simp [HWeak,BWeak,SWeak,AWeak,st]⟩⟩
    ·rw [if_pos e] at st
     have op:=optC_push (nullP l n) ⟨m,fc,ag,0⟩
     rw [← st] at op
     have sl:(nullP l (n+1)).length=(nullP l n).length+1:=by rw [st,List.length_append];rfl
     simp (config:={maxSteps:=1000000}) (disch:=((try simp only [awL]);omega)) only [QR,QS,QT,QU,QV,QW,QX,QY,QZ,Q0,Q1,Q2,ol,kl,sg,ok1,lk,↓awU,awV,awF,Qa,Qb,Qc,Qd,forall_const,↓reduceIte,↓reduceDIte,↓Qe,Qf,Qg,Qh,Qi,Qj,Qk,Ql,Qm,Qn,Qo,Qp,Qq,Qr,Qs,implies_true,Qt,Qu,Qv,Qw,Qx,Qy,Qz,QA,QB,QC,QD,QE,QF,QG,QH,QI,QJ,QK,QL,QM,QN,QO,QP,QQ]
     first
     | exact ⟨n+1,h,by simp only;omega,⟨[some 0,some 1,some 4],rfl,by simp,by simp [setsA,keepA,SWeak,AWeak,sl],by simp [HWeak,BWeak,SWeak,AWeak,cut,← op]⟩⟩
     | exact ⟨by rfl,n+1,h,by simp only;omega,⟨[some 0,some 1,some 4],rfl,by simp,by simp [setsA,keepA,SWeak,AWeak,sl],by simp [HWeak,BWeak,SWeak,AWeak,cut,← op]⟩⟩
   ·have e:n=14:=by omega
    subst e
    rw [nullP_all] at ol pl ⊢
    simp (config:={maxSteps:=1000000}) (disch:=((try simp only [awL]);omega)) only [QR,QS,QT,QU,QV,QW,QX,QY,QZ,Q0,Q1,Q2,ol,kl,↓awU,awV,awF,Qa,Qb,Qc,Qd,forall_const,↓reduceIte,↓reduceDIte,↓Qe,Qf,Qg,Qh,Qi,Qj,Qk,Ql,Qm,Qn,Qo,Qp,Qq,Qr,Qs,implies_true,Qt,Qu,Qv,Qw,Qx,Qy,Qz,QA,QB,QC,QD,QE,QF,QG,QH,QI,QJ,QK,QL,QM,QN,QO,QP,QQ]
    rw [cut,List.drop_zero,List.take_of_length_le (by omega)]
end Go.Proofs.YtkgbbdoeodmkgaaGreatDoor
namespace Go.Proofs.YtkgbbdoeodmkgaaGreatDoor
open Go Go.Proofs Go.Abs
variable {G:Globals}
set_option maxHeartbeats 16000000 in
set_option maxRecDepth 100000 in
theorem rnoptions_spec (nm:List UInt8) (l:List Cel) (full:Bool) (hl:okL l) :
  Ctr Tryz.prog G 18 [.d (.agg [S nm,CelS l full])] [] (.d (.sl (nullO l).length false (optC (nullO l)))) []:=by
 refine Ctr.pure (M:=M0) hmix Tryz.func18 rfl go18 ?_
 have lc:=celsD_length l
 have l1:=hl.1
 simp (config:={maxSteps:=1000000}) (disch:=((try simp only [awL]);omega)) only [QR,QS,QT,QU,QV,QW,QX,QY,QZ,Q0,Q1,Q2,lc,Tryz.f18,↓awU,awV,awF,Qa,Qb,Qc,Qd,forall_const,↓reduceIte,↓reduceDIte,↓Qe,Qf,Qg,Qh,Qi,Qj,Qk,Ql,Qm,Qn,Qo,Qp,Qq,Qr,Qs,implies_true,Qt,Qu,Qv,Qw,Qx,Qy,Qz,QA,QB,QC,QD,QE,QF,QG,QH,QI,QJ,QK,QL,QM,QN,QO,QP,QQ]
 refine LoopC.fx 49162 (α:=Nat) (β:=Unit) (fun x=>l.length - x) (fun x=>[(4,.d (.int .i64 ((l.take x).countP isOt:Nat))),(16,.d (.int .i64 (x:Nat)))])
  (fun _=>[.box [.d (S nm),.d (CelS l full)]]) (fun x=>x≤l.length)
  10 (fun _=>[(4,.d (.int .i64 (l.countP isOt:Nat)))]) (fun _=>[.box [.d (S nm),.d (CelS l full)]]) (fun _=>True) 0 (Nat.zero_le _) ?_ ?_ ?_
 ·exact ⟨[some 0],rfl,by simp,by simp [setsA,keepA,SWeak,AWeak],by simp [HWeak,BWeak,SWeak,AWeak]⟩
 ·intro i h1
  have ot:=countP_le_n isOt (m:=1000000) l1 i
  simp only [awK,Nat.reduceMod,Nat.reduceDiv,reduceIte]
  rcases Nat.lt_or_ge i l.length with h | h
  ·have gc:=celsD_get h
   have gx:=hl.at h
   have co:=countP_step isOt h
   generalize hx:l.getD i noC=x at *
   obtain ⟨t,nul⟩:=x
   simp only at gx
   have tl:=trimB_len t
   simp (config:={maxSteps:=1000000}) (disch:=((try simp only [awL]);omega)) only [QR,QS,QT,QU,QV,QW,QX,QY,QZ,Q0,Q1,Q2,lc,gc,↓awU,awV,awF,Qa,Qb,Qc,Qd,forall_const,↓reduceIte,↓reduceDIte,↓Qe,Qf,Qg,Qh,Qi,Qj,Qk,Ql,Qm,Qn,Qo,Qp,Qq,Qr,Qs,implies_true,Qt,Qu,Qv,Qw,Qx,Qy,Qz,QA,QB,QC,QD,QE,QF,QG,QH,QI,QJ,QK,QL,QM,QN,QO,QP,QQ]
   refine CallC.of (rtrim_spec t (by omega)) (by rfl) ?_
   obtain ⟨tr,htr⟩:∃ tr,tr=Lib.trimB t 32:=⟨_,rfl⟩
   rw [← htr] at tl ⊢
   cases nul
   ·have co2:isOt (t,false)=(!decide (tr∈knownL) && (!decide (tr=[]) && !numB tr)):=by unfold isOt;rw [← htr];rfl
    rw [co2] at co
    by_cases e2:tr=[]
    ·rw [decide_eq_true e2] at co
     simp only [Bool.not_true,Bool.false_and,Bool.and_false,if_neg Bool.false_ne_true,Nat.add_zero] at co
     have e3:(tr=[])=True:=eq_true e2
     simp (config:={maxSteps:=1000000}) (disch:=((try simp only [awL]);omega)) only [QR,QS,QT,QU,QV,QW,QX,QY,QZ,Q0,Q1,Q2,lc,e3,↓awU,awV,awF,Qa,Qb,Qc,Qd,forall_const,↓reduceIte,↓reduceDIte,↓Qe,Qf,Qg,Qh,Qi,Qj,Qk,Ql,Qm,Qn,Qo,Qp,Qq,Qr,Qs,implies_true,Qt,Qu,Qv,Qw,Qx,Qy,Qz,QA,QB,QC,QD,QE,QF,QG,QH,QI,QJ,QK,QL,QM,QN,QO,QP,QQ]
     first
     | exact ⟨i+1,h,by simp only;omega,⟨[some 0],rfl,by simp,by simp [setsA,keepA,SWeak,AWeak,co],by simp [HWeak,BWeak,SWeak,AWeak]⟩⟩
     | exact ⟨by rfl,i+1,h,by simp only;omega,⟨[some 0],rfl,by simp,by simp [setsA,keepA,SWeak,AWeak,co],by simp [HWeak,BWeak,SWeak,AWeak]⟩⟩
    ·rw [decide_eq_false e2] at co
     have e3:(tr=[])=False:=eq_false e2
     simp (config:={maxSteps:=1000000}) (disch:=((try simp only [awL]);omega)) only [QR,QS,QT,QU,QV,QW,QX,QY,QZ,Q0,Q1,Q2,lc,e3,↓awU,awV,awF,Qa,Qb,Qc,Qd,forall_const,↓reduceIte,↓reduceDIte,↓Qe,Qf,Qg,Qh,Qi,Qj,Qk,Ql,Qm,Qn,Qo,Qp,Qq,Qr,Qs,implies_true,Qt,Qu,Qv,Qw,Qx,Qy,Qz,QA,QB,QC,QD,QE,QF,QG,QH,QI,QJ,QK,QL,QM,QN,QO,QP,QQ]
     refine CallC.of rmarkers_spec (by rfl) ?_
     simp (config:={maxSteps:=1000000}) (disch:=((try simp only [awL]);omega)) only [QR,QS,QT,QU,QV,QW,QX,QY,QZ,Q0,Q1,Q2,lc,↓awU,awV,awF,Qa,Qb,Qc,Qd,forall_const,↓reduceIte,↓reduceDIte,↓Qe,Qf,Qg,Qh,Qi,Qj,Qk,Ql,Qm,Qn,Qo,Qp,Qq,Qr,Qs,implies_true,Qt,Qu,Qv,Qw,Qx,Qy,Qz,QA,QB,QC,QD,QE,QF,QG,QH,QI,QJ,QK,QL,QM,QN,QO,QP,QQ]
     refine CallC.of (has_spec knownL false tr (by decide)) (by rfl) ?_
     by_cases e:tr∈knownL
     ·rw [decide_eq_true e] at co ⊢
      simp only [Bool.not_true,Bool.false_and,if_neg Bool.false_ne_true,Nat.add_zero] at co
      simp (config:={maxSteps:=1000000}) (disch:=((try simp only [awL]);omega)) only [QR,QS,QT,QU,QV,QW,QX,QY,QZ,Q0,Q1,Q2,lc,↓awU,awV,awF,Qa,Qb,Qc,Qd,forall_const,↓reduceIte,↓reduceDIte,↓Qe,Qf,Qg,Qh,Qi,Qj,Qk,Ql,Qm,Qn,Qo,Qp,Qq,Qr,Qs,implies_true,Qt,Qu,Qv,Qw,Qx,Qy,Qz,QA,QB,QC,QD,QE,QF,QG,QH,QI,QJ,QK,QL,QM,QN,QO,QP,QQ]
      first
      | exact ⟨i+1,h,by simp only;omega,⟨[some 0],rfl,by simp,by simp [setsA,keepA,SWeak,AWeak,co],by simp [HWeak,BWeak,SWeak,AWeak]⟩⟩
      | exact ⟨by rfl,i+1,h,by simp only;omega,⟨[some 0],rfl,by simp,by simp [setsA,keepA,SWeak,AWeak,co],by simp [HWeak,BWeak,SWeak,AWeak]⟩⟩
     ·rw [decide_eq_false e] at co ⊢
      simp only [Bool.not_false,Bool.true_and] at co
      simp (config:={maxSteps:=1000000}) (disch:=((try simp only [awL]);omega)) only [QR,QS,QT,QU,QV,QW,QX,QY,QZ,Q0,Q1,Q2,lc,↓awU,awV,awF,Qa,Qb,Qc,Qd,forall_const,↓reduceIte,↓reduceDIte,↓Qe,Qf,Qg,Qh,Qi,Qj,Qk,Ql,Qm,Qn,Qo,Qp,Qq,Qr,Qs,implies_true,Qt,Qu,Qv,Qw,Qx,Qy,Qz,QA,QB,QC,QD,QE,QF,QG,QH,QI,QJ,QK,QL,QM,QN,QO,QP,QQ]
      refine CallC.of (rnumber_spec9 tr (by omega)) (by rfl) ?_
      cases e4:numB tr
      ·rw [e4,Bool.not_false,if_pos rfl] at co
       simp (config:={maxSteps:=1000000}) (disch:=((try simp only [awL]);omega)) only [QR,QS,QT,QU,QV,QW,QX,QY,QZ,Q0,Q1,Q2,lc,↓awU,awV,awF,Qa,Qb,Qc,Qd,forall_const,↓reduceIte,↓reduceDIte,↓Qe,Qf,Qg,Qh,Qi,Qj,Qk,Ql,Qm,Qn,Qo,Qp,Qq,Qr,Qs,implies_true,Qt,Qu,Qv,Qw,Qx,Qy,Qz,QA,QB,QC,QD,QE,QF,QG,QH,QI,QJ,QK,QL,QM,QN,QO,QP,QQ]
       first
       | exact ⟨i+1,h,by simp only;omega,⟨[some 0],rfl,by simp,by simp [setsA,keepA,SWeak,AWeak,co],by simp [HWeak,BWeak,SWeak,AWeak]⟩⟩
       | exact ⟨by rfl,i+1,h,by simp only;omega,⟨[some 0],rfl,by simp,by simp [setsA,keepA,SWeak,AWeak,co],by simp [HWeak,BWeak,SWeak,AWeak]⟩⟩
      ·rw [e4,Bool.not_true,if_neg Bool.false_ne_true,Nat.add_zero] at co
       simp (config:={maxSteps:=1000000}) (disch:=((try simp only [awL]);omega)) only [QR,QS,QT,QU,QV,QW,QX,QY,QZ,Q0,Q1,Q2,lc,↓awU,awV,awF,Qa,Qb,Qc,Qd,forall_const,↓reduceIte,↓reduceDIte,↓Qe,Qf,Qg,Qh,Qi,Qj,Qk,Ql,Qm,Qn,Qo,Qp,Qq,Qr,Qs,implies_true,Qt,Qu,Qv,Qw,Qx,Qy,Qz,QA,QB,QC,QD,QE,QF,QG,QH,QI,QJ,QK,QL,QM,QN,QO,QP,QQ]
       first
       | exact ⟨i+1,h,by simp only;omega,⟨[some 0],rfl,by simp,by simp [setsA,keepA,SWeak,AWeak,co],by simp [HWeak,BWeak,SWeak,AWeak]⟩⟩
       | exact ⟨by rfl,i+1,h,by simp only;omega,⟨[some 0],rfl,by simp,by simp [setsA,keepA,SWeak,AWeak,co],by simp [HWeak,BWeak,SWeak,AWeak]⟩⟩
   ·have co2:isOt (t,true)=false:=by unfold isOt;rfl
    rw [co2,if_neg Bool.false_ne_true,Nat.add_zero] at co
    simp (config:={maxSteps:=1000000}) (disch:=((try simp only [awL]);omega)) only [QR,QS,QT,QU,QV,QW,QX,QY,QZ,Q0,Q1,Q2,lc,↓awU,awV,awF,Qa,Qb,Qc,Qd,forall_const,↓reduceIte,↓reduceDIte,↓Qe,Qf,Qg,Qh,Qi,Qj,Qk,Ql,Qm,Qn,Qo,Qp,Qq,Qr,Qs,implies_true,Qt,Qu,Qv,Qw,Qx,Qy,Qz,QA,QB,QC,QD,QE,QF,QG,QH,QI,QJ,QK,QL,QM,QN,QO,QP,QQ]
    first
    | exact ⟨i+1,h,by simp only;omega,⟨[some 0],rfl,by simp,by simp [setsA,keepA,SWeak,AWeak,co],by simp [HWeak,BWeak,SWeak,AWeak]⟩⟩
    | exact ⟨by rfl,i+1,h,by simp only;omega,⟨[some 0],rfl,by simp,by simp [setsA,keepA,SWeak,AWeak,co],by simp [HWeak,BWeak,SWeak,AWeak]⟩⟩
  ·have e:i=l.length:=by omega
   subst e
   rw [List.take_of_length_le (Nat.le_refl _)] at ot
   simp (config:={maxSteps:=1000000}) (disch:=((try simp only [awL]);omega)) only [QR,QS,QT,QU,QV,QW,QX,QY,QZ,Q0,Q1,Q2,lc,List.take_length,↓awU,awV,awF,Qa,Qb,Qc,Qd,forall_const,↓reduceIte,↓reduceDIte,↓Qe,Qf,Qg,Qh,Qi,Qj,Qk,Ql,Qm,Qn,Qo,Qp,Qq,Qr,Qs,implies_true,Qt,Qu,Qv,Qw,Qx,Qy,Qz,QA,QB,QC,QD,QE,QF,QG,QH,QI,QJ,QK,QL,QM,QN,QO,QP,QQ]
   exact ⟨(),trivial,⟨[some 0],rfl,by simp,by simp [setsA,keepA,SWeak,AWeak],by simp [HWeak,BWeak,SWeak,AWeak]⟩⟩
 ·rintro ⟨⟩ -
  have ot:l.countP isOt≤1000000:=Nat.le_trans List.countP_le_length l1
  have kl:(strs knownL).length=14:=rfl
  have kn:List.length knownL=14:=rfl
  simp only [awK,Nat.reduceMod,Nat.reduceDiv,reduceIte]
  simp (config:={maxSteps:=1000000}) (disch:=((try simp only [awL]);omega)) only [QR,QS,QT,QU,QV,QW,QX,QY,QZ,Q0,Q1,Q2,↓awU,awV,awF,Qa,Qb,Qc,Qd,forall_const,↓reduceIte,↓reduceDIte,↓Qe,Qf,Qg,Qh,Qi,Qj,Qk,Ql,Qm,Qn,Qo,Qp,Qq,Qr,Qs,implies_true,Qt,Qu,Qv,Qw,Qx,Qy,Qz,QA,QB,QC,QD,QE,QF,QG,QH,QI,QJ,QK,QL,QM,QN,QO,QP,QQ]
  refine CallC.of rmarkers_spec (by rfl) ?_
  simp (config:={maxSteps:=1000000}) (disch:=((try simp only [awL]);omega)) only [QR,QS,QT,QU,QV,QW,QX,QY,QZ,Q0,Q1,Q2,kl,↓awU,awV,awF,Qa,Qb,Qc,Qd,forall_const,↓reduceIte,↓reduceDIte,↓Qe,Qf,Qg,Qh,Qi,Qj,Qk,Ql,Qm,Qn,Qo,Qp,Qq,Qr,Qs,implies_true,Qt,Qu,Qv,Qw,Qx,Qy,Qz,QA,QB,QC,QD,QE,QF,QG,QH,QI,QJ,QK,QL,QM,QN,QO,QP,QQ]
  try rw [show knownL.length=14 from rfl]
  refine LoopC.fr 52776558133266 (α:=Nat) (fun n=>14 - n) (fun n=>[(3,.lsl 1 3 0 (nullP l n).length),(46,.d (.int .i64 (n:Nat)))]) (fun n=>[.box [.d (S nm),.d (CelS l full)],.row false (optC (nullP l n))]) (fun n=>n≤14) 0 (Nat.zero_le _) ?_ ?_
  ·exact ⟨[some 0,none],rfl,by simp,by simp [setsA,keepA,SWeak,AWeak,nullP],by simp [HWeak,BWeak,SWeak,AWeak,nullP,optC]⟩
  ·intro n hn
   have ol:=optC_length (nullP l n)
   have pl:=nullP_len l n
   simp only [awK,Nat.reduceMod,Nat.reduceDiv,reduceIte]
   rcases Nat.lt_or_ge n 14 with h | h
   ·have sg:=strs_getD (l:=knownL) (i:=n) h
    have st:=nullP_step l h
    have op:=optC_push (nullP l n) ⟨knownL.getD n [],l.countP (isMk (knownL.getD n [])),l.countP isOt,0⟩
    generalize l.countP isOt=ag at *
    generalize knownL.getD n []=m at *
    simp (config:={maxSteps:=1000000}) (disch:=((try simp only [awL]);omega)) only [QR,QS,QT,QU,QV,QW,QX,QY,QZ,Q0,Q1,Q2,kl,kn,sg,lc,↓awU,awV,awF,Qa,Qb,Qc,Qd,forall_const,↓reduceIte,↓reduceDIte,↓Qe,Qf,Qg,Qh,Qi,Qj,Qk,Ql,Qm,Qn,Qo,Qp,Qq,Qr,Qs,implies_true,Qt,Qu,Qv,Qw,Qx,Qy,Qz,QA,QB,QC,QD,QE,QF,QG,QH,QI,QJ,QK,QL,QM,QN,QO,QP,QQ]
    refine LoopC.fr 6878544743367194 (α:=Nat) (fun j=>l.length - j) (fun j=>[(10,.d (.int .i64 ((l.take j).countP (isMk m):Nat))),(53,.d (.int .i64 (j:Nat)))])
     (fun _=>[.box [.d (S nm),.d (CelS l full)],.row false (optC (nullP l n))]) (fun j=>j≤l.length) 0 (Nat.zero_le _) ?_ ?_
    ·exact ⟨[some 0,some 1],rfl,by simp,by simp [setsA,keepA,SWeak,AWeak],by simp [HWeak,BWeak,SWeak,AWeak]⟩
    ·intro j hj
     have cm:=countP_le_n (isMk m) (m:=1000000) l1 j
     simp only [awK,Nat.reduceMod,Nat.reduceDiv,reduceIte]
     rcases Nat.lt_or_ge j l.length with h3 | h3
     ·have gc:=celsD_get h3
      have gx:=hl.at h3
      have co:=countP_step (isMk m) h3
      generalize hx:l.getD j noC=x at *
      obtain ⟨t,nul⟩:=x
      simp only at gx
      have tl:=trimB_len t
      cases nul
      ·have mk2:isMk m (t,false)=decide (Lib.trimB t 32=m):=by unfold isMk;rfl
       rw [mk2] at co
       simp (config:={maxSteps:=1000000}) (disch:=((try simp only [awL]);omega)) only [QR,QS,QT,QU,QV,QW,QX,QY,QZ,Q0,Q1,Q2,lc,gc,↓awU,awV,awF,Qa,Qb,Qc,Qd,forall_const,↓reduceIte,↓reduceDIte,↓Qe,Qf,Qg,Qh,Qi,Qj,Qk,Ql,Qm,Qn,Qo,Qp,Qq,Qr,Qs,implies_true,Qt,Qu,Qv,Qw,Qx,Qy,Qz,QA,QB,QC,QD,QE,QF,QG,QH,QI,QJ,QK,QL,QM,QN,QO,QP,QQ]
       refine CallC.of (rtrim_spec t (by omega)) (by rfl) ?_
       generalize Lib.trimB t 32=tr at *
       by_cases e:tr=m
       ·rw [decide_eq_true e,if_pos rfl] at co
        have e3:(tr=m)=True:=eq_true e
        simp (config:={maxSteps:=1000000}) (disch:=((try simp only [awL]);omega)) only [QR,QS,QT,QU,QV,QW,QX,QY,QZ,Q0,Q1,Q2,lc,e3,↓awU,awV,awF,Qa,Qb,Qc,Qd,forall_const,↓reduceIte,↓reduceDIte,↓Qe,Qf,Qg,Qh,Qi,Qj,Qk,Ql,Qm,Qn,Qo,Qp,Qq,Qr,Qs,implies_true,Qt,Qu,Qv,Qw,Qx,Qy,Qz,QA,QB,QC,QD,QE,QF,QG,QH,QI,QJ,QK,QL,QM,QN,QO,QP,QQ]
        first
        | exact ⟨j+1,h3,by simp only;omega,⟨[some 0,some 1],rfl,by simp,by simp [setsA,keepA,SWeak,AWeak,co],by simp [HWeak,BWeak,SWeak,AWeak]⟩⟩
        | exact ⟨by rfl,j+1,h3,by simp only;omega,⟨[some 0,some 1],rfl,by simp,by simp [setsA,keepA,SWeak,AWeak,co],by simp [HWeak,BWeak,SWeak,AWeak]⟩⟩
       ·rw [decide_eq_false e,if_neg Bool.false_ne_true,Nat.add_zero] at co
        have e3:(tr=m)=False:=eq_false e
        simp (config:={maxSteps:=1000000}) (disch:=((try simp only [awL]);omega)) only [QR,QS,QT,QU,QV,QW,QX,QY,QZ,Q0,Q1,Q2,lc,e3,↓awU,awV,awF,Qa,Qb,Qc,Qd,forall_const,↓reduceIte,↓reduceDIte,↓Qe,Qf,Qg,Qh,Qi,Qj,Qk,Ql,Qm,Qn,Qo,Qp,Qq,Qr,Qs,implies_true,Qt,Qu,Qv,Qw,Qx,Qy,Qz,QA,QB,QC,QD,QE,QF,QG,QH,QI,QJ,QK,QL,QM,QN,QO,QP,QQ]
        first
        | exact ⟨j+1,h3,by simp only;omega,⟨[some 0,some 1],rfl,by simp,by simp [setsA,keepA,SWeak,AWeak,co],by simp [HWeak,BWeak,SWeak,AWeak]⟩⟩
        | exact ⟨by rfl,j+1,h3,by simp only;omega,⟨[some 0,some 1],rfl,by simp,by simp [setsA,keepA,SWeak,AWeak,co],by simp [HWeak,BWeak,SWeak,AWeak]⟩⟩
      ·have mk2:isMk m (t,true)=false:=by unfold isMk;rfl
       rw [mk2,if_neg Bool.false_ne_true,Nat.add_zero] at co
       simp (config:={maxSteps:=1000000}) (disch:=((try simp only [awL]);omega)) only [QR,QS,QT,QU,QV,QW,QX,QY,QZ,Q0,Q1,Q2,lc,gc,↓awU,awV,awF,Qa,Qb,Qc,Qd,forall_const,↓reduceIte,↓reduceDIte,↓Qe,Qf,Qg,Qh,Qi,Qj,Qk,Ql,Qm,Qn,Qo,Qp,Qq,Qr,Qs,implies_true,Qt,Qu,Qv,Qw,Qx,Qy,Qz,QA,QB,QC,QD,QE,QF,QG,QH,QI,QJ,QK,QL,QM,QN,QO,QP,QQ]
       first
       | exact ⟨j+1,h3,by simp only;omega,⟨[some 0,some 1],rfl,by simp,by simp [setsA,keepA,SWeak,AWeak,co],by simp [HWeak,BWeak,SWeak,AWeak]⟩⟩
       | exact ⟨by rfl,j+1,h3,by simp only;omega,⟨[some 0,some 1],rfl,by simp,by simp [setsA,keepA,SWeak,AWeak,co],by simp [HWeak,BWeak,SWeak,AWeak]⟩⟩
     ·have e:j=l.length:=by omega
      subst e
      rw [List.take_length] at cm
      rcases Nat.eq_zero_or_pos (l.countP (isMk m)) with e | e
      ·rw [if_neg (by omega)] at st
       simp (config:={maxSteps:=1000000}) (disch:=((try simp only [awL]);omega)) only [QR,QS,QT,QU,QV,QW,QX,QY,QZ,Q0,Q1,Q2,e,lc,ol,kl,kn,sg,List.take_length,↓awU,awV,awF,Qa,Qb,Qc,Qd,forall_const,↓reduceIte,↓reduceDIte,↓Qe,Qf,Qg,Qh,Qi,Qj,Qk,Ql,Qm,Qn,Qo,Qp,Qq,Qr,Qs,implies_true,Qt,Qu,Qv,Qw,Qx,Qy,Qz,QA,QB,QC,QD,QE,QF,QG,QH,QI,QJ,QK,QL,QM,QN,QO,QP,QQ]
       first
       | exact ⟨n+1,h,by simp only;omega,⟨[some 0,some 1],rfl,by simp,by simp [setsA,keepA,SWeak,AWeak,st],by simp [HWeak,BWeak,SWeak,AWeak,st]⟩⟩
      ·rw [if_pos e] at st
       rw [← st] at op
       have sl:(nullP l (n+1)).length=(nullP l n).length+1:=by rw [st,List.length_append];rfl
       simp (config:={maxSteps:=1000000}) (disch:=((try simp only [awL]);omega)) only [QR,QS,QT,QU,QV,QW,QX,QY,QZ,Q0,Q1,Q2,lc,ol,kl,kn,sg,List.take_length,↓awU,awV,awF,Qa,Qb,Qc,Qd,forall_const,↓reduceIte,↓reduceDIte,↓Qe,Qf,Qg,Qh,Qi,Qj,Qk,Ql,Qm,Qn,Qo,Qp,Qq,Qr,Qs,implies_true,Qt,Qu,Qv,Qw,Qx,Qy,Qz,QA,QB,QC,QD,QE,QF,QG,QH,QI,QJ,QK,QL,QM,QN,QO,QP,QQ]
       first
       | exact ⟨n+1,h,by simp only;omega,⟨[some 0,some 3],rfl,by simp,by simp [setsA,keepA,SWeak,AWeak,sl],by simp [HWeak,BWeak,SWeak,AWeak,cut,← op]⟩⟩
       | exact ⟨by rfl,n+1,h,by simp only;omega,⟨[some 0,some 3],rfl,by simp,by simp [setsA,keepA,SWeak,AWeak,sl],by simp [HWeak,BWeak,SWeak,AWeak,cut,← op]⟩⟩
   ·have e:n=14:=by omega
    subst e
    rw [nullP_all] at ol pl ⊢
    simp (config:={maxSteps:=1000000}) (disch:=((try simp only [awL]);omega)) only [QR,QS,QT,QU,QV,QW,QX,QY,QZ,Q0,Q1,Q2,ol,kl,kn,↓awU,awV,awF,Qa,Qb,Qc,Qd,forall_const,↓reduceIte,↓reduceDIte,↓Qe,Qf,Qg,Qh,Qi,Qj,Qk,Ql,Qm,Qn,Qo,Qp,Qq,Qr,Qs,implies_true,Qt,Qu,Qv,Qw,Qx,Qy,Qz,QA,QB,QC,QD,QE,QF,QG,QH,QI,QJ,QK,QL,QM,QN,QO,QP,QQ]
    rw [cut,List.drop_zero,List.take_of_length_le (by omega)]
end Go.Proofs.YtkgbbdoeodmkgaaGreatDoor
namespace Go.Proofs.YtkgbbdoeodmkgaaGreatDoor
open Go Go.Proofs Go.Abs
variable {G:Globals}
abbrev OZ:=List UInt8 × Int × Int
abbrev OZC (o:OZ):List D:=[S o.1,.int .i64 o.2.1,.int .i64 o.2.2]
def ozC (l:List OZ):List D:=l.flatMap OZC
def toZ (l:List Opt):List OZ:=l.map fun o=>(o.txt,(o.fr:Int),(o.ag:Int))
def noZ:OZ:=([],0,0)
theorem toZ_len (l:List Opt):(toZ l).length=l.length:=by simp [toZ]
theorem ozC_to:∀ l:List Opt,ozC (toZ l)=optC l
 | []=>rfl
 | o::l=>by
   have ih:=ozC_to l
   simp only [ozC,toZ,List.map_cons,List.flatMap_cons,optC] at ih ⊢
   rw [ih]
theorem ozC_length:∀ l:List OZ,(ozC l).length=3*l.length
 | []=>rfl
 | o::l=>by
   have ih:=ozC_length l
   simp only [ozC,List.flatMap_cons,List.length_append,List.length_cons,List.length_nil] at ih ⊢
   omega
theorem ozC_get:∀ {l:List OZ} {k:Nat},k<l.length→((ozC l).drop (k*3)).take 3=OZC (l.getD k noZ)
 | [],k,h=>absurd h (Nat.not_lt_zero _)
 | o::l,0,_=>by simp [ozC]
 | o::l,k+1,h=>by
   have ih:=ozC_get (l:=l) (k:=k) (by simpa using h)
   have e2:ozC (o::l)=S o.1::.int .i64 o.2.1::.int .i64 o.2.2::ozC l:=rfl
   rw [show (k+1)*3=k*3+3 by omega,e2]
   simpa using ih
def takeZ (l:List OZ):Row:=(l.filter fun o=>decide (o.2.2=0)).map (·.1)
theorem takeZ_step {l:List OZ} {i:Nat} (h:i<l.length):takeZ (l.take (i+1))=if (l.getD i noZ).2.2=0 then takeZ (l.take i)++[(l.getD i noZ).1] else takeZ (l.take i):=by
 unfold takeZ
 rw [List.take_add_one,getD_some (d:=noZ) h]
 simp only [Option.toList_some,List.filter_append,List.map_append]
 by_cases e:(l.getD i noZ).2.2=0
 ·rw [if_pos e]
  have:([l.getD i noZ].filter fun o=>decide (o.2.2=0))=[l.getD i noZ]:=by rw [List.filter_cons,if_pos (decide_eq_true e)];rfl
  rw [this];rfl
 ·rw [if_neg e]
  have:([l.getD i noZ].filter fun o=>decide (o.2.2=0))=[]:=by rw [List.filter_cons,if_neg (by rw [decide_eq_false e];exact Bool.false_ne_true)];rfl
  rw [this];simp
theorem takeZ_len (l:List OZ):(takeZ l).length≤l.length:=by unfold takeZ;rw [List.length_map];exact List.length_filter_le _ _
theorem join_mono (sep:List UInt8):∀ (b a:Row),(Lib.join a sep).length≤(Lib.join (a++b) sep).length
 | [],a=>by rw [List.append_nil];exact Nat.le_refl _
 | x::b,a=>by
   have h1:=join_mono sep b (a++[x])
   have h2:=join_snoc sep x a
   rw [List.append_assoc] at h1
   refine Nat.le_trans ?_ h1
   rw [h2]
   split
   ·rename_i e;rw [e];exact Nat.zero_le _
   ·rw [List.length_append,List.length_append];omega
theorem join_takeZ {l:List OZ} {m:Nat} (h:(Lib.join (takeZ l) [124]).length≤m) (i:Nat):(Lib.join (takeZ (l.take i)) [124]).length≤m:=by
 refine Nat.le_trans ?_ h
 have e:takeZ l=takeZ (l.take i)++takeZ (l.drop i):=by unfold takeZ;rw [← List.map_append,← List.filter_append,List.take_append_drop]
 rw [e]
 exact join_mono _ _ _
theorem joinE_spec (f:Bool) (sep:List UInt8):Ctr Tryz.prog G 32 [.d (.sl 0 f []),.d (S sep)] [] (.d (S [])) []:=by
 refine Ctr.pure (M:=M0) hmix Tryz.func32 rfl go32 ?_
 simp (config:={maxSteps:=1000000}) (disch:=((try simp only [awL]);omega)) only [QR,QS,QT,QU,QV,QW,QX,QY,QZ,Q0,Q1,Q2,Tryz.f32,↓awU,awV,awF,Qa,Qb,Qc,Qd,forall_const,↓reduceIte,↓reduceDIte,↓Qe,Qf,Qg,Qh,Qi,Qj,Qk,Ql,Qm,Qn,Qo,Qp,Qq,Qr,Qs,implies_true,Qt,Qu,Qv,Qw,Qx,Qy,Qz,QA,QB,QC,QD,QE,QF,QG,QH,QI,QJ,QK,QL,QM,QN,QO,QP,QQ]
 first | done | rfl
theorem joinA_spec (l:Row) (full:Bool) (sep:List UInt8) (hl:l.length≤1000000) (hlen:(Lib.join l sep).length≤1000000000) :
  Ctr Tryz.prog G 32 [.d (Ss l full),.d (S sep)] [] (.d (S (Lib.join l sep))) []:=by
 rcases l with _ | ⟨x,l⟩
 ·exact joinE_spec full sep
 ·exact join_spec (x::l) full sep (by simp) hl hlen
set_option maxHeartbeats 4000000 in
set_option maxRecDepth 100000 in
theorem ntake_spec (l:List OZ) (full:Bool) (hl:l.length≤1000000) (hj:(Lib.join (takeZ l) [124]).length≤1000000000) :
  Ctr Tryz.prog G 9 [.d (.sl l.length full (ozC l))] [] (.d (S (Lib.join (takeZ l) [124]))) []:=by
 refine Ctr.pure (M:=M0) hmix Tryz.func9 rfl go9 ?_
 have ol:=ozC_length l
 simp (config:={maxSteps:=1000000}) (disch:=((try simp only [awL]);omega)) only [QR,QS,QT,QU,QV,QW,QX,QY,QZ,Q0,Q1,Q2,ol,Tryz.f9,↓awU,awV,awF,Qa,Qb,Qc,Qd,forall_const,↓reduceIte,↓reduceDIte,↓Qe,Qf,Qg,Qh,Qi,Qj,Qk,Ql,Qm,Qn,Qo,Qp,Qq,Qr,Qs,implies_true,Qt,Qu,Qv,Qw,Qx,Qy,Qz,QA,QB,QC,QD,QE,QF,QG,QH,QI,QJ,QK,QL,QM,QN,QO,QP,QQ]
 refine LoopC.fr 192 (α:=Nat) (fun i=>l.length - i) (fun i=>[(3,.lsl 0 1 0 (takeZ (l.take i)).length),(8,.d (.int .i64 (i:Nat)))]) (fun i=>[.row false (strs (takeZ (l.take i)))]) (fun i=>i≤l.length) 0 (Nat.zero_le _) ?_ ?_
 ·exact ⟨[none],rfl,by simp,by simp [setsA,keepA,SWeak,AWeak,takeZ],by simp [HWeak,BWeak,SWeak,AWeak,takeZ,strs]⟩
 ·intro i hi
  have tl:=takeZ_len (l.take i)
  rw [List.length_take] at tl
  have sl:=@strs_length (takeZ (l.take i))
  simp only [awK,Nat.reduceMod,Nat.reduceDiv,reduceIte]
  rcases Nat.lt_or_ge i l.length with h | h
  ·have go:=ozC_get h
   have st:=takeZ_step h
   generalize l.getD i noZ=o at *
   obtain ⟨t,a,b⟩:=o
   simp only at st
   by_cases e:b=0
   ·rw [if_pos e] at st
    have sp:=@strs_push (takeZ (l.take i)) t
    rw [← st] at sp
    have sn:(takeZ (l.take (i+1))).length=(takeZ (l.take i)).length+1:=by rw [st,List.length_append];rfl
    simp (config:={maxSteps:=1000000}) (disch:=((try simp only [awL]);omega)) only [QR,QS,QT,QU,QV,QW,QX,QY,QZ,Q0,Q1,Q2,ol,go,sl,e,sp,↓awU,awV,awF,Qa,Qb,Qc,Qd,forall_const,↓reduceIte,↓reduceDIte,↓Qe,Qf,Qg,Qh,Qi,Qj,Qk,Ql,Qm,Qn,Qo,Qp,Qq,Qr,Qs,implies_true,Qt,Qu,Qv,Qw,Qx,Qy,Qz,QA,QB,QC,QD,QE,QF,QG,QH,QI,QJ,QK,QL,QM,QN,QO,QP,QQ]
    first
    | exact ⟨i+1,h,by simp only;omega,⟨[some 3],rfl,by simp,by simp [setsA,keepA,SWeak,AWeak,sn],by simp [HWeak,BWeak,SWeak,AWeak]⟩⟩
   ·rw [if_neg e] at st
    simp (config:={maxSteps:=1000000}) (disch:=((try simp only [awL]);omega)) only [QR,QS,QT,QU,QV,QW,QX,QY,QZ,Q0,Q1,Q2,ol,go,sl,e,↓awU,awV,awF,Qa,Qb,Qc,Qd,forall_const,↓reduceIte,↓reduceDIte,↓Qe,Qf,Qg,Qh,Qi,Qj,Qk,Ql,Qm,Qn,Qo,Qp,Qq,Qr,Qs,implies_true,Qt,Qu,Qv,Qw,Qx,Qy,Qz,QA,QB,QC,QD,QE,QF,QG,QH,QI,QJ,QK,QL,QM,QN,QO,QP,QQ]
    first
    | exact ⟨i+1,h,by simp only;omega,⟨[some 0],rfl,by simp,by simp [setsA,keepA,SWeak,AWeak,st],by simp [HWeak,BWeak,SWeak,AWeak,st]⟩⟩
  ·have e:i=l.length:=by omega
   subst e
   rw [List.take_length] at tl sl
   have cu:cut (strs (takeZ l)) 0 (takeZ l).length=strs (takeZ l):=cut_all sl.symm
   simp (config:={maxSteps:=1000000}) (disch:=((try simp only [awL]);omega)) only [QR,QS,QT,QU,QV,QW,QX,QY,QZ,Q0,Q1,Q2,ol,List.take_length,↓awU,awV,awF,Qa,Qb,Qc,Qd,forall_const,↓reduceIte,↓reduceDIte,↓Qe,Qf,Qg,Qh,Qi,Qj,Qk,Ql,Qm,Qn,Qo,Qp,Qq,Qr,Qs,implies_true,Qt,Qu,Qv,Qw,Qx,Qy,Qz,QA,QB,QC,QD,QE,QF,QG,QH,QI,QJ,QK,QL,QM,QN,QO,QP,QQ]
   refine CallC.frozenE (joinA_spec (takeZ l) false [124] (by omega) hj) (by rw [cu]) ?_
   simp (config:={maxSteps:=1000000}) (disch:=((try simp only [awL]);omega)) only [QR,QS,QT,QU,QV,QW,QX,QY,QZ,Q0,Q1,Q2,↓awU,awV,awF,Qa,Qb,Qc,Qd,forall_const,↓reduceIte,↓reduceDIte,↓Qe,Qf,Qg,Qh,Qi,Qj,Qk,Ql,Qm,Qn,Qo,Qp,Qq,Qr,Qs,implies_true,Qt,Qu,Qv,Qw,Qx,Qy,Qz,QA,QB,QC,QD,QE,QF,QG,QH,QI,QJ,QK,QL,QM,QN,QO,QP,QQ]
   first | done | rfl
set_option maxHeartbeats 4000000 in
set_option maxRecDepth 100000 in
theorem rntake_spec (l:List OZ) (full:Bool) (hl:l.length≤1000000) (hj:(Lib.join (takeZ l) [124]).length≤1000000000) :
  Ctr Tryz.prog G 19 [.d (.sl l.length full (ozC l))] [] (.d (S (Lib.join (takeZ l) [124]))) []:=by
 refine Ctr.pure (M:=M0) hmix Tryz.func19 rfl go19 ?_
 have ol:=ozC_length l
 simp (config:={maxSteps:=1000000}) (disch:=((try simp only [awL]);omega)) only [QR,QS,QT,QU,QV,QW,QX,QY,QZ,Q0,Q1,Q2,ol,Tryz.f19,↓awU,awV,awF,Qa,Qb,Qc,Qd,forall_const,↓reduceIte,↓reduceDIte,↓Qe,Qf,Qg,Qh,Qi,Qj,Qk,Ql,Qm,Qn,Qo,Qp,Qq,Qr,Qs,implies_true,Qt,Qu,Qv,Qw,Qx,Qy,Qz,QA,QB,QC,QD,QE,QF,QG,QH,QI,QJ,QK,QL,QM,QN,QO,QP,QQ]
 refine LoopC.fr 384 (α:=Nat) (fun i=>l.length - i) (fun i=>[(3,.d (S (Lib.join (takeZ (l.take i)) [124]))),(4,.d (.bool (!decide (takeZ (l.take i)=[])))),(9,.d (.int .i64 (i:Nat)))]) (fun _=>[]) (fun i=>i≤l.length) 0 (Nat.zero_le _) ?_ ?_
 ·exact ⟨[],rfl,by simp,by simp [setsA,keepA,SWeak,AWeak,takeZ,Lib.join],by simp [HWeak,BWeak,SWeak,AWeak]⟩
 ·intro i hi
  have jm:=join_takeZ hj i
  have jm2:=join_takeZ hj (i+1)
  simp only [awK,Nat.reduceMod,Nat.reduceDiv,reduceIte]
  rcases Nat.lt_or_ge i l.length with h | h
  ·have go:=ozC_get h
   have st:=takeZ_step h
   generalize l.getD i noZ=o at *
   obtain ⟨t,a,b⟩:=o
   simp only at st
   by_cases e:b=0
   ·rw [if_pos e] at st
    have js:=join_snoc [124] t (takeZ (l.take i))
    rw [← st] at js
    have ne:(takeZ (l.take (i+1))=[])=False:=by rw [st];simp
    by_cases e2:takeZ (l.take i)=[]
    ·rw [if_pos e2] at js
     have j0:Lib.join (takeZ (l.take i)) [124]=[]:=by rw [e2];rfl
     have e3:(takeZ (l.take i)=[])=True:=eq_true e2
     rw [js] at jm2
     simp (config:={maxSteps:=1000000}) (disch:=((try simp only [awL]);omega)) only [QR,QS,QT,QU,QV,QW,QX,QY,QZ,Q0,Q1,Q2,ol,go,e,e3,j0,↓awU,awV,awF,Qa,Qb,Qc,Qd,forall_const,↓reduceIte,↓reduceDIte,↓Qe,Qf,Qg,Qh,Qi,Qj,Qk,Ql,Qm,Qn,Qo,Qp,Qq,Qr,Qs,implies_true,Qt,Qu,Qv,Qw,Qx,Qy,Qz,QA,QB,QC,QD,QE,QF,QG,QH,QI,QJ,QK,QL,QM,QN,QO,QP,QQ]
     first
     | exact ⟨i+1,h,by simp only;omega,⟨[],rfl,by simp,by simp [setsA,keepA,SWeak,AWeak,js,ne],by simp [HWeak,BWeak,SWeak,AWeak]⟩⟩
    ·rw [if_neg e2] at js
     have e3:(takeZ (l.take i)=[])=False:=eq_false e2
     rw [js,List.length_append,List.length_append,List.length_singleton] at jm2
     simp (config:={maxSteps:=1000000}) (disch:=((try simp only [awL]);omega)) only [QR,QS,QT,QU,QV,QW,QX,QY,QZ,Q0,Q1,Q2,ol,go,e,e3,↓awU,awV,awF,Qa,Qb,Qc,Qd,forall_const,↓reduceIte,↓reduceDIte,↓Qe,Qf,Qg,Qh,Qi,Qj,Qk,Ql,Qm,Qn,Qo,Qp,Qq,Qr,Qs,implies_true,Qt,Qu,Qv,Qw,Qx,Qy,Qz,QA,QB,QC,QD,QE,QF,QG,QH,QI,QJ,QK,QL,QM,QN,QO,QP,QQ]
     first
     | exact ⟨i+1,h,by simp only;omega,⟨[],rfl,by simp,by simp [setsA,keepA,SWeak,AWeak,js,ne],by simp [HWeak,BWeak,SWeak,AWeak]⟩⟩
   ·rw [if_neg e] at st
    simp (config:={maxSteps:=1000000}) (disch:=((try simp only [awL]);omega)) only [QR,QS,QT,QU,QV,QW,QX,QY,QZ,Q0,Q1,Q2,ol,go,e,↓awU,awV,awF,Qa,Qb,Qc,Qd,forall_const,↓reduceIte,↓reduceDIte,↓Qe,Qf,Qg,Qh,Qi,Qj,Qk,Ql,Qm,Qn,Qo,Qp,Qq,Qr,Qs,implies_true,Qt,Qu,Qv,Qw,Qx,Qy,Qz,QA,QB,QC,QD,QE,QF,QG,QH,QI,QJ,QK,QL,QM,QN,QO,QP,QQ]
    first
    | exact ⟨i+1,h,by simp only;omega,⟨[],rfl,by simp,by simp [setsA,keepA,SWeak,AWeak,st],by simp [HWeak,BWeak,SWeak,AWeak]⟩⟩
  ·have e:i=l.length:=by omega
   subst e
   simp (config:={maxSteps:=1000000}) (disch:=((try simp only [awL]);omega)) only [QR,QS,QT,QU,QV,QW,QX,QY,QZ,Q0,Q1,Q2,ol,List.take_length,↓awU,awV,awF,Qa,Qb,Qc,Qd,forall_const,↓reduceIte,↓reduceDIte,↓Qe,Qf,Qg,Qh,Qi,Qj,Qk,Ql,Qm,Qn,Qo,Qp,Qq,Qr,Qs,implies_true,Qt,Qu,Qv,Qw,Qx,Qy,Qz,QA,QB,QC,QD,QE,QF,QG,QH,QI,QJ,QK,QL,QM,QN,QO,QP,QQ]
   first | done | rfl
end Go.Proofs.YtkgbbdoeodmkgaaGreatDoor
namespace Go.Proofs.YtkgbbdoeodmkgaaGreatDoor
open Go Go.Proofs Go.Abs Go.RowKit Go.ChangeShapes Go.WideShapes Go.ChangeAt Go.Joins Go.Deep
theorem flat_at {α:Type} {k:Nat} {toD:α→List D} (hk:∀ a,(toD a).length=k):∀ {l:List α} {j:Nat} {x:D},(l.flatMap toD)[j]? = some x→∃ i q a,j=i*k+q∧i<l.length∧l[i]? = some a∧(toD a)[q]? = some x
 | [],j,x,h=>by simp at h
 | a::l,j,x,h=>by
   rw [List.flatMap_cons] at h
   rcases Nat.lt_or_ge j k with h1 | h1
   ·rw [List.getElem?_append_left (by rw [hk];exact h1)] at h
    exact ⟨0,j,a,by simp,by simp,rfl,h⟩
   ·rw [List.getElem?_append_right (by rw [hk];exact h1),hk] at h
    obtain ⟨i,q,b,e1,e2,e3,e4⟩:=flat_at hk h
    refine ⟨i+1,q,b,?_,by simpa using e2,by simpa using e3,e4⟩
    rw [Nat.add_mul,Nat.one_mul];omega
theorem open_recs {α:Type} {H:Type} {enc:TypeId × Value→H} {P:Program} {W:World} {base:Nat} {held:Bool} {t e:TypeId} {fuel:Nat} {v:Value} {x:DataW H × List MemPlace} (k:Nat) (toD:α→List D) (d0:α) (Q:α→DataW H→Prop)
  (hk1:1≤k) (hk:∀ a,(toD a).length=k) (hone:∀ a,∀ y∈toD a,y.one=true) (hce:P.cellsOf e=k)
  (el:∀ n cs' d p,DataW.trod enc P W base (fun _=>true) held n e cs'=some (d,p)→∃ a,Q a d∧∀ (j:Nat) y,(toD a)[j]? = some y→∃ u,cs'[j]? = some u∧RD (heldW W) u y)
  (ht:P.underlying t=some (.slice e)) (hv:∃ a n c,v=.slice a n c) (h:DataW.trod enc P W base (fun _=>true) held fuel t v.cells.toList=some x) :
  ∃ l:List α,R (heldW W) (fun _=>none) v (.d (.sl l.length false (l.flatMap toD)))∧l.length≤maxLen∧∀ a∈l,∃ d,Q a d∧Rows.uptoBulk d≤Rows.uptoBulk x.1:=by
 obtain ⟨a,n,c,rfl⟩:=hv
 rcases open_slice ht h with ⟨hcs,_⟩ | ⟨ad,len,cap,m,nn,D',Pl,hcs,hb,hl,hm,hmm,hxx,hx⟩
 ·simp [Value.cells] at hcs
  obtain ⟨rfl,rfl,rfl⟩:=hcs
  exact ⟨[],.d _ _ (.sl0 _ _),by simp,by simp⟩
 ·simp [Value.cells] at hcs
  obtain ⟨rfl,rfl,rfl⟩:=hcs
  subst hxx
  simp only [if_true] at hmm
  have each:∀ i,i<n→∃ a:α,(Q a (D' i))∧∀ (j:Nat) y,(toD a)[j]? = some y→∃ u,W.cell? (ad.add (i*k+j))=some u∧RD (heldW W) u y:=by
   intro i hi
   obtain ⟨cs',h1,h2⟩:=hx i (by omega)
   obtain ⟨a,q1,q2⟩:=el nn cs' (D' i) (Pl i) h2
   refine ⟨a,q1,fun j y hy=>?_⟩
   obtain ⟨u,u1,u2⟩:=q2 j y hy
   have hj:j<k:=by have:=(List.getElem?_eq_some_iff.1 hy).1;rw [hk] at this;exact this
   rw [hce] at h1
   have:=(World.cells?_some h1).2.2 j hj
   rw [Addr.add_add,u1] at this
   exact ⟨u,this,u2⟩
  have:Inhabited α:=⟨d0⟩
  obtain ⟨F,hF⟩:=choose_lt each
  have gl:((List.range n).map F).length=n:=by simp
  refine ⟨(List.range n).map F,?_,by rw [gl];omega,fun r hr=>?_⟩
  ·rw [gl]
   rcases Nat.eq_zero_or_pos c with h1 | h1
   ·obtain rfl:n=0:=by omega
    rw [h1]
    exact .d _ _ (.sl0 _ _)
   ·obtain ⟨b,off,spot⟩:=ad
    have hs:spot=none:=by
     obtain ⟨cs',g1,g2⟩:=hx 0 (by omega)
     rw [hce] at g1
     obtain ⟨_,g3,g4⟩:=World.cells?_some g1
     have g5:=g4 0 (by omega)
     rw [List.getElem?_eq_getElem (by omega)] at g5
     simpa [Addr.add] using World.cell?_spot g5
    subst hs
    have ade:∀ j,Addr.add ⟨b,off,none⟩ j=⟨b,off+j,none⟩:=fun j=>by unfold Addr.add;split<;>simp_all
    have val:∀ (j:Nat) y,(((List.range n).map F).flatMap toD)[j]? = some y→∃ u,W.cell? ⟨b,off+j,none⟩=some u∧RD (heldW W) u y:=by
     intro j y hy
     obtain ⟨i,q,a,e1,e2,e3,e4⟩:=flat_at hk hy
     rw [gl] at e2
     rw [List.getElem?_map,List.getElem?_range e2] at e3
     cases e3
     obtain ⟨u,u1,u2⟩:=(hF i e2).2 q y e4
     rw [ade] at u1
     exact ⟨u,by rw [e1];exact u1,u2⟩
    refine .d _ _ (.sl b off n c false _ (fun j=>(W.cell? ⟨b,off+j,none⟩).getD undef) hl (fun h=>by cases h) (fun j y hy=>?_) (fun j y hy=>?_) (fun j y hy=>?_))
    ·obtain ⟨u,u1,_⟩:=val j y hy
     show W.cell? ⟨b,off+j,none⟩=some ((W.cell? ⟨b,off+j,none⟩).getD undef)
     rw [u1];rfl
    ·obtain ⟨u,u1,u2⟩:=val j y hy
     rw [u1];exact u2
    ·obtain ⟨i,q,a,_,_,_,e4⟩:=flat_at hk hy
     exact hone a y (List.mem_of_getElem? e4)
  ·obtain ⟨i,hi,rfl⟩:=List.mem_map.1 hr
   have hi:=List.mem_range.1 hi
   refine ⟨D' i,(hF i hi).1,?_⟩
   have:=bulk_part (d:=D' i) (l:=(List.range n).map D') (List.mem_map.2 ⟨i,List.mem_range.2 hi,rfl⟩)
   simp only [Rows.uptoBulk]
   omega
theorem cBool1:Tryz.prog.cellsOf 4=1:=by kernel_rfl
theorem cStr1':Tryz.prog.cellsOf 9=1:=by kernel_rfl
theorem open_cellsB {H:Type} {enc:TypeId × Value→H} {W:World} {base:Nat} {held:Bool} {fuel:Nat} {v:Value} {x:DataW H × List MemPlace}
  (hv:∃ a n c,v=.slice a n c) (h:DataW.trod enc Tryz.prog W base (fun _=>true) held fuel 26 v.cells.toList=some x) (hB:Rows.uptoBulk x.1≤1048576) :
  ∃ l:List Cel,R (heldW W) (fun _=>none) v (.d (CelS l false))∧l.length≤maxLen∧∀ a∈l,a.1.length≤1048576:=by
 obtain ⟨l,h1,h2,h3⟩:=open_recs (α:=Cel) 2 CelC noC (fun a d=>a.1.length+1≤Rows.uptoBulk d) (by decide) (fun _=>rfl) (fun a y hy=>by
   simp only [List.mem_cons,List.not_mem_nil,or_false] at hy
   rcases hy with rfl | rfl<;>rfl) (by kernel_rfl) (fun n cs' d p ht=>by
  obtain ⟨xs,m,rfl,hx,hl,hn,he⟩:=DataW.trod_struct Tryz.underlying39 ht
  have e0:=he 0 _ rfl
  have e1:=he 1 _ rfl
  have hn2:xs.length=2:=hn
  have x0:xs[0]? = some xs[0]:=List.getElem?_eq_getElem (by omega)
  have x1:xs[1]? = some xs[1]:=List.getElem?_eq_getElem (by omega)
  rw [x0] at e0
  rw [x1] at e1
  obtain ⟨b,c0,y0⟩:=DataW.trod_bool Tryz.underlying4 e0
  obtain ⟨s,c1,y1,_⟩:=DataW.trod_string Tryz.underlying9 e1
  refine ⟨(s.data.toList,b),?_,fun j y hy=>?_⟩
  ·have hd:d=.agg (xs.map (·.1)):=by injection hx
   have hm:(DataW.lit (H:=H) (.string s.data.toList))∈xs.map (·.1):=List.mem_map.2 ⟨xs[1],List.getElem_mem _,by rw [y1]⟩
   have:=bulk_part hm
   rw [hd]
   simp only [Rows.uptoBulk] at this ⊢
   omega
  ·rcases j with _ | _ | j
   ·cases hy
    refine ⟨.bool b,?_,.bool _⟩
    have:=congrArg (·[0]?) c0
    simpa [List.getElem?_take,List.getElem?_drop,cBool1] using this
   ·cases hy
    refine ⟨.string s,?_,?_⟩
    ·have:=congrArg (·[0]?) c1
     simpa [List.getElem?_take,List.getElem?_drop,cStr1'] using this
    ·have:S s.data.toList=.str s:=by show D.str (bs s.data.toList)=.str s;rw [← bs_of s]
     rw [this];exact .str _
   ·cases hy) Tryz.underlying26 hv h
 exact ⟨l,h1,h2,fun a ha=>by obtain ⟨d,q1,q2⟩:=h3 a ha;omega⟩
theorem open_optsB {H:Type} {enc:TypeId × Value→H} {W:World} {base:Nat} {held:Bool} {fuel:Nat} {v:Value} {x:DataW H × List MemPlace}
  (hv:∃ a n c,v=.slice a n c) (h:DataW.trod enc Tryz.prog W base (fun _=>true) held fuel 34 v.cells.toList=some x) (hB:Rows.uptoBulk x.1≤1048576) :
  ∃ l:List OZ,R (heldW W) (fun _=>none) v (.d (.sl l.length false (ozC l)))∧l.length≤maxLen∧∀ a∈l,a.1.length≤1048576:=by
 obtain ⟨l,h1,h2,h3⟩:=open_recs (α:=OZ) 3 OZC noZ (fun a d=>a.1.length+1≤Rows.uptoBulk d) (by decide) (fun _=>rfl) (fun a y hy=>by
   simp only [List.mem_cons,List.not_mem_nil,or_false] at hy
   rcases hy with rfl | rfl | rfl<;>rfl) (by kernel_rfl) (fun n cs' d p ht=>by
  obtain ⟨xs,m,rfl,hx,hl,hn,he⟩:=DataW.trod_struct Tryz.underlying60 ht
  have e0:=he 0 _ rfl
  have e1:=he 1 _ rfl
  have e2:=he 2 _ rfl
  have hn2:xs.length=3:=hn
  have x0:xs[0]? = some xs[0]:=List.getElem?_eq_getElem (by omega)
  have x1:xs[1]? = some xs[1]:=List.getElem?_eq_getElem (by omega)
  have x2:xs[2]? = some xs[2]:=List.getElem?_eq_getElem (by omega)
  rw [x0] at e0
  rw [x1] at e1
  rw [x2] at e2
  obtain ⟨s,c0,y0,_⟩:=DataW.trod_string Tryz.underlying9 e0
  obtain ⟨a,c1,y1,_⟩:=DataW.trod_int Tryz.underlying3 e1
  obtain ⟨b,c2,y2,_⟩:=DataW.trod_int Tryz.underlying3 e2
  have cI:Tryz.prog.cellsOf 3=1:=by kernel_rfl
  refine ⟨(s.data.toList,a,b),?_,fun j y hy=>?_⟩
  ·have hd:d=.agg (xs.map (·.1)):=by injection hx
   have hm:(DataW.lit (H:=H) (.string s.data.toList))∈xs.map (·.1):=List.mem_map.2 ⟨xs[0],List.getElem_mem _,by rw [y0]⟩
   have:=bulk_part hm
   rw [hd]
   simp only [Rows.uptoBulk] at this ⊢
   omega
  ·rcases j with _ | _ | _ | j
   ·cases hy
    refine ⟨.string s,?_,?_⟩
    ·have:=congrArg (·[0]?) c0
     simpa [List.getElem?_take,List.getElem?_drop,cStr1'] using this
    ·have:S s.data.toList=.str s:=by show D.str (bs s.data.toList)=.str s;rw [← bs_of s]
     rw [this];exact .str _
   ·cases hy
    refine ⟨.int .i64 a,?_,.int _ _⟩
    have:=congrArg (·[0]?) c1
    simpa [List.getElem?_take,List.getElem?_drop,cI] using this
   ·cases hy
    refine ⟨.int .i64 b,?_,.int _ _⟩
    have:=congrArg (·[0]?) c2
    simpa [List.getElem?_take,List.getElem?_drop,cI] using this
   ·cases hy) Tryz.underlying34 hv h
 exact ⟨l,h1,h2,fun a ha=>by obtain ⟨d,q1,q2⟩:=h3 a ha;omega⟩
end Go.Proofs.YtkgbbdoeodmkgaaGreatDoor
namespace Go.Proofs.YtkgbbdoeodmkgaaGreatDoor.Dst
def c1 (a b:Int):Nat:=if a=b then 0 else 1
def lev:List Int→List Int→Nat
 | [],y=>y.length
 | x,[]=>x.length
 | a::x,b::y=>min (lev x y+c1 a b) (min (lev x (b::y)+1) (lev (a::x) y+1))
termination_by x y=>x.length+y.length
theorem lev_nil_left (y:List Int):lev [] y=y.length:=by unfold lev;rfl
theorem lev_nil_right (x:List Int):lev x []=x.length:=by cases x<;>(unfold lev;rfl)
theorem lev_cons (a b:Int) (x y:List Int):lev (a::x) (b::y)=min (lev x y+c1 a b) (min (lev x (b::y)+1) (lev (a::x) y+1)):=by
 conv=>lhs;unfold lev
inductive Ed:List Int→List Int→Nat→Prop
 | nil:Ed [] [] 0
 | sub {x y n} (a b):Ed x y n→Ed (a::x) (b::y) (n+c1 a b)
 | del {x y n} (a):Ed x y n→Ed (a::x) y (n+1)
 | ins {x y n} (b):Ed x y n→Ed x (b::y) (n+1)
theorem Ed.left:∀ x:List Int,Ed x [] x.length
 | []=>.nil
 | a::x=>.del a (Ed.left x)
theorem Ed.right:∀ x:List Int,Ed [] x x.length
 | []=>.nil
 | a::x=>.ins a (Ed.right x)
theorem lev_le_left {x y:List Int} (a:Int):lev (a::x) y≤lev x y+1:=by
 cases y with
 | nil=>rw [lev_nil_right,lev_nil_right];simp
 | cons b y=>rw [lev_cons];omega
theorem lev_le_right {x y:List Int} (b:Int):lev x (b::y)≤lev x y+1:=by
 cases x with
 | nil=>rw [lev_nil_left,lev_nil_left];simp
 | cons a x=>rw [lev_cons];omega
theorem lev_le_sub {x y:List Int} (a b:Int):lev (a::x) (b::y)≤lev x y+c1 a b:=by rw [lev_cons];omega
theorem Ed.le {x y:List Int} {n:Nat} (h:Ed x y n):lev x y≤n:=by
 induction h with
 | nil=>rw [lev_nil_left];simp
 | sub a b _ ih=>exact Nat.le_trans (lev_le_sub a b) (by omega)
 | del a _ ih=>exact Nat.le_trans (lev_le_left a) (by omega)
 | ins b _ ih=>exact Nat.le_trans (lev_le_right b) (by omega)
theorem Ed.lev:∀ x y:List Int,Ed x y (lev x y)
 | [],y=>by rw [lev_nil_left];exact .right y
 | a::x,[]=>by rw [lev_nil_right];exact .left _
 | a::x,b::y=>by
   rw [lev_cons]
   have h1:=Ed.lev x y
   have h2:=Ed.lev x (b::y)
   have h3:=Ed.lev (a::x) y
   rcases Nat.le_total (Go.Proofs.YtkgbbdoeodmkgaaGreatDoor.Dst.lev x y+c1 a b) (min (Go.Proofs.YtkgbbdoeodmkgaaGreatDoor.Dst.lev x (b::y)+1) (Go.Proofs.YtkgbbdoeodmkgaaGreatDoor.Dst.lev (a::x) y+1)) with h | h
   ·rw [Nat.min_eq_left h];exact .sub a b h1
   ·rw [Nat.min_eq_right h]
    rcases Nat.le_total (Go.Proofs.YtkgbbdoeodmkgaaGreatDoor.Dst.lev x (b::y)+1) (Go.Proofs.YtkgbbdoeodmkgaaGreatDoor.Dst.lev (a::x) y+1) with h | h
    ·rw [Nat.min_eq_left h];exact .del a h2
    ·rw [Nat.min_eq_right h];exact .ins b h3
termination_by x y=>x.length+y.length
theorem Ed.symm {x y:List Int} {n:Nat} (h:Ed x y n):Ed y x n:=by
 induction h with
 | nil=>exact .nil
 | sub a b _ ih =>
  have e:c1 a b=c1 b a:=by unfold c1;split<;>split<;>omega
  rw [e];exact .sub b a ih
 | del a _ ih=>exact .ins a ih
 | ins b _ ih=>exact .del b ih
theorem Ed.refl:∀ x:List Int,Ed x x 0
 | []=>.nil
 | a::x=>by have:=Ed.sub a a (Ed.refl x);simpa [c1] using this
theorem Ed.zero {x y:List Int} {n:Nat} (h:Ed x y n):n=0→x=y:=by
 induction h with
 | nil=>intro _;rfl
 | sub a b _ ih =>
  intro e
  have:a=b:=by unfold c1 at e;split at e<;>first | assumption | omega
  rw [ih (by omega),this]
 | del a _ ih=>intro e;omega
 | ins b _ ih=>intro e;omega
theorem Ed.append {x y:List Int} {n:Nat} (h:Ed x y n) (z:List Int):Ed (x++z) (y++z) n:=by
 induction h with
 | nil=>exact .refl z
 | sub a b _ ih=>exact .sub a b ih
 | del a _ ih=>exact .del a ih
 | ins b _ ih=>exact .ins b ih
theorem Ed.snoc_sub {x y:List Int} {n:Nat} (h:Ed x y n) (a b:Int):Ed (x++[a]) (y++[b]) (n+c1 a b):=by
 induction h with
 | nil=>exact .sub a b .nil
 | sub p q _ ih=>have:=Ed.sub p q ih;simp only [List.cons_append];rw [Nat.add_right_comm];exact this
 | del p _ ih=>have:=Ed.del p ih;simp only [List.cons_append];rw [Nat.add_right_comm];exact this
 | ins p _ ih=>have:=Ed.ins p ih;simp only [List.cons_append];rw [Nat.add_right_comm];exact this
theorem Ed.snoc_del {x y:List Int} {n:Nat} (h:Ed x y n) (a:Int):Ed (x++[a]) y (n+1):=by
 induction h with
 | nil=>exact .del a .nil
 | sub p q _ ih=>have:=Ed.sub p q ih;simp only [List.cons_append];rw [Nat.add_right_comm];exact this
 | del p _ ih=>have:=Ed.del p ih;simp only [List.cons_append];exact this
 | ins p _ ih=>exact .ins p ih
theorem Ed.snoc_ins {x y:List Int} {n:Nat} (h:Ed x y n) (b:Int):Ed x (y++[b]) (n+1):=(h.symm.snoc_del b).symm
theorem Ed.reverse {x y:List Int} {n:Nat} (h:Ed x y n):Ed x.reverse y.reverse n:=by
 induction h with
 | nil=>exact .nil
 | sub a b _ ih=>rw [List.reverse_cons,List.reverse_cons];exact ih.snoc_sub a b
 | del a _ ih=>rw [List.reverse_cons];exact ih.snoc_del a
 | ins b _ ih=>rw [List.reverse_cons];exact ih.snoc_ins b
end Go.Proofs.YtkgbbdoeodmkgaaGreatDoor.Dst
namespace Go.Proofs.YtkgbbdoeodmkgaaGreatDoor.Dst
abbrev bl (x y:List UInt8):Bool:=Op.bytesLess x y
theorem bl_irrefl:∀ x:List UInt8,bl x x=false
 | []=>rfl
 | a::x=>by
   show (decide (a<a) || (a == a && bl x x))=false
   rw [bl_irrefl x];simp
theorem u8_lt {a b:UInt8}:a<b↔a.toNat<b.toNat:=UInt8.lt_iff_toNat_lt
theorem bl_cons {a b:UInt8} {x y:List UInt8}:bl (a::x) (b::y)=true↔a.toNat<b.toNat∨(a=b∧bl x y=true):=by
 show (decide (a<b) || (a == b && bl x y))=true↔_
 simp [u8_lt]
theorem bl_trans:∀ {x y z:List UInt8},bl x y=true→bl y z=true→bl x z=true
 | [],_::_,[],_,h=>by cases h
 | _::_,_::_,[],_,h=>by cases h
 | [],[],_,h,_=>by cases h
 | _::_,[],_,h,_=>by cases h
 | [],_::_,_::_,_,_=>rfl
 | a::x,b::y,c::z,h1,h2=>by
   rw [bl_cons] at *
   rcases h1 with h1 | ⟨rfl,h1⟩
   ·rcases h2 with h2 | ⟨rfl,h2⟩
    ·left;omega
    ·exact .inl h1
   ·rcases h2 with h2 | ⟨rfl,h2⟩
    ·exact .inl h2
    ·exact .inr ⟨rfl,bl_trans h1 h2⟩
theorem bl_total:∀ {x y:List UInt8},bl x y=false→bl y x=false→x=y
 | [],[],_,_=>rfl
 | [],_::_,h,_=>by cases h
 | _::_,[],_,h=>by cases h
 | a::x,b::y,h1,h2=>by
   have g1:¬ (bl (a::x) (b::y)=true):=by rw [h1];decide
   have g2:¬ (bl (b::y) (a::x)=true):=by rw [h2];decide
   rw [bl_cons] at g1 g2
   have e:a=b:=UInt8.toNat_inj.1 (by omega)
   subst e
   have:x=y:=bl_total (by cases e:bl x y<;>simp_all) (by cases e:bl y x<;>simp_all)
   rw [this]
def Asc (l:List (List UInt8)):Prop:=l.Pairwise fun x y=>bl x y=true
theorem Asc.tail {x:List UInt8} {l:List (List UInt8)} (h:Asc (x::l)):Asc l:=(List.pairwise_cons.1 h).2
theorem asc_ext:∀ {l m:List (List UInt8)},Asc l→Asc m→(∀ s,s∈l↔s∈m)→l=m
 | [],[],_,_,_=>rfl
 | [],y::m,_,_,h=>by have:=(h y).2 (by simp);cases this
 | x::l,[],_,_,h=>by have:=(h x).1 (by simp);cases this
 | x::l,y::m,h1,h2,h=>by
   obtain ⟨p1,p2⟩:=List.pairwise_cons.1 h1
   obtain ⟨q1,q2⟩:=List.pairwise_cons.1 h2
   have e:x=y:=by
    rcases List.mem_cons.1 ((h x).1 (by simp)) with e | e
    ·exact e
    ·rcases List.mem_cons.1 ((h y).2 (by simp)) with e' | e'
     ·exact e'.symm
     ·have:=bl_trans (p1 y e') (q1 x e);rw [bl_irrefl] at this;cases this
   subst e
   rw [asc_ext p2 q2 fun s=>?_]
   constructor
   ·intro hs
    rcases List.mem_cons.1 ((h s).1 (by simp [hs])) with e | e
    ·subst e;have:=p1 s hs;rw [bl_irrefl] at this;cases this
    ·exact e
   ·intro hs
    rcases List.mem_cons.1 ((h s).2 (by simp [hs])) with e | e
    ·subst e;have:=q1 s hs;rw [bl_irrefl] at this;cases this
    ·exact e
def insAt (s:List UInt8):List (List UInt8)→Nat
 | []=>0
 | x::l=>if bl x s=true then insAt s l+1 else 0
def insL (l:List (List UInt8)) (s:List UInt8):List (List UInt8) :=
 if insAt s l<l.length∧l.getD (insAt s l) []=s then l else l.take (insAt s l)++s::l.drop (insAt s l)
theorem insL_cons (x:List UInt8) (l:List (List UInt8)) (s:List UInt8):insL (x::l) s=if bl x s=true then x::insL l s else if x=s then x::l else s::x::l:=by
 unfold insL
 rw [insAt]
 by_cases h:bl x s=true
 ·rw [if_pos h,if_pos h]
  by_cases h2:insAt s l<l.length∧l.getD (insAt s l) []=s
  ·rw [if_pos h2,if_pos (by simpa using h2)]
  ·rw [if_neg h2,if_neg (by simpa using h2)];simp
 ·rw [if_neg h,if_neg h]
  simp
theorem mem_insL (s t:List UInt8):∀ l:List (List UInt8),t∈insL l s↔t=s∨t∈l
 | []=>by simp [insL,insAt]
 | x::l=>by
   have ih:=mem_insL s t l
   rw [insL_cons]
   split
   ·simp only [List.mem_cons,ih];exact or_left_comm
   ·split
    ·rename_i e;subst e;simp
    ·simp
theorem asc_insL (s:List UInt8):∀ {l:List (List UInt8)},Asc l→Asc (insL l s)
 | [],_=>by simp [insL,insAt,Asc]
 | x::l,h=>by
   obtain ⟨p1,p2⟩:=List.pairwise_cons.1 h
   have ih:=asc_insL s (l:=l) p2
   rw [insL_cons]
   split
   ·rename_i hx
    refine List.pairwise_cons.2 ⟨fun t ht=>?_,ih⟩
    rcases (mem_insL s t l).1 ht with rfl | ht
    ·exact hx
    ·exact p1 t ht
   ·rename_i hx
    split
    ·exact h
    ·rename_i hne
     have hs:bl s x=true:=by
      cases e:bl s x with
      | true=>rfl
      | false=>exact absurd (bl_total (by simpa using hx) e) hne
     refine List.pairwise_cons.2 ⟨fun t ht=>?_,h⟩
     rcases List.mem_cons.1 ht with rfl | ht
     ·exact hs
     ·exact bl_trans hs (p1 t ht)
def setL (l:List (List UInt8)):List (List UInt8):=l.foldl insL []
theorem foldl_insL:∀ (l m:List (List UInt8)),Asc m→Asc (l.foldl insL m)∧∀ t,t∈l.foldl insL m↔t∈l∨t∈m
 | [],m,h=>⟨h,fun t=>by simp⟩
 | s::l,m,h=>by
   obtain ⟨h1,h2⟩:=foldl_insL l (insL m s) (asc_insL s h)
   refine ⟨h1,fun t=>?_⟩
   rw [List.foldl_cons,h2 t,mem_insL,List.mem_cons]
   constructor
   ·rintro (h | h | h)
    ·exact .inl (.inr h)
    ·exact .inl (.inl h)
    ·exact .inr h
   ·rintro ((h | h) | h)
    ·exact .inr (.inl h)
    ·exact .inl h
    ·exact .inr (.inr h)
theorem asc_setL (l:List (List UInt8)):Asc (setL l):=(foldl_insL l [] List.Pairwise.nil).1
theorem mem_setL {l:List (List UInt8)} {t:List UInt8}:t∈setL l↔t∈l:=by rw [setL,(foldl_insL l [] List.Pairwise.nil).2];simp
def dedup:List (List UInt8)→List (List UInt8)
 | x::y::l=>if x=y then dedup (y::l) else x::dedup (y::l)
 | l=>l
theorem mem_dedup {t:List UInt8}:∀ {l:List (List UInt8)},t∈dedup l↔t∈l
 | []=>by simp [dedup]
 | [x]=>by simp [dedup]
 | x::y::l=>by
   have ih:=mem_dedup (t:=t) (l:=y::l)
   rw [dedup]
   split
   ·rename_i e;subst e;rw [ih];simp
   ·rw [List.mem_cons,ih,← List.mem_cons]
theorem dedup_asc:∀ {l:List (List UInt8)},l.Pairwise (fun x y=>bl y x=false)→Asc (dedup l)
 | [],_=>by simp [dedup,Asc]
 | [x],_=>by simp [dedup,Asc]
 | x::y::l,h=>by
   obtain ⟨p1,p2⟩:=List.pairwise_cons.1 h
   have ih:=dedup_asc (l:=y::l) p2
   rw [dedup]
   split
   ·exact ih
   ·rename_i hne
    have hxy:bl x y=true:=by
     cases e:bl x y with
     | true=>rfl
     | false=>exact absurd (bl_total e (p1 y (by simp))) hne
    refine List.pairwise_cons.2 ⟨fun t ht=>?_,ih⟩
    rcases List.mem_cons.1 (mem_dedup.1 ht) with rfl | ht
    ·exact hxy
    ·have h2:=(List.pairwise_cons.1 p2).1 t ht
     cases e:bl y t with
     | true=>exact bl_trans hxy e
     | false=>rw [bl_total e h2] at hxy;exact hxy
theorem setL_dedup {l m:List (List UInt8)} (h:m.Pairwise (fun x y=>bl y x=false)) (hp:∀ t,t∈m↔t∈l):dedup m=setL l :=
 asc_ext (dedup_asc h) (asc_setL l) fun t=>by rw [mem_dedup,mem_setL,hp]
theorem Asc.nodup {l:List (List UInt8)} (h:Asc l):l.Nodup:=List.Pairwise.imp (fun {x y} hxy e=>by subst e;rw [bl_irrefl] at hxy;cases hxy) h
end Go.Proofs.YtkgbbdoeodmkgaaGreatDoor.Dst
namespace Go.Proofs.YtkgbbdoeodmkgaaGreatDoor.Dst
open Go.Abs
end Go.Proofs.YtkgbbdoeodmkgaaGreatDoor.Dst
namespace Go.Proofs.YtkgbbdoeodmkgaaGreatDoor.Dst
open Go.Abs
def wordsL:List (List UInt8):=[[97,110,110],[98,111,98],[99,121],[66,101,114,110],[85,108,109],[78,101,119,32,89,111,114,107],[121,111,114,107,32,110,101,119],[97,45,49],[98,45,50,50],[120],[122,195,188,114,105,99,104],[65,110,110],[98,111],[99,97,116],[98,97,116],[114,97,116]]
end Go.Proofs.YtkgbbdoeodmkgaaGreatDoor.Dst
namespace Go.Proofs.YtkgbbdoeodmkgaaGreatDoor.Dst
open Go Go.Proofs Go.Abs
variable {G:Globals}
abbrev M0:Muts:=fun _=>false
abbrev S (l:List UInt8):D:=.str (bs l)
end Go.Proofs.YtkgbbdoeodmkgaaGreatDoor.Dst
namespace Go.Proofs.YtkgbbdoeodmkgaaGreatDoor.Dst
open Go Go.Proofs Go.Abs
variable {G:Globals}
theorem cells_nums {l:List UInt8}:(l.map fun b=>D.int .u8 (b.toNat:Int))=ints .u8 (nums l):=by simp [ints,nums]
end Go.Proofs.YtkgbbdoeodmkgaaGreatDoor.Dst
namespace Go.Proofs.YtkgbbdoeodmkgaaGreatDoor.Dst
open Go Go.Proofs Go.Abs
variable {G:Globals}
def strs (l:List (List UInt8)):List D:=l.map fun s=>S s
theorem strs_length {l:List (List UInt8)}:(strs l).length=l.length:=by simp [strs]
theorem strs_unf {l:List (List UInt8)}:(strs l).map unf0=strs l:=by simp [strs,unf0]
theorem strs_getD {l:List (List UInt8)} {i:Nat} (h:i<l.length):(strs l).getD i .nilp=S (l.getD i []):=by
 simp [strs,List.getD_eq_getElem?_getD,h]
abbrev Ss (l:List (List UInt8)) (full:Bool):D:=.sl l.length full (strs l)
theorem mem_take_succ {l:List (List UInt8)} {i:Nat} {s:List UInt8} (h:i<l.length):s∈l.take (i+1)↔s∈l.take i∨l.getD i []=s:=by
 rw [List.take_add_one,List.getElem?_eq_getElem h,List.getD_eq_getElem?_getD,List.getElem?_eq_getElem h]
 simp only [Option.toList_some,List.mem_append,List.mem_singleton,Option.getD_some]
 exact or_congr_right eq_comm
set_option maxRecDepth 100000 in
theorem has_spec (l:List (List UInt8)) (full:Bool) (s:List UInt8) (hl:l.length≤1000000):Ctr Tryz.prog G 14 [.d (Ss l full),.d (S s)] [] (.d (.bool (decide (s∈l)))) []:=by
 refine Ctr.pure (M:=M0) hmix Tryz.func14 rfl go14 ?_
 simp (config:={maxSteps:=1000000}) (disch:=((try simp only [awL]);omega)) only [QR,QS,QT,QU,QV,QW,QX,QY,QZ,Q0,Q1,Q2,Tryz.f14,↓awU,awV,awF,Qa,Qb,Qc,Qd,forall_const,↓reduceIte,↓reduceDIte,↓Qe,Qf,Qg,Qh,Qi,Qj,Qk,Ql,Qm,Qn,Qo,Qp,Qq,Qr,Qs,implies_true,Qt,Qu,Qv,Qw,Qx,Qy,Qz,QA,QB,QC,QD,QE,QF,QG,QH,QI,QJ,QK,QL,QM,QN,QO,QP,QQ]
 refine LoopC.fr 386 (α:=Nat) (fun i=>l.length - i) (fun i=>[(9,.d (.int .i64 i))]) (fun _=>[]) (fun i=>i≤l.length∧s∉l.take i) 0 ⟨Nat.zero_le _,by simp⟩ ?_ ?_
 ·exact ⟨[],rfl,by simp,by simp [setsA,keepA,SWeak,AWeak],by simp [HWeak,BWeak,SWeak,AWeak]⟩
 ·rintro i ⟨h1,h2⟩
  have sl:=@strs_length l
  simp only [awK,Nat.reduceMod,Nat.reduceDiv,reduceIte]
  rcases Nat.lt_or_ge i l.length with h | h
  ·have g1:=strs_getD h
   have hm:=@mem_take_succ l i s h
   by_cases he:l.getD i []=s
   ·have hin:s∈l:=List.mem_of_mem_take (hm.2 (.inr he))
    rw [decide_eq_true hin]
    rw [he] at g1
    simp (config:={maxSteps:=1000000}) (disch:=((try simp only [awL]);omega)) only [QR,QS,QT,QU,QV,QW,QX,QY,QZ,Q0,Q1,Q2,sl,g1,beq_self_eq_true,↓awU,awV,awF,Qa,Qb,Qc,Qd,forall_const,↓reduceIte,↓reduceDIte,↓Qe,Qf,Qg,Qh,Qi,Qj,Qk,Ql,Qm,Qn,Qo,Qp,Qq,Qr,Qs,implies_true,Qt,Qu,Qv,Qw,Qx,Qy,Qz,QA,QB,QC,QD,QE,QF,QG,QH,QI,QJ,QK,QL,QM,QN,QO,QP,QQ]
    try rfl
   ·have hne:(l.getD i [] == s)=false:=by simpa using he
    simp (config:={maxSteps:=1000000}) (disch:=((try simp only [awL]);omega)) only [QR,QS,QT,QU,QV,QW,QX,QY,QZ,Q0,Q1,Q2,sl,g1,hne,↓awU,awV,awF,Qa,Qb,Qc,Qd,forall_const,↓reduceIte,↓reduceDIte,↓Qe,Qf,Qg,Qh,Qi,Qj,Qk,Ql,Qm,Qn,Qo,Qp,Qq,Qr,Qs,implies_true,Qt,Qu,Qv,Qw,Qx,Qy,Qz,QA,QB,QC,QD,QE,QF,QG,QH,QI,QJ,QK,QL,QM,QN,QO,QP,QQ]
    exact ⟨i+1,⟨h,fun q=>(hm.1 q).elim h2 he⟩,by simp only;omega,⟨[],rfl,by simp,by simp [setsA,keepA,SWeak,AWeak],by simp [HWeak,BWeak,SWeak,AWeak]⟩⟩
  ·obtain rfl:i=l.length:=by omega
   rw [List.take_length] at h2
   rw [decide_eq_false h2]
   simp (config:={maxSteps:=1000000}) (disch:=((try simp only [awL]);omega)) only [QR,QS,QT,QU,QV,QW,QX,QY,QZ,Q0,Q1,Q2,sl,↓awU,awV,awF,Qa,Qb,Qc,Qd,forall_const,↓reduceIte,↓reduceDIte,↓Qe,Qf,Qg,Qh,Qi,Qj,Qk,Ql,Qm,Qn,Qo,Qp,Qq,Qr,Qs,implies_true,Qt,Qu,Qv,Qw,Qx,Qy,Qz,QA,QB,QC,QD,QE,QF,QG,QH,QI,QJ,QK,QL,QM,QN,QO,QP,QQ]
   try rfl
end Go.Proofs.YtkgbbdoeodmkgaaGreatDoor.Dst
namespace Go.Proofs.YtkgbbdoeodmkgaaGreatDoor.Dst
open Go Go.Proofs Go.Abs
variable {G:Globals}
theorem strs_push {l:List (List UInt8)} {s:List UInt8}:strs (l++[s])=strs l++[S s]:=by simp [strs]
end Go.Proofs.YtkgbbdoeodmkgaaGreatDoor.Dst
namespace Go.Proofs.YtkgbbdoeodmkgaaGreatDoor.Dst
open Go Go.Proofs Go.Abs
variable {G:Globals}
theorem strs_set {l:List (List UInt8)} {i:Nat} {s:List UInt8}:(strs l).set i (S s)=strs (l.set i s):=by simp [strs,List.map_set]
theorem zeros_strs {n:Nat}:zerosD [.str .empty] n=strs (List.replicate n []):=by rw [zerosD_one,strs,List.map_replicate];rfl
end Go.Proofs.YtkgbbdoeodmkgaaGreatDoor.Dst
namespace Go.Proofs.YtkgbbdoeodmkgaaGreatDoor.Dst
open Go Go.Proofs Go.Abs
variable {G:Globals}
theorem strs_app {l m:List (List UInt8)} {k:Nat}:(strs l).take k++strs m=strs (l.take k++m):=by simp [strs,List.map_take]
end Go.Proofs.YtkgbbdoeodmkgaaGreatDoor.Dst
namespace Go.Proofs.YtkgbbdoeodmkgaaGreatDoor.Dst
open Go Go.Proofs Go.Abs
variable {G:Globals}
end Go.Proofs.YtkgbbdoeodmkgaaGreatDoor.Dst
namespace Go.Proofs.YtkgbbdoeodmkgaaGreatDoor.Dst
open Go Go.Proofs Go.Abs
variable {G:Globals}
end Go.Proofs.YtkgbbdoeodmkgaaGreatDoor.Dst
namespace Go.Proofs.YtkgbbdoeodmkgaaGreatDoor.Dst
open Go Go.Proofs Go.Abs
variable {G:Globals}
abbrev Ru (kind lim num den:Int):D:=.agg [.int .i64 kind,.int .i64 lim,.int .i64 num,.int .i64 den]
def okR (kind lim num den:Int):Bool:=decide ((kind=1∧lim=0∧num=0∧den=0)∨(kind=2∧0≤lim∧lim≤8∧num=0∧den=0)∨(kind=3∧lim=0∧1≤num∧num≤den∧den≤1000))
end Go.Proofs.YtkgbbdoeodmkgaaGreatDoor.Dst
namespace Go.Proofs.YtkgbbdoeodmkgaaGreatDoor.Dst
open Go Go.Proofs Go.Abs
variable {G:Globals}
end Go.Proofs.YtkgbbdoeodmkgaaGreatDoor.Dst
namespace Go.Proofs.YtkgbbdoeodmkgaaGreatDoor.Dst
open Go Go.Proofs Go.Abs
variable {G:Globals}
abbrev DiceM (t:List Int) (k:Nat):ABlk:=.box [.d (.sl t.length false (ints .u8 t)),.d (.int .i64 (min k t.length:Nat))]
def OkM (t:List Int):Prop:=t.length≤300∧∀ i,0≤t.getD i 0∧t.getD i 0≤255
theorem new_spec (t:List Int) (ht:t.length≤9223372036854775807):Ctr Tryz.prog G 6 [.d (.sl t.length false (ints .u8 t))] [] (.ptr 0 0) [DiceM (t.take 300) 0]:=by
 refine Ctr.body (M:=M0) hmix Tryz.func6 rfl go6 ?_
 rcases Nat.lt_or_ge 300 t.length with h | h
 ·have e:(t.take 300).length=300:=by rw [List.length_take];omega
  simp (config:={maxSteps:=1000000}) (disch:=((try simp only [awL]);omega)) only [Tryz.f6,e,↓awU,awV,awF,Qa,Qb,Qc,Qd,forall_const,↓reduceIte,↓reduceDIte,↓Qe,Qf,Qg,Qh,Qi,Qj,Qk,Ql,Qm,Qn,Qo,Qp,Qq,Qr,Qs,implies_true,Qt,Qu,Qv,Qw,Qx,Qy,Qz,QA,QB,QC,QD,QE,QF,QG,QH,QI,QJ,QK,QL,QM,QN,QO,QP,QQ]
  exact ⟨[some 0],rfl,by simp,by simp [HWeak,BWeak,SWeak,AWeak];omega,.inl (by simp [AWeak])⟩
 ·have e:t.take 300=t:=List.take_of_length_le h
  simp (config:={maxSteps:=1000000}) (disch:=((try simp only [awL]);omega)) only [Tryz.f6,e,↓awU,awV,awF,Qa,Qb,Qc,Qd,forall_const,↓reduceIte,↓reduceDIte,↓Qe,Qf,Qg,Qh,Qi,Qj,Qk,Ql,Qm,Qn,Qo,Qp,Qq,Qr,Qs,implies_true,Qt,Qu,Qv,Qw,Qx,Qy,Qz,QA,QB,QC,QD,QE,QF,QG,QH,QI,QJ,QK,QL,QM,QN,QO,QP,QQ]
  exact ⟨[some 0],rfl,by simp,by simp [HWeak,BWeak,SWeak,AWeak],.inl (by simp [AWeak,SWeak])⟩
def pk (t:List Int) (k:Nat) (n:Int):Int:=t.getD k 0 % n
theorem pk_range {t:List Int} {k:Nat} {n:Int} (h:0<n):0≤pk t k n∧pk t k n<n:=⟨Int.emod_nonneg _ (by omega),Int.emod_lt_of_pos _ h⟩
theorem pk_nat (t:List Int) (k:Nat) (n:Int) (h:0<n):∃ c:Nat,pk t k n=c∧(c:Int)<n:=⟨(pk t k n).toNat,by have:=@pk_range t k n h;omega,by have:=@pk_range t k n h;omega⟩
set_option maxHeartbeats 4000000 in
set_option maxRecDepth 100000 in
theorem pick_spec (t:List Int) (k:Nat) (n:Int) (ht:OkM t) (h0:0<n) (h1:n≤1000) :
  Ctr Tryz.prog G 28 [.ptr 0 0,.d (.int .i64 n)] [DiceM t k] (.d (.int .i64 (pk t k n))) [DiceM t (k+1)]:=by
 obtain ⟨ht,htt⟩:=ht
 refine Ctr.body (M:=M0) hmix Tryz.func28 rfl go28 ?_
 rcases Nat.lt_or_ge k t.length with h | h
 ·have e1:min k t.length=k:=by omega
  have e2:min (k+1) t.length=k+1:=by omega
  obtain ⟨b1,b2⟩:=htt k
  have e3:(t.getD k 0).tmod n=pk t k n:=Int.tmod_eq_emod_of_nonneg b1
  simp only [e1,e2,DiceM]
  simp (config:={maxSteps:=1000000}) (disch:=((try simp only [awL]);omega)) only [Tryz.f28,e3,↓awU,awV,awF,Qa,Qb,Qc,Qd,forall_const,↓reduceIte,↓reduceDIte,↓Qe,Qf,Qg,Qh,Qi,Qj,Qk,Ql,Qm,Qn,Qo,Qp,Qq,Qr,Qs,implies_true,Qt,Qu,Qv,Qw,Qx,Qy,Qz,QA,QB,QC,QD,QE,QF,QG,QH,QI,QJ,QK,QL,QM,QN,QO,QP,QQ]
  refine ⟨by rfl,by rfl,?_⟩
  exact ⟨[some 0],rfl,by simp,by simp [HWeak,BWeak,SWeak,AWeak],.inl (by simp [AWeak,SWeak])⟩
 ·have e1:min k t.length=t.length:=by omega
  have e2:min (k+1) t.length=t.length:=by omega
  have e3:pk t k n=0:=by rw [pk,List.getD_eq_getElem?_getD,List.getElem?_eq_none h];simp
  simp only [e1,e2,e3,DiceM]
  simp (config:={maxSteps:=1000000}) (disch:=((try simp only [awL]);omega)) only [Tryz.f28,↓awU,awV,awF,Qa,Qb,Qc,Qd,forall_const,↓reduceIte,↓reduceDIte,↓Qe,Qf,Qg,Qh,Qi,Qj,Qk,Ql,Qm,Qn,Qo,Qp,Qq,Qr,Qs,implies_true,Qt,Qu,Qv,Qw,Qx,Qy,Qz,QA,QB,QC,QD,QE,QF,QG,QH,QI,QJ,QK,QL,QM,QN,QO,QP,QQ]
  refine ⟨by rfl,?_⟩
  exact ⟨[some 0],rfl,by simp,by simp [HWeak,BWeak,SWeak,AWeak],.inl (by simp [AWeak,SWeak])⟩
set_option maxRecDepth 100000 in
theorem words_spec:Ctr Tryz.prog G 16 [] [] (.d (Ss wordsL false)) []:=by
 refine Ctr.pure (M:=M0) hmix Tryz.func16 rfl go16 ?_
 simp (config:={maxSteps:=1000000}) (disch:=((try simp only [awL]);omega)) only [QR,QS,QT,QU,QV,QW,QX,QY,QZ,Q0,Q1,Q2,Tryz.f16,↓awU,awV,awF,Qa,Qb,Qc,Qd,forall_const,↓reduceIte,↓reduceDIte,↓Qe,Qf,Qg,Qh,Qi,Qj,Qk,Ql,Qm,Qn,Qo,Qp,Qq,Qr,Qs,implies_true,Qt,Qu,Qv,Qw,Qx,Qy,Qz,QA,QB,QC,QD,QE,QF,QG,QH,QI,QJ,QK,QL,QM,QN,QO,QP,QQ]
 try rfl
end Go.Proofs.YtkgbbdoeodmkgaaGreatDoor.Dst
namespace Go.Proofs.YtkgbbdoeodmkgaaGreatDoor.Dst
open Go Go.Proofs Go.Abs
variable {G:Globals}
def wordM (t:List Int) (k:Nat):List UInt8:=wordsL.getD (pk t k 16).toNat []
theorem wordM_mem (t:List Int) (k:Nat):wordM t k∈wordsL:=by
 have h:=@pk_range t k 16 (by decide)
 have hl:wordsL.length=16:=rfl
 unfold wordM
 rw [List.getD_eq_getElem?_getD,List.getElem?_eq_getElem (show (pk t k 16).toNat<wordsL.length by omega)]
 exact List.getElem_mem _
def textsM (t:List Int) (k n:Nat):List (List UInt8):=(List.range n).map fun i=>wordM t (k+i)
theorem textsM_length {t:List Int} {k n:Nat}:(textsM t k n).length=n:=by simp [textsM]
theorem textsM_push {t:List Int} {k n:Nat}:textsM t k (n+1)=textsM t k n++[wordM t (k+n)]:=by simp [textsM,List.range_succ]
set_option maxHeartbeats 4000000 in
set_option maxRecDepth 100000 in
theorem texts_spec (t:List Int) (k:Nat) (n:Int) (ht:OkM t) (h0:0≤n) (h1:n≤100) :
  Ctr Tryz.prog G 20 [.ptr 0 0,.d (.int .i64 n)] [DiceM t k] (.d (Ss (textsM t (k+1) (pk t k (n+1)).toNat) false)) [DiceM t (k+1+(pk t k (n+1)).toNat)]:=by
 refine Ctr.body (M:=M0) hmix Tryz.func20 rfl go20 ?_
 obtain ⟨c,hc,hc2⟩:=pk_nat t k (n+1) (by omega)
 have hwl:wordsL.length=16:=rfl
 have swl:=@strs_length wordsL
 rw [hc,Int.toNat_natCast]
 simp (config:={maxSteps:=1000000}) (disch:=((try simp only [awL]);omega)) only [QR,QS,QT,QU,QV,QW,QX,QY,QZ,Q0,Q1,Q2,Tryz.f20,↓awU,awV,awF,Qa,Qb,Qc,Qd,forall_const,↓reduceIte,↓reduceDIte,↓Qe,Qf,Qg,Qh,Qi,Qj,Qk,Ql,Qm,Qn,Qo,Qp,Qq,Qr,Qs,implies_true,Qt,Qu,Qv,Qw,Qx,Qy,Qz,QA,QB,QC,QD,QE,QF,QG,QH,QI,QJ,QK,QL,QM,QN,QO,QP,QQ]
 refine CallC.by (pick_spec t k (n+1) ht (by omega) (by omega)) (by rfl) (by rfl) (Nat.le_refl _) ?_
 rw [hc]
 simp (config:={maxSteps:=1000000}) (disch:=((try simp only [awL]);omega)) only [QR,QS,QT,QU,QV,QW,QX,QY,QZ,Q0,Q1,Q2,↓awU,awV,awF,Qa,Qb,Qc,Qd,forall_const,↓reduceIte,↓reduceDIte,↓Qe,Qf,Qg,Qh,Qi,Qj,Qk,Ql,Qm,Qn,Qo,Qp,Qq,Qr,Qs,implies_true,Qt,Qu,Qv,Qw,Qx,Qy,Qz,QA,QB,QC,QD,QE,QF,QG,QH,QI,QJ,QK,QL,QM,QN,QO,QP,QQ]
 refine LoopC.fr 1 (α:=Nat) (fun i=>c - i) (fun i=>[(5,.lsl 1 1 0 i),(6,.d (.int .i64 ((c:Int) - i)))]) (fun i=>[DiceM t (k+1+i),.row false (strs (textsM t (k+1) i))]) (fun i=>i≤c) 0 (Nat.zero_le _) ?_ ?_
 ·exact ⟨[some 0,none],rfl,by simp,by simp [setsA,keepA,SWeak,AWeak],by simp [HWeak,BWeak,SWeak,AWeak,strs,textsM]⟩
 ·intro i hi
  have tl:=@textsM_length t (k+1) i
  have sl:=@strs_length (textsM t (k+1) i)
  simp only [awK,Nat.reduceMod,Nat.reduceDiv,reduceIte]
  rcases Nat.lt_or_ge i c with h | h
  ·obtain ⟨d,hd,hd2⟩:=pk_nat t (k+1+i) 16 (by decide)
   have g1:=strs_getD (l:=wordsL) (i:=d) (by omega)
   have ew:wordsL.getD d []=wordM t (k+1+i):=by rw [wordM,hd];rfl
   have hp:=@textsM_push t (k+1) i
   simp (config:={maxSteps:=1000000}) (disch:=((try simp only [awL]);omega)) only [QR,QS,QT,QU,QV,QW,QX,QY,QZ,Q0,Q1,Q2,tl,sl,↓awU,awV,awF,Qa,Qb,Qc,Qd,forall_const,↓reduceIte,↓reduceDIte,↓Qe,Qf,Qg,Qh,Qi,Qj,Qk,Ql,Qm,Qn,Qo,Qp,Qq,Qr,Qs,implies_true,Qt,Qu,Qv,Qw,Qx,Qy,Qz,QA,QB,QC,QD,QE,QF,QG,QH,QI,QJ,QK,QL,QM,QN,QO,QP,QQ]
   refine CallC.of words_spec (by rfl) ?_
   simp (config:={maxSteps:=1000000}) (disch:=((try simp only [awL]);omega)) only [QR,QS,QT,QU,QV,QW,QX,QY,QZ,Q0,Q1,Q2,tl,sl,hwl,swl,↓awU,awV,awF,Qa,Qb,Qc,Qd,forall_const,↓reduceIte,↓reduceDIte,↓Qe,Qf,Qg,Qh,Qi,Qj,Qk,Ql,Qm,Qn,Qo,Qp,Qq,Qr,Qs,implies_true,Qt,Qu,Qv,Qw,Qx,Qy,Qz,QA,QB,QC,QD,QE,QF,QG,QH,QI,QJ,QK,QL,QM,QN,QO,QP,QQ]
   refine CallC.of words_spec (by rfl) ?_
   simp (config:={maxSteps:=1000000}) (disch:=((try simp only [awL]);omega)) only [QR,QS,QT,QU,QV,QW,QX,QY,QZ,Q0,Q1,Q2,tl,sl,hwl,swl,↓awU,awV,awF,Qa,Qb,Qc,Qd,forall_const,↓reduceIte,↓reduceDIte,↓Qe,Qf,Qg,Qh,Qi,Qj,Qk,Ql,Qm,Qn,Qo,Qp,Qq,Qr,Qs,implies_true,Qt,Qu,Qv,Qw,Qx,Qy,Qz,QA,QB,QC,QD,QE,QF,QG,QH,QI,QJ,QK,QL,QM,QN,QO,QP,QQ]
   refine CallC.by (pick_spec t (k+1+i) 16 ht (by decide) (by decide)) (by rfl) (by rfl) (Nat.le_refl _) ?_
   rw [hd]
   simp (config:={maxSteps:=1000000}) (disch:=((try simp only [awL]);omega)) only [QR,QS,QT,QU,QV,QW,QX,QY,QZ,Q0,Q1,Q2,tl,sl,hwl,swl,g1,ew,↓awU,awV,awF,Qa,Qb,Qc,Qd,forall_const,↓reduceIte,↓reduceDIte,↓Qe,Qf,Qg,Qh,Qi,Qj,Qk,Ql,Qm,Qn,Qo,Qp,Qq,Qr,Qs,implies_true,Qt,Qu,Qv,Qw,Qx,Qy,Qz,QA,QB,QC,QD,QE,QF,QG,QH,QI,QJ,QK,QL,QM,QN,QO,QP,QQ]
   have e3:(c:Int) - i - 1=c - ((i+1:Nat):Int):=by omega
   rw [e3]
   have e4:k+1+i+1=k+1+(i+1):=by omega
   have e5:textsM t (k+1) (i+1)=textsM t (k+1) i++[wordM t (k+1+i)]:=hp
   rw [e4]
   exact ⟨i+1,h,by simp only;omega,⟨[some 0,some 3],rfl,by simp,by simp [setsA,keepA,SWeak,AWeak],by simp [HWeak,BWeak,SWeak,AWeak,e5,strs_push]⟩⟩
  ·obtain rfl:i=c:=by omega
   simp (config:={maxSteps:=1000000}) (disch:=((try simp only [awL]);omega)) only [QR,QS,QT,QU,QV,QW,QX,QY,QZ,Q0,Q1,Q2,tl,sl,↓awU,awV,awF,Qa,Qb,Qc,Qd,forall_const,↓reduceIte,↓reduceDIte,↓Qe,Qf,Qg,Qh,Qi,Qj,Qk,Ql,Qm,Qn,Qo,Qp,Qq,Qr,Qs,implies_true,Qt,Qu,Qv,Qw,Qx,Qy,Qz,QA,QB,QC,QD,QE,QF,QG,QH,QI,QJ,QK,QL,QM,QN,QO,QP,QQ]
   refine ⟨[some 0],rfl,by simp,by simp [HWeak,BWeak,SWeak,AWeak],.inr ⟨_,rfl,?_,rfl⟩⟩
   have hcut:cut (strs (textsM t (k+1) i)) 0 i=strs (textsM t (k+1) i):=cut_full (by omega)
   simp (config:={maxSteps:=1000000}) (disch:=((try simp only [awL]);omega)) only [QR,QS,QT,QU,QV,QW,QX,QY,QZ,Q0,Q1,Q2,tl,sl,hcut,strs_unf,↓awU,awV,awF,Qa,Qb,Qc,Qd,forall_const,↓reduceIte,↓reduceDIte,↓Qe,Qf,Qg,Qh,Qi,Qj,Qk,Ql,Qm,Qn,Qo,Qp,Qq,Qr,Qs,implies_true,Qt,Qu,Qv,Qw,Qx,Qy,Qz,QA,QB,QC,QD,QE,QF,QG,QH,QI,QJ,QK,QL,QM,QN,QO,QP,QQ]
   first
   | done
   | rfl
   | simp only [Ss,tl]
end Go.Proofs.YtkgbbdoeodmkgaaGreatDoor.Dst
namespace Go.Proofs.YtkgbbdoeodmkgaaGreatDoor.Dst
open Go Go.Proofs Go.Abs
variable {G:Globals}
structure RuV where
 kind:Int
 lim:Int
 num:Int
 den:Int
abbrev RuV.D (r:RuV):D:=Ru r.kind r.lim r.num r.den
end Go.Proofs.YtkgbbdoeodmkgaaGreatDoor.Dst
namespace Go.Proofs.YtkgbbdoeodmkgaaGreatDoor.Dst
open Go Go.Proofs Go.Abs
variable {G:Globals}
end Go.Proofs.YtkgbbdoeodmkgaaGreatDoor.Dst
namespace Go.Proofs.YtkgbbdoeodmkgaaGreatDoor.Dst
open Go Go.Proofs Go.Abs Go.RowKit Go.Sort Go.Shelf
theorem rd_enc {h:Held} {v:Value} {x:List UInt8} (r:RD h v (S x)):v=encStr x:=by
 cases r with
 | str s=>rfl
theorem strs_get {l:List (List UInt8)} {i:Nat} {x:D} (h:(strs l)[i]? = some x):∃ y,l[i]? = some y∧x=S y:=by
 simp only [strs,List.getElem?_map] at h
 cases hl:l[i]? with
 | none=>simp [hl] at h
 | some y=>simp [hl] at h;exact ⟨y,rfl,h.symm⟩
theorem strs_get' {l:List (List UInt8)} {i:Nat} (h:i<l.length):(strs l)[i]? = some (S l[i]):=by simp [strs,List.getElem?_eq_getElem h]
theorem sort_ctr {P:Program} {G:Globals} {f:FuncId} (hg:goFn P f=true)
  (hs:∀ (blk off cap:Nat) (ss:List (List UInt8)) (w:World),Holds encStr w blk off ss.toArray→blk<w.heap.size→ss.length<4611686018427387904 →
   Calls P f #[.slice (some ⟨blk,off,none⟩) ss.length cap] w fun e w'=>e=.returned (.tuple #[])∧∃ n os,w'=grow (putRow encStr (Sort.ahead w n) blk off (ss.mergeSort fun x y=>decide (x≤y)).toArray) os)
  (hn:∀ (p:Option Addr) (cap:Nat) (w:World),Calls P f #[.slice p 0 cap] w fun e w'=>e=.returned (.tuple #[])∧w'=w)
  (l:List (List UInt8)) (hl:l.length≤100000):Ctr P G f [.lsl 0 1 0 l.length] [.row false (strs l)] .undef [.row false (strs (l.mergeSort fun x y=>decide (x≤y)))]:=by
 refine ⟨hg,fun h ρ w vs s r=>?_⟩
 obtain ⟨v,rfl,hv⟩:=r.inv1
 have hb:=s.blk 0 _ rfl
 rcases Nat.eq_zero_or_pos l.length with h0 | h0
 ·obtain rfl:l=[]:=List.eq_nil_of_length_eq_zero h0
  have key:∃ p cap,v=.slice p 0 cap:=by
   cases hv with
   | lsl0 base=>exact ⟨_,_,rfl⟩
   | lsl b sz off n cap g S h1 h2 h3=>exact ⟨_,_,rfl⟩
  obtain ⟨p,cap,rfl⟩:=key
  refine (hn p cap w).mono ?_
  rintro e w' ⟨rfl,rfl⟩
  exact ⟨_,h,ρ,rfl,by simpa using s,.undef _,Step.refl _ _ _⟩
 ·have key:∃ g S cap,v=.slice (some ⟨g,0,none⟩) l.length cap∧ρ 0=some (g,S)∧l.length≤cap∧0+cap*1≤S:=by
   generalize hk:l.length=k at hv h0
   cases hv with
   | lsl0 base=>omega
   | lsl b sz off n cap g S h1 h2 h3=>exact ⟨g,S,cap,rfl,h1,h2,h3⟩
  obtain ⟨g,S,cap,rfl,hρ,hcap,hS⟩:=key
  obtain ⟨hone,hb⟩:=hb
  rcases hb with ⟨hno,_⟩ | ⟨g',S',c,E,fr,b1,b2,b3,b4,b5,b6,b7,b8⟩
  ·rw [hρ] at hno;cases hno
  rw [hρ] at b1;cases b1
  have hlen:(strs l).length=l.length:=strs_length
  have hcs:l.length≤c.size:=by omega
  have hval:∀ (j:Nat) (hj:j<l.length),c[j]? = some (encStr l[j]):=fun j hj=>by
   have h1:c[j]? = some c[j]:=Array.getElem?_eq_getElem (by omega)
   rw [h1,rd_enc (b6 j _ _ (strs_get' hj) h1)]
  have hH:Holds encStr w g 0 l.toArray:=by
   intro j hj
   have hj':j<l.length:=by simpa using hj
   refine ⟨?_,?_⟩
   ·simp only [World.cell?,b2,Nat.zero_add]
    rw [hval j hj']
    simp [hj']
   ·simp only [World.frozen?,b2,Nat.zero_add]
    have:=b4 j (by omega)
    simp only [Bool.and_eq_false_iff,decide_eq_false_iff_not]
    omega
  have hgl:g<w.heap.size:=(Array.getElem?_eq_some_iff.1 b2).1
  refine (hs g 0 cap l w hH hgl (by omega)).mono ?_
  rintro e w' ⟨rfl,n,os,rfl⟩
  generalize hm:l.mergeSort (fun x y=>decide (x≤y))=m
  have hml:m.length=l.length:=by rw [← hm];exact List.length_mergeSort l
  have other:∀ k,k≠g→k<w.heap.size→(grow (putRow encStr (Sort.ahead w n) g 0 m.toArray) os).heap[k]? = w.heap[k]?:=fun k hk hlt=>by
   rw [heap_grow_old _ _ (by simpa using hlt)]
   show (w.heap.modify g _)[k]? = _
   rw [Array.getElem?_modify,if_neg (Ne.symm hk)]
  have same:(grow (putRow encStr (Sort.ahead w n) g 0 m.toArray) os).heap[g]? = some (.cells (putCells encStr 0 m.toArray c) E fr):=by
   rw [heap_grow_old _ _ (by simpa using hgl)]
   show (w.heap.modify g _)[g]? = _
   rw [Array.getElem?_modify,if_pos rfl,b2]
   rfl
  have hsz:(putCells encStr 0 m.toArray c).size=c.size:=by simp [putCells]
  have hcell:∀ (j:Nat) (hj:j<m.length),(putCells encStr 0 m.toArray c)[j]? = some (encStr m[j]):=fun j hj=>by
   have:j<c.size:=by omega
   simp [putCells,Array.getElem?_mapIdx,Array.getElem?_eq_getElem this,hj]
  have hprom:∀ b o u,h b o=some u→(grow (putRow encStr (Sort.ahead w n) g 0 m.toArray) os).cell? ⟨b,o,none⟩=some u:=by
   intro b o u e
   have hlt:=s.held_lt e
   have hne:b≠g:=fun e'=>by subst e';rw [b8 o (fun e=>by cases e)] at e;cases e
   have:=s.prom b o u e
   rw [← this]
   simp only [World.cell?,other b hne hlt]
  refine ⟨_,h,ρ,rfl,⟨hprom,s.glob,fun i b e=>?_,fun i k S2 e=>?_,fun i j k S1 S2 e1 e2 l1 l2=>?_⟩,.undef _,⟨rfl,rfl,rfl,by simp,fun k hk hnk=>other k (fun e=>hnk 0 S (e▸hρ)) hk,Held.le_refl _,fun _ _ _ _=>rfl,Place.le_refl _,fun i k S2 e=>.inl ⟨i,S2,e⟩⟩⟩
  ·cases i with
   | zero =>
    simp [hp] at e;subst e
    refine ⟨fun j x hx=>?_,.inr ⟨g,S,_,E,fr,hρ,same,by rw [hsz];exact b3,b4,by rw [strs_length,hml];omega,fun j x u hx hu=>?_,(fun e=>by cases e),fun j _=>b8 j (fun e=>by cases e)⟩⟩
    ·obtain ⟨y,_,rfl⟩:=strs_get hx;rfl
    ·obtain ⟨y,hy,rfl⟩:=strs_get hx
     have hj:=(List.getElem?_eq_some_iff.1 hy).1
     rw [hcell j hj] at hu
     cases hu
     have:m[j]=y:=by rw [List.getElem?_eq_getElem hj] at hy;exact Option.some.inj hy
     rw [this]
     exact .str _
   | succ i=>simp [hp] at e
  ·obtain ⟨q1,b,q2⟩:=s.dom i k S2 e
   refine ⟨by simp;omega,?_⟩
   cases i with
   | zero=>exact ⟨_,rfl⟩
   | succ i=>simp [hp] at q2
  ·have z:∀ i,live (hp [.row false (strs m)]) i→i=0:=by
    rintro i ⟨b,q,_⟩
    cases i with
    | zero=>rfl
    | succ i=>simp [hp] at q
   rw [z i l1,z j l2]
def Tryz.sortL_ren:Go.Shelf.Ren:=⟨fun | 6=>96 | 8=>126 | 9=>125 | 19=>154 | 20=>155 | 21=>145 | 22=>146 | 23=>147 | 24=>148 | 25=>149 | 26=>150 | 27=>151 | 28=>152 | 29=>153 | 36=>166 | 31=>167 | 32=>168 | 37=>169 | 38=>170 | 39=>171 | 41=>176 | n=>n,fun | 27=>30 | 29=>9 | 3=>3 | 32=>127 | 26=>30 | 0=>0 | 44=>107 | 46=>110 | 4=>4 | 36=>166 | 35=>165 | 41=>170 | 5=>5 | 9=>9 | 53=>179 | 57=>183 | 63=>186 | 64=>187 | n=>n,fun | n=>n⟩
theorem Tryz.sortL:Go.Proofs.SlLaysM.n6 Tryz.prog Tryz.sortL_ren where
 mixed:=by kernel_rfl
 f6:=⟨Tryz.f96.name,by kernel_rfl,Tryz.func96.trans (congrArg some (by kernel_rfl))⟩
 f8:=Tryz.func126.trans (congrArg some (by kernel_rfl))
 f9:=⟨Tryz.f125.name,by kernel_rfl,Tryz.func125.trans (congrArg some (by kernel_rfl))⟩
 f19:=Tryz.func154.trans (congrArg some (by kernel_rfl))
 f20:=Tryz.func155.trans (congrArg some (by kernel_rfl))
 f21:=⟨Tryz.f145.name,by kernel_rfl,Tryz.func145.trans (congrArg some (by kernel_rfl))⟩
 f22:=⟨Tryz.f146.name,by kernel_rfl,Tryz.func146.trans (congrArg some (by kernel_rfl))⟩
 f23:=⟨Tryz.f147.name,by kernel_rfl,Tryz.func147.trans (congrArg some (by kernel_rfl))⟩
 f24:=⟨Tryz.f148.name,by kernel_rfl,Tryz.func148.trans (congrArg some (by kernel_rfl))⟩
 f25:=⟨Tryz.f149.name,by kernel_rfl,Tryz.func149.trans (congrArg some (by kernel_rfl))⟩
 f26:=⟨Tryz.f150.name,by kernel_rfl,Tryz.func150.trans (congrArg some (by kernel_rfl))⟩
 f27:=⟨Tryz.f151.name,by kernel_rfl,Tryz.func151.trans (congrArg some (by kernel_rfl))⟩
 f28:=⟨Tryz.f152.name,by kernel_rfl,Tryz.func152.trans (congrArg some (by kernel_rfl))⟩
 f29:=⟨Tryz.f153.name,by kernel_rfl,Tryz.func153.trans (congrArg some (by kernel_rfl))⟩
 f31:=Tryz.func167.trans (congrArg some (by kernel_rfl))
 f32:=Tryz.func168.trans (congrArg some (by kernel_rfl))
 f36:=⟨Tryz.f166.name,by kernel_rfl,Tryz.func166.trans (congrArg some (by kernel_rfl))⟩
 f37:=⟨Tryz.f169.name,by kernel_rfl,Tryz.func169.trans (congrArg some (by kernel_rfl))⟩
 f38:=⟨Tryz.f170.name,by kernel_rfl,Tryz.func170.trans (congrArg some (by kernel_rfl))⟩
 f39:=⟨Tryz.f171.name,by kernel_rfl,Tryz.func171.trans (congrArg some (by kernel_rfl))⟩
 f41:=⟨Tryz.f176.name,by kernel_rfl,Tryz.func176.trans (congrArg some (by kernel_rfl))⟩
 t0:=Tryz.underlying0
 a0:=Tryz.isAgg0
 z0:=Tryz.sizeOf0
 v0:=Tryz.zeroValue0
 t3:=Tryz.underlying3
 a3:=Tryz.isAgg3
 z3:=Tryz.sizeOf3
 v3:=Tryz.zeroValue3
 t4:=Tryz.underlying4
 a4:=Tryz.isAgg4
 z4:=Tryz.sizeOf4
 v4:=Tryz.zeroValue4
 t5:=Tryz.underlying5
 a5:=Tryz.isAgg5
 z5:=Tryz.sizeOf5
 v5:=Tryz.zeroValue5
 t9:=Tryz.underlying9
 a9:=Tryz.isAgg9
 z9:=Tryz.sizeOf9
 v9:=Tryz.zeroValue9
 t26:=Tryz.underlying30
 a26:=Tryz.isAgg30
 z26:=Tryz.sizeOf30
 v26:=Tryz.zeroValue30
 t27:=Tryz.underlying30
 a27:=Tryz.isAgg30
 z27:=Tryz.sizeOf30
 v27:=Tryz.zeroValue30
 t29:=Tryz.underlying9
 a29:=Tryz.isAgg9
 z29:=Tryz.sizeOf9
 v29:=Tryz.zeroValue9
 t32:=Tryz.underlying127
 a32:=Tryz.isAgg127
 z32:=Tryz.sizeOf127
 v32:=Tryz.zeroValue127
 t35:=Tryz.underlying165
 a35:=Tryz.isAgg165
 z35:=Tryz.sizeOf165
 v35:=Tryz.zeroValue165
 t36:=Tryz.underlying166
 a36:=Tryz.isAgg166
 z36:=Tryz.sizeOf166
 v36:=Tryz.zeroValue166
 t41:=Tryz.underlying170
 a41:=Tryz.isAgg170
 z41:=Tryz.sizeOf170
 v41:=Tryz.zeroValue170
 t44:=Tryz.underlying107
 a44:=Tryz.isAgg107
 z44:=Tryz.sizeOf107
 v44:=Tryz.zeroValue107
 t46:=Tryz.underlying110
 a46:=Tryz.isAgg110
 z46:=Tryz.sizeOf110
 v46:=Tryz.zeroValue110
 t53:=Tryz.underlying179
 a53:=Tryz.isAgg179
 z53:=Tryz.sizeOf179
 v53:=Tryz.zeroValue179
 t57:=Tryz.underlying183
 a57:=Tryz.isAgg183
 z57:=Tryz.sizeOf183
 v57:=Tryz.zeroValue183
 t63:=Tryz.underlying186
 a63:=Tryz.isAgg186
 z63:=Tryz.sizeOf186
 v63:=Tryz.zeroValue186
 t64:=Tryz.underlying187
 a64:=Tryz.isAgg187
 z64:=Tryz.sizeOf187
 v64:=Tryz.zeroValue187
def srt (l:List (List UInt8)):List (List UInt8):=l.mergeSort fun x y=>decide (x≤y)
theorem srt_length {l:List (List UInt8)}:(srt l).length=l.length:=List.length_mergeSort l
theorem sort_spec {G:Globals} (l:List (List UInt8)) (hl:l.length≤100000):Ctr Tryz.prog G 96 [.lsl 0 1 0 l.length] [.row false (strs l)] .undef [.row false (strs (srt l))] :=
 sort_ctr go96 (fun blk off cap ss w h1 h2 h3=>AnyM.slices_Sort_string Tryz.sortL blk off cap ss w h1 h2 h3) (fun p cap w=>AnyM.slices_Sort_string_none Tryz.sortL p cap w) l hl
end Go.Proofs.YtkgbbdoeodmkgaaGreatDoor.Dst
namespace Go.Proofs.YtkgbbdoeodmkgaaGreatDoor.Dst
theorem dedup_snoc (x:List UInt8):∀ l:List (List UInt8),dedup (l++[x])=if l.getLast? = some x then dedup l else dedup l++[x]
 | []=>by simp [dedup]
 | [y]=>by
   by_cases h:y=x
   ·subst h;simp [dedup]
   ·simp [dedup,h]
 | y::z::l=>by
   have ih:=dedup_snoc x (z::l)
   have hl:(y::z::l).getLast? = (z::l).getLast?:=by simp [List.getLast?_cons_cons]
   rw [hl]
   show dedup (y::z::(l++[x]))=_
   rw [dedup,dedup]
   have ih':dedup (z::(l++[x]))=if (z::l).getLast? = some x then dedup (z::l) else dedup (z::l)++[x]:=ih
   rw [ih']
   split
   ·split<;>rfl
   ·split
    ·rfl
    ·rfl
theorem dedup_take {l:List (List UInt8)} {i:Nat} (h0:1≤i) (h:i<l.length):dedup (l.take (i+1))=if l.getD (i - 1) []=l.getD i [] then dedup (l.take i) else dedup (l.take i)++[l.getD i []]:=by
 have e:l.take (i+1)=l.take i++[l.getD i []]:=by
  rw [List.take_add_one,List.getElem?_eq_getElem h,List.getD_eq_getElem?_getD,List.getElem?_eq_getElem h];rfl
 have hl:(l.take i).getLast? = some (l.getD (i - 1) []):=by
  rw [List.getLast?_eq_getElem?,List.length_take,List.getElem?_take,if_pos (by omega),show min i l.length - 1=i - 1 by omega,List.getD_eq_getElem?_getD,List.getElem?_eq_getElem (by omega)]
  rfl
 rw [e,dedup_snoc,hl]
 simp only [Option.some.injEq]
end Go.Proofs.YtkgbbdoeodmkgaaGreatDoor.Dst
namespace Go.Proofs.YtkgbbdoeodmkgaaGreatDoor.Dst
open Go Go.Proofs Go.Abs
variable {G:Globals}
def cpt (l:List (List UInt8)):List (List UInt8):=dedup l++List.replicate (l.length - (dedup l).length) []
set_option maxHeartbeats 4000000 in
set_option maxRecDepth 100000 in
theorem compact_spec (l:List (List UInt8)) (hl:l.length≤100000):Ctr Tryz.prog G 61 [.lsl 0 1 0 l.length] [.row false (strs l)] (.lsl 0 1 0 (dedup l).length) [.row false (strs (cpt l))]:=by
 refine Ctr.body (M:=M0) hmix Tryz.func61 rfl go61 ?_
 have sl:=@strs_length l
 rcases Nat.lt_or_ge l.length 2 with h2 | h2
 ·have e:dedup l=l∧cpt l=l:=by
   match l,h2 with
   | [],_=>exact ⟨rfl,rfl⟩
   | [x],_=>exact ⟨rfl,rfl⟩
  rw [e.1,e.2]
  simp (config:={maxSteps:=1000000}) (disch:=((try simp only [awL]);omega)) only [QR,QS,QT,QU,QV,QW,QX,QY,QZ,Q0,Q1,Q2,sl,Tryz.f61,↓awU,awV,awF,Qa,Qb,Qc,Qd,forall_const,↓reduceIte,↓reduceDIte,↓Qe,Qf,Qg,Qh,Qi,Qj,Qk,Ql,Qm,Qn,Qo,Qp,Qq,Qr,Qs,implies_true,Qt,Qu,Qv,Qw,Qx,Qy,Qz,QA,QB,QC,QD,QE,QF,QG,QH,QI,QJ,QK,QL,QM,QN,QO,QP,QQ]
  exact ⟨[some 0],rfl,by simp,by simp [HWeak,BWeak,SWeak,AWeak],.inl (by simp [AWeak,SWeak])⟩
 ·simp (config:={maxSteps:=1000000}) (disch:=((try simp only [awL]);omega)) only [QR,QS,QT,QU,QV,QW,QX,QY,QZ,Q0,Q1,Q2,sl,Tryz.f61,↓awU,awV,awF,Qa,Qb,Qc,Qd,forall_const,↓reduceIte,↓reduceDIte,↓Qe,Qf,Qg,Qh,Qi,Qj,Qk,Ql,Qm,Qn,Qo,Qp,Qq,Qr,Qs,implies_true,Qt,Qu,Qv,Qw,Qx,Qy,Qz,QA,QB,QC,QD,QE,QF,QG,QH,QI,QJ,QK,QL,QM,QN,QO,QP,QQ]
  refine LoopC.fr 1 (α:=Nat) (fun i=>l.length - i) (fun i=>[(3,.d (.int .i64 i))]) (fun _=>[.row false (strs l)]) (fun i=>1≤i∧i≤l.length∧dedup (l.take i)=l.take i) 1 ⟨Nat.le_refl _,by omega,by
   match l,h2 with
   | x::r,_=>rfl⟩ ?_ ?_
  ·exact ⟨[some 0],rfl,by simp,by simp [setsA,keepA,SWeak,AWeak],by simp [HWeak,BWeak,SWeak,AWeak]⟩
  ·rintro i ⟨h1,h3,h4⟩
   simp only [awK,Nat.reduceMod,Nat.reduceDiv,reduceIte]
   rcases Nat.lt_or_ge i l.length with h | h
   ·have e1:((i:Int) - 1)=((i - 1:Nat):Int):=by omega
    have g1:=strs_getD (l:=l) (i:=i - 1) (by omega)
    have g2:=strs_getD h
    have hd:=dedup_take h1 h
    by_cases he:l.getD (i - 1) []=l.getD i []
    ·rw [if_pos he] at hd
     rw [he] at g1
     simp (config:={maxSteps:=1000000}) (disch:=((try simp only [awL]);omega)) only [QR,QS,QT,QU,QV,QW,QX,QY,QZ,Q0,Q1,Q2,sl,e1,g1,g2,beq_self_eq_true,↓awU,awV,awF,Qa,Qb,Qc,Qd,forall_const,↓reduceIte,↓reduceDIte,↓Qe,Qf,Qg,Qh,Qi,Qj,Qk,Ql,Qm,Qn,Qo,Qp,Qq,Qr,Qs,implies_true,Qt,Qu,Qv,Qw,Qx,Qy,Qz,QA,QB,QC,QD,QE,QF,QG,QH,QI,QJ,QK,QL,QM,QN,QO,QP,QQ]
     refine ⟨by rfl,?_⟩
     have hlt:(l.take i).length=i:=by rw [List.length_take];omega
     refine LoopC.fr 17 (α:=Nat × Nat × List (List UInt8)) (fun x=>l.length - (i+x.1)) (fun x=>[(3,.d (.int .i64 x.2.1)),(5,.d (.int .i64 x.1))]) (fun x=>[.row false (strs x.2.2)])
      (fun x=>1≤x.1∧i+x.1≤l.length∧x.2.2.length=l.length∧x.2.1=(dedup (l.take (i+x.1))).length∧x.2.2.take x.2.1=dedup (l.take (i+x.1))∧x.2.1+1≤i+x.1∧∀ q,i+x.1≤q+1→q<l.length→x.2.2.getD q []=l.getD q [])
      (1,i,l) ⟨Nat.le_refl _,h,rfl,by simp only;rw [hd,h4,hlt],by simp only;rw [hd,h4],Nat.le_refl _,fun q _ _=>rfl⟩ ?_ ?_
     ·exact ⟨[some 0],rfl,by simp,by simp [setsA,keepA,SWeak,AWeak],by simp [HWeak,BWeak,SWeak,AWeak]⟩
     ·rintro ⟨j,k,R⟩ ⟨j1,j2,j3,j4,j5,j6,j7⟩
      simp only at j1 j2 j3 j4 j5 j6 j7
      have sR:=@strs_length R
      simp only [awK,Nat.reduceMod,Nat.reduceDiv,reduceIte]
      rcases Nat.lt_or_ge (i+j) l.length with hj | hj
      ·have e2:((j:Int) - 1)=((j - 1:Nat):Int):=by omega
       have r1:=strs_getD (l:=R) (i:=i+j) (by omega)
       have r2:=strs_getD (l:=R) (i:=i+(j - 1)) (by omega)
       rw [j7 (i+j) (by omega) hj] at r1
       rw [j7 (i+(j - 1)) (by omega) (by omega)] at r2
       have hd2:=dedup_take (l:=l) (i:=i+j) (by omega) hj
       rw [show i+j - 1=i+(j - 1) by omega] at hd2
       by_cases hq:l.getD (i+(j - 1)) []=l.getD (i+j) []
       ·rw [if_pos hq] at hd2
        rw [hq] at r2
        simp (config:={maxSteps:=1000000}) (disch:=((try simp only [awL]);omega)) only [QR,QS,QT,QU,QV,QW,QX,QY,QZ,Q0,Q1,Q2,sR,j3,e2,r1,r2,beq_self_eq_true,↓awU,awV,awF,Qa,Qb,Qc,Qd,forall_const,↓reduceIte,↓reduceDIte,↓Qe,Qf,Qg,Qh,Qi,Qj,Qk,Ql,Qm,Qn,Qo,Qp,Qq,Qr,Qs,implies_true,Qt,Qu,Qv,Qw,Qx,Qy,Qz,QA,QB,QC,QD,QE,QF,QG,QH,QI,QJ,QK,QL,QM,QN,QO,QP,QQ]
        exact ⟨by rfl,(j+1,k,R),⟨by simp only;omega,hj,j3,by simp only;rw [← Nat.add_assoc,hd2];exact j4,by simp only;rw [← Nat.add_assoc,hd2];exact j5,by simp only;omega,fun q a b=>j7 q (by simp only at a;omega) b⟩,by simp only;omega,⟨[some 0],rfl,by simp,by simp [setsA,keepA,SWeak,AWeak],by simp [HWeak,BWeak,SWeak,AWeak]⟩⟩
       ·rw [if_neg hq] at hd2
        have hne:(l.getD (i+j) [] == l.getD (i+(j - 1)) [])=false:=by simpa using fun q=>hq q.symm
        have hk:k<R.length:=by omega
        have ht:(R.set k (l.getD (i+j) [])).take (k+1)=R.take k++[l.getD (i+j) []]:=by
         rw [List.take_add_one,List.getElem?_set_self hk,List.take_set_of_le (Nat.le_refl _)];rfl
        simp (config:={maxSteps:=1000000}) (disch:=((try simp only [awL]);omega)) only [QR,QS,QT,QU,QV,QW,QX,QY,QZ,Q0,Q1,Q2,sR,j3,e2,r1,r2,hne,strs_set,↓awU,awV,awF,Qa,Qb,Qc,Qd,forall_const,↓reduceIte,↓reduceDIte,↓Qe,Qf,Qg,Qh,Qi,Qj,Qk,Ql,Qm,Qn,Qo,Qp,Qq,Qr,Qs,implies_true,Qt,Qu,Qv,Qw,Qx,Qy,Qz,QA,QB,QC,QD,QE,QF,QG,QH,QI,QJ,QK,QL,QM,QN,QO,QP,QQ]
        exact ⟨by rfl,(j+1,k+1,R.set k (l.getD (i+j) [])),⟨by simp only;omega,hj,by simp only [List.length_set];exact j3,by simp only;rw [← Nat.add_assoc,hd2,List.length_append,← j4];rfl,by simp only;rw [← Nat.add_assoc,hd2,ht,j5],by simp only;omega,fun q a b=>by
         simp only at a
         rw [List.getD_eq_getElem?_getD,List.getElem?_set_ne (by omega),← List.getD_eq_getElem?_getD]
         exact j7 q (by omega) b⟩,by simp only;omega,⟨[some 0],rfl,by simp,by simp [setsA,keepA,SWeak,AWeak],by simp [HWeak,BWeak,SWeak,AWeak]⟩⟩
      ·have hjl:i+j=l.length:=by omega
       rw [hjl,List.take_length] at j4 j5
       have hrow:(strs R).take k++zerosD [.str .empty] (l.length - k)++(strs R).drop l.length=strs (cpt l):=by
        rw [List.drop_of_length_le (by omega),List.append_nil,zeros_strs,strs_app,j5]
        unfold cpt
        rw [← j4]
       have hkl:k+(l.length - k)=l.length:=by omega
       rw [← j4]
       simp (config:={maxSteps:=1000000}) (disch:=((try simp only [awL]);omega)) only [QR,QS,QT,QU,QV,QW,QX,QY,QZ,Q0,Q1,Q2,sR,j3,hkl,Nat.mul_one,hrow,↓awU,awV,awF,Qa,Qb,Qc,Qd,forall_const,↓reduceIte,↓reduceDIte,↓Qe,Qf,Qg,Qh,Qi,Qj,Qk,Ql,Qm,Qn,Qo,Qp,Qq,Qr,Qs,implies_true,Qt,Qu,Qv,Qw,Qx,Qy,Qz,QA,QB,QC,QD,QE,QF,QG,QH,QI,QJ,QK,QL,QM,QN,QO,QP,QQ]
       first
       | exact ⟨[some 0],rfl,by simp,by simp [HWeak,BWeak,SWeak,AWeak],.inl (by simp [AWeak,SWeak])⟩
       | trace_state
    ·rw [if_neg he,h4] at hd
     have hne:(l.getD i [] == l.getD (i - 1) [])=false:=by simpa using fun q=>he q.symm
     have hd2:dedup (l.take (i+1))=l.take (i+1):=by
      rw [hd,List.take_add_one,List.getElem?_eq_getElem h,List.getD_eq_getElem?_getD,List.getElem?_eq_getElem h];rfl
     simp (config:={maxSteps:=1000000}) (disch:=((try simp only [awL]);omega)) only [QR,QS,QT,QU,QV,QW,QX,QY,QZ,Q0,Q1,Q2,sl,e1,g1,g2,hne,↓awU,awV,awF,Qa,Qb,Qc,Qd,forall_const,↓reduceIte,↓reduceDIte,↓Qe,Qf,Qg,Qh,Qi,Qj,Qk,Ql,Qm,Qn,Qo,Qp,Qq,Qr,Qs,implies_true,Qt,Qu,Qv,Qw,Qx,Qy,Qz,QA,QB,QC,QD,QE,QF,QG,QH,QI,QJ,QK,QL,QM,QN,QO,QP,QQ]
     exact ⟨by rfl,i+1,⟨by omega,h,hd2⟩,by simp only;omega,⟨[some 0],rfl,by simp,by simp [setsA,keepA,SWeak,AWeak],by simp [HWeak,BWeak,SWeak,AWeak]⟩⟩
   ·obtain rfl:i=l.length:=by omega
    rw [List.take_length] at h4
    have e:cpt l=l:=by unfold cpt;rw [h4];simp
    rw [h4,e]
    simp (config:={maxSteps:=1000000}) (disch:=((try simp only [awL]);omega)) only [QR,QS,QT,QU,QV,QW,QX,QY,QZ,Q0,Q1,Q2,sl,↓awU,awV,awF,Qa,Qb,Qc,Qd,forall_const,↓reduceIte,↓reduceDIte,↓Qe,Qf,Qg,Qh,Qi,Qj,Qk,Ql,Qm,Qn,Qo,Qp,Qq,Qr,Qs,implies_true,Qt,Qu,Qv,Qw,Qx,Qy,Qz,QA,QB,QC,QD,QE,QF,QG,QH,QI,QJ,QK,QL,QM,QN,QO,QP,QQ]
    exact ⟨[some 0],rfl,by simp,by simp [HWeak,BWeak,SWeak,AWeak],.inl (by simp [AWeak,SWeak])⟩
end Go.Proofs.YtkgbbdoeodmkgaaGreatDoor.Dst
namespace Go.Proofs.YtkgbbdoeodmkgaaGreatDoor.Dst
open Go Go.Proofs Go.Abs
variable {G:Globals}
def MY:Muts:=fun k=>k == 3000000
theorem MY_n {k:Nat} (h:k<3000000):MY k=false:=by
 simp only [MY,beq_eq_false_iff_ne];exact Nat.ne_of_lt h
theorem Tdo_cons {x:D} {r:List D} {t:List (D × Bool)} (h:Tdo (x::r) t):(∃ t',t=(x,true)::t'∧Tdo r t')∨t=[(x,false)]:=by
 match t,h with
 | (z,true)::t,h=>exact .inl ⟨t,by rw [h.1],h.2⟩
 | (z,false)::t,h=>exact .inr (by rw [h.1,h.2])
theorem Tdo_nil {t:List (D × Bool)} (h:Tdo [] t):t=[]:=by
 match t,h with
 | [],_=>rfl
theorem values1_spec (l:List (List UInt8)) (full:Bool) (hl:l.length≤100000):IterC Tryz.prog G 97 [.ptr 1 0] [.box [.d (Ss l full)]] (strs l):=by
 refine IterC.body (M:=MY) hmix Tryz.func97 rfl go97 ?_
 intro lp J todo hJ hT
 have sl:=@strs_length l
 simp (config:={maxSteps:=1000000}) (disch:=((try simp only [awL]);omega)) only [QR,QS,QT,QU,QV,QW,QX,QY,QZ,Q0,Q1,Q2,sl,Ss,MY_n,Tryz.f97,↓awU,awV,awF,Qa,Qb,Qc,Qd,forall_const,↓reduceIte,↓reduceDIte,↓Qe,Qf,Qg,Qh,Qi,Qj,Qk,Ql,Qm,Qn,Qo,Qp,Qq,Qr,Qs,implies_true,Qt,Qu,Qv,Qw,Qx,Qy,Qz,QA,QB,QC,QD,QE,QF,QG,QH,QI,QJ,QK,QL,QM,QN,QO,QP,QQ]
 refine LoopC.fr 99 (α:=Nat × List (D × Bool)) (fun x=>l.length - x.1) (fun x=>[(7,.d (.int .i64 x.1))]) (fun x=>[.ext J x.2,.box [.d (.sl l.length full (strs l))]]) (fun x=>x.1≤l.length∧Tdo ((strs l).drop x.1) x.2) (0,todo) ⟨Nat.zero_le _,hT⟩ ?_ ?_
 ·exact ⟨[some 0,some 1],rfl,by simp,by simp [setsA,keepA,SWeak,AWeak],by simp [HWeak,BWeak,SWeak,AWeak]⟩
 ·rintro ⟨i,t⟩ ⟨h1,h2⟩
  simp only at h1 h2
  simp only [awK,Nat.reduceMod,Nat.reduceDiv,reduceIte]
  rcases Nat.lt_or_ge i l.length with h | h
  ·have e:(strs l).drop i=S (l.getD i [])::(strs l).drop (i+1):=by
    rw [List.drop_eq_getElem_cons (by omega)]
    simp [strs,h]
   rw [e] at h2
   have g:=strs_getD h
   rcases Tdo_cons h2 with ⟨t',rfl,h3⟩ | rfl
   ·simp (config:={maxSteps:=1000000}) (disch:=((try simp only [awL]);omega)) only [QR,QS,QT,QU,QV,QW,QX,QY,QZ,Q0,Q1,Q2,sl,g,MY_n,↓awU,awV,awF,Qa,Qb,Qc,Qd,forall_const,↓reduceIte,↓reduceDIte,↓Qe,Qf,Qg,Qh,Qi,Qj,Qk,Ql,Qm,Qn,Qo,Qp,Qq,Qr,Qs,implies_true,Qt,Qu,Qv,Qw,Qx,Qy,Qz,QA,QB,QC,QD,QE,QF,QG,QH,QI,QJ,QK,QL,QM,QN,QO,QP,QQ]
    refine yieldK.by rfl hJ rfl rfl ?_
    simp (config:={maxSteps:=1000000}) (disch:=((try simp only [awL]);omega)) only [QR,QS,QT,QU,QV,QW,QX,QY,QZ,Q0,Q1,Q2,sl,MY_n,↓awU,awV,awF,Qa,Qb,Qc,Qd,forall_const,↓reduceIte,↓reduceDIte,↓Qe,Qf,Qg,Qh,Qi,Qj,Qk,Ql,Qm,Qn,Qo,Qp,Qq,Qr,Qs,implies_true,Qt,Qu,Qv,Qw,Qx,Qy,Qz,QA,QB,QC,QD,QE,QF,QG,QH,QI,QJ,QK,QL,QM,QN,QO,QP,QQ]
    exact ⟨(i+1,t'),⟨h,h3⟩,by simp only;omega,⟨[some 0,some 1],rfl,by simp,by simp [setsA,keepA,SWeak,AWeak],by simp [HWeak,BWeak,SWeak,AWeak]⟩⟩
   ·simp (config:={maxSteps:=1000000}) (disch:=((try simp only [awL]);omega)) only [QR,QS,QT,QU,QV,QW,QX,QY,QZ,Q0,Q1,Q2,sl,g,MY_n,↓awU,awV,awF,Qa,Qb,Qc,Qd,forall_const,↓reduceIte,↓reduceDIte,↓Qe,Qf,Qg,Qh,Qi,Qj,Qk,Ql,Qm,Qn,Qo,Qp,Qq,Qr,Qs,implies_true,Qt,Qu,Qv,Qw,Qx,Qy,Qz,QA,QB,QC,QD,QE,QF,QG,QH,QI,QJ,QK,QL,QM,QN,QO,QP,QQ]
    refine yieldK.by rfl hJ rfl rfl ?_
    simp (config:={maxSteps:=1000000}) (disch:=((try simp only [awL]);omega)) only [QR,QS,QT,QU,QV,QW,QX,QY,QZ,Q0,Q1,Q2,sl,MY_n,↓awU,awV,awF,Qa,Qb,Qc,Qd,forall_const,↓reduceIte,↓reduceDIte,↓Qe,Qf,Qg,Qh,Qi,Qj,Qk,Ql,Qm,Qn,Qo,Qp,Qq,Qr,Qs,implies_true,Qt,Qu,Qv,Qw,Qx,Qy,Qz,QA,QB,QC,QD,QE,QF,QG,QH,QI,QJ,QK,QL,QM,QN,QO,QP,QQ]
    exact ⟨[some 0],rfl,by simp,by simp [HWeak,BWeak,SWeak,AWeak],.inl (by simp [AWeak,SWeak])⟩
  ·have e:(strs l).drop i=[]:=List.drop_of_length_le (by omega)
   rw [e] at h2
   rw [Tdo_nil h2]
   simp (config:={maxSteps:=1000000}) (disch:=((try simp only [awL]);omega)) only [QR,QS,QT,QU,QV,QW,QX,QY,QZ,Q0,Q1,Q2,sl,MY_n,↓awU,awV,awF,Qa,Qb,Qc,Qd,forall_const,↓reduceIte,↓reduceDIte,↓Qe,Qf,Qg,Qh,Qi,Qj,Qk,Ql,Qm,Qn,Qo,Qp,Qq,Qr,Qs,implies_true,Qt,Qu,Qv,Qw,Qx,Qy,Qz,QA,QB,QC,QD,QE,QF,QG,QH,QI,QJ,QK,QL,QM,QN,QO,QP,QQ]
   exact ⟨[some 0],rfl,by simp,by simp [HWeak,BWeak,SWeak,AWeak],.inl (by simp [AWeak,SWeak])⟩
theorem values_spec (l:List (List UInt8)) (full:Bool):Ctr Tryz.prog G 63 [.d (Ss l full)] [] (.fn (.func 97) [] [.ptr 0 0]) [.box [.d (Ss l full)]]:=by
 refine Ctr.body (M:=M0) hmix Tryz.func63 rfl go63 ?_
 simp (config:={maxSteps:=1000000}) (disch:=((try simp only [awL]);omega)) only [QR,QS,QT,QU,QV,QW,QX,QY,QZ,Q0,Q1,Q2,Ss,Tryz.f63,↓awU,awV,awF,Qa,Qb,Qc,Qd,forall_const,↓reduceIte,↓reduceDIte,↓Qe,Qf,Qg,Qh,Qi,Qj,Qk,Ql,Qm,Qn,Qo,Qp,Qq,Qr,Qs,implies_true,Qt,Qu,Qv,Qw,Qx,Qy,Qz,QA,QB,QC,QD,QE,QF,QG,QH,QI,QJ,QK,QL,QM,QN,QO,QP,QQ]
 exact ⟨[some 0],rfl,by simp,by simp [HWeak,BWeak,SWeak,AWeak],.inl (by simp [AWeak,SWeak])⟩
theorem bl_lt:∀ {x y:List UInt8},bl x y=true↔x<y
 | [],[]=>by simp [bl,Op.bytesLess]
 | [],b::y=>by simp [bl,Op.bytesLess]
 | a::x,[]=>by simp [bl,Op.bytesLess]
 | a::x,b::y=>by
   rw [bl_cons,List.cons_lt_cons_iff,UInt8.lt_iff_toNat_lt,bl_lt (x:=x) (y:=y)]
theorem srt_sorted (l:List (List UInt8)):(srt l).Pairwise (fun x y=>bl y x=false):=by
 have h:=List.pairwise_mergeSort (le:=fun x y:List UInt8=>decide (x≤y)) (fun a b c h1 h2=>by simp at *;exact List.le_trans h1 h2) (fun a b=>by simp;exact List.le_total a b) l
 refine h.imp fun {x y} h=>?_
 simp only [decide_eq_true_eq] at h
 cases hb:bl y x with
 | false=>rfl
 | true=>exact absurd (bl_lt.1 hb) (by simpa using h)
def MSt:Muts:=fun k=>k == 96 || (k == 61 || k == 124)
theorem MSt_n {k:Nat} (h:2000000≤k):MSt k=false:=by
 simp only [MSt,Bool.or_eq_false_iff,beq_eq_false_iff_ne]
 exact ⟨Nat.ne_of_gt (Nat.lt_of_lt_of_le (by decide) h),Nat.ne_of_gt (Nat.lt_of_lt_of_le (by decide) h),Nat.ne_of_gt (Nat.lt_of_lt_of_le (by decide) h)⟩
set_option maxRecDepth 100000 in
theorem appendSeq_spec (l:List (List UInt8)) (full:Bool) (hl:l.length≤100000):Ctr Tryz.prog G 124 [.d (.sl 0 true []),.fn (.func 97) [] [.ptr 0 0]] [.box [.d (Ss l full)]] (.lsl 1 1 0 l.length) [.dead,.row false (strs l)]:=by
 refine Ctr.body (M:=M0) hmix Tryz.func124 rfl go124 ?_
 have sl:=@strs_length l
 simp (config:={maxSteps:=1000000}) (disch:=((try simp only [awL]);omega)) only [QR,QS,QT,QU,QV,QW,QX,QY,QZ,Q0,Q1,Q2,sl,Tryz.f124,↓awU,awV,awF,Qa,Qb,Qc,Qd,forall_const,↓reduceIte,↓reduceDIte,↓Qe,Qf,Qg,Qh,Qi,Qj,Qk,Ql,Qm,Qn,Qo,Qp,Qq,Qr,Qs,implies_true,Qt,Qu,Qv,Qw,Qx,Qy,Qz,QA,QB,QC,QD,QE,QF,QG,QH,QI,QJ,QK,QL,QM,QN,QO,QP,QQ]
 refine RangeC.all (α:=Unit) (values1_spec l full hl) [some 1,none] 0 [(2,.ptr 0 0)] (fun k _=>[.box [.lsl 1 1 0 k],.row false (strs (l.take k))]) (fun k _=>True) rfl rfl rfl rfl rfl rfl rfl (by simp) () trivial (by simp [setsA,keepA,SWeak,AWeak]) (by simp [HWeak,BWeak,SWeak,AWeak,strs]) (fun _ _=>⟨rfl,rfl⟩) ?_ ?_
 ·rintro k d ⟨⟩ hk hd -
  rw [strs_length] at hk
  obtain ⟨y,hy,rfl⟩:=strs_get hd
  have e:(l.take k).length=k:=by rw [List.length_take];omega
  have st:=@strs_length (l.take k)
  rw [e] at st
  simp only [awK,Nat.reduceMod,Nat.reduceDiv,reduceIte]
  simp (config:={maxSteps:=1000000}) (disch:=((try simp only [awL]);omega)) only [QR,QS,QT,QU,QV,QW,QX,QY,QZ,Q0,Q1,Q2,st,↓awU,awV,awF,Qa,Qb,Qc,Qd,forall_const,↓reduceIte,↓reduceDIte,↓Qe,Qf,Qg,Qh,Qi,Qj,Qk,Ql,Qm,Qn,Qo,Qp,Qq,Qr,Qs,implies_true,Qt,Qu,Qv,Qw,Qx,Qy,Qz,QA,QB,QC,QD,QE,QF,QG,QH,QI,QJ,QK,QL,QM,QN,QO,QP,QQ]
  have e2:strs (l.take k)++[D.str (bs y)]=strs (l.take (k+1)):=by
   rw [List.take_add_one,hy];simp [strs]
  rw [e2]
  exact RndE.mk (⟨[some 0,some 3],rfl,by simp,by simp [setsA,keepA,SWeak,AWeak],by simp [HWeak,BWeak,SWeak,AWeak]⟩:Weak 0 _ _ _ [.box [.lsl 1 1 0 (k+1)],.row false (strs (l.take (k+1)))]) ⟨(),rfl⟩
 ·rintro ⟨⟩ -
  simp only [awK,Nat.reduceMod,Nat.reduceDiv,reduceIte]
  rw [List.take_of_length_le (by rw [strs_length];exact Nat.le_refl _)]
  simp (config:={maxSteps:=1000000}) (disch:=((try simp only [awL]);omega)) only [QR,QS,QT,QU,QV,QW,QX,QY,QZ,Q0,Q1,Q2,sl,↓awU,awV,awF,Qa,Qb,Qc,Qd,forall_const,↓reduceIte,↓reduceDIte,↓Qe,Qf,Qg,Qh,Qi,Qj,Qk,Ql,Qm,Qn,Qo,Qp,Qq,Qr,Qs,implies_true,Qt,Qu,Qv,Qw,Qx,Qy,Qz,QA,QB,QC,QD,QE,QF,QG,QH,QI,QJ,QK,QL,QM,QN,QO,QP,QQ]
  exact ⟨[some 0,some 3],rfl,by simp,by simp [HWeak,BWeak,SWeak,AWeak],.inl (by simp [AWeak,SWeak])⟩
set_option maxRecDepth 100000 in
theorem collect_spec (l:List (List UInt8)) (full:Bool) (hl:l.length≤100000):Ctr Tryz.prog G 95 [.fn (.func 97) [] [.ptr 0 0]] [.box [.d (Ss l full)]] (.lsl 1 1 0 l.length) [.dead,.row false (strs l)]:=by
 refine Ctr.body (M:=MSt) hmix Tryz.func95 rfl go95 ?_
 have sl:=@strs_length l
 have m1:MSt 124=true:=rfl
 simp (config:={maxSteps:=1000000}) (disch:=((try simp only [awL]);omega)) only [QR,QS,QT,QU,QV,QW,QX,QY,QZ,Q0,Q1,Q2,sl,m1,MSt_n,Tryz.f95,↓awU,awV,awF,Qa,Qb,Qc,Qd,forall_const,↓reduceIte,↓reduceDIte,↓Qe,Qf,Qg,Qh,Qi,Qj,Qk,Ql,Qm,Qn,Qo,Qp,Qq,Qr,Qs,implies_true,Qt,Qu,Qv,Qw,Qx,Qy,Qz,QA,QB,QC,QD,QE,QF,QG,QH,QI,QJ,QK,QL,QM,QN,QO,QP,QQ]
 refine CallC.by (appendSeq_spec l full hl) rfl rfl (by simp) ?_
 simp (config:={maxSteps:=1000000}) (disch:=((try simp only [awL]);omega)) only [QR,QS,QT,QU,QV,QW,QX,QY,QZ,Q0,Q1,Q2,sl,m1,MSt_n,↓awU,awV,awF,Qa,Qb,Qc,Qd,forall_const,↓reduceIte,↓reduceDIte,↓Qe,Qf,Qg,Qh,Qi,Qj,Qk,Ql,Qm,Qn,Qo,Qp,Qq,Qr,Qs,implies_true,Qt,Qu,Qv,Qw,Qx,Qy,Qz,QA,QB,QC,QD,QE,QF,QG,QH,QI,QJ,QK,QL,QM,QN,QO,QP,QQ]
 exact ⟨[some 0,some 1],rfl,by simp,by simp [HWeak,BWeak,SWeak,AWeak],.inl (by simp [AWeak,SWeak])⟩
set_option maxRecDepth 100000 in
theorem sorted_spec (l:List (List UInt8)) (full:Bool) (hl:l.length≤100000):Ctr Tryz.prog G 62 [.fn (.func 97) [] [.ptr 0 0]] [.box [.d (Ss l full)]] (.lsl 1 1 0 l.length) [.dead,.row false (strs (srt l))]:=by
 refine Ctr.body (M:=MSt) hmix Tryz.func62 rfl go62 ?_
 have sl:=@strs_length l
 have m1:MSt 96=true:=rfl
 have m2:MSt 95=false:=rfl
 simp (config:={maxSteps:=1000000}) (disch:=((try simp only [awL]);omega)) only [QR,QS,QT,QU,QV,QW,QX,QY,QZ,Q0,Q1,Q2,sl,m1,m2,MSt_n,Tryz.f62,↓awU,awV,awF,Qa,Qb,Qc,Qd,forall_const,↓reduceIte,↓reduceDIte,↓Qe,Qf,Qg,Qh,Qi,Qj,Qk,Ql,Qm,Qn,Qo,Qp,Qq,Qr,Qs,implies_true,Qt,Qu,Qv,Qw,Qx,Qy,Qz,QA,QB,QC,QD,QE,QF,QG,QH,QI,QJ,QK,QL,QM,QN,QO,QP,QQ]
 refine CallC.by (collect_spec l full hl) rfl rfl (by simp) ?_
 simp (config:={maxSteps:=1000000}) (disch:=((try simp only [awL]);omega)) only [QR,QS,QT,QU,QV,QW,QX,QY,QZ,Q0,Q1,Q2,sl,m1,m2,MSt_n,↓awU,awV,awF,Qa,Qb,Qc,Qd,forall_const,↓reduceIte,↓reduceDIte,↓Qe,Qf,Qg,Qh,Qi,Qj,Qk,Ql,Qm,Qn,Qo,Qp,Qq,Qr,Qs,implies_true,Qt,Qu,Qv,Qw,Qx,Qy,Qz,QA,QB,QC,QD,QE,QF,QG,QH,QI,QJ,QK,QL,QM,QN,QO,QP,QQ]
 refine CallC.by (sort_spec l hl) rfl rfl (by simp) ?_
 simp (config:={maxSteps:=1000000}) (disch:=((try simp only [awL]);omega)) only [QR,QS,QT,QU,QV,QW,QX,QY,QZ,Q0,Q1,Q2,sl,m1,m2,MSt_n,↓awU,awV,awF,Qa,Qb,Qc,Qd,forall_const,↓reduceIte,↓reduceDIte,↓Qe,Qf,Qg,Qh,Qi,Qj,Qk,Ql,Qm,Qn,Qo,Qp,Qq,Qr,Qs,implies_true,Qt,Qu,Qv,Qw,Qx,Qy,Qz,QA,QB,QC,QD,QE,QF,QG,QH,QI,QJ,QK,QL,QM,QN,QO,QP,QQ]
 exact ⟨[some 0,some 1],rfl,by simp,by simp [HWeak,BWeak,SWeak,AWeak],.inl (by simp [AWeak,SWeak])⟩
theorem cpt_cut (l:List (List UInt8)):cut (strs (cpt l)) 0 (dedup l).length=strs (dedup l):=by
 simp [cut,cpt,strs]
theorem set_spec (l:List (List UInt8)) (full:Bool) (hl:l.length≤100000):Ctr Tryz.prog G 46 [.d (Ss l full)] [] (.d (Ss (setL l) false)) []:=by
 refine Ctr.pure (M:=MSt) hmix Tryz.func46 rfl go46 ?_
 have sl:=@strs_length l
 have m1:MSt 61=true:=rfl
 have m2:MSt 63=false:=rfl
 have m3:MSt 62=false:=rfl
 have hs:=@srt_length l
 have e:dedup (srt l)=setL l:=by
  exact setL_dedup (srt_sorted l) (fun t=>by simp [srt])
 have cc:=cpt_cut (srt l)
 have hc:=compact_spec (G:=G) (srt l) (by omega)
 rw [e] at cc hc
 simp (config:={maxSteps:=1000000}) (disch:=((try simp only [awL]);omega)) only [QR,QS,QT,QU,QV,QW,QX,QY,QZ,Q0,Q1,Q2,sl,m1,m2,m3,MSt_n,Tryz.f46,↓awU,awV,awF,Qa,Qb,Qc,Qd,forall_const,↓reduceIte,↓reduceDIte,↓Qe,Qf,Qg,Qh,Qi,Qj,Qk,Ql,Qm,Qn,Qo,Qp,Qq,Qr,Qs,implies_true,Qt,Qu,Qv,Qw,Qx,Qy,Qz,QA,QB,QC,QD,QE,QF,QG,QH,QI,QJ,QK,QL,QM,QN,QO,QP,QQ]
 refine CallC.by (values_spec l false) rfl rfl (by simp) ?_
 simp (config:={maxSteps:=1000000}) (disch:=((try simp only [awL]);omega)) only [QR,QS,QT,QU,QV,QW,QX,QY,QZ,Q0,Q1,Q2,sl,m1,m2,m3,MSt_n,↓awU,awV,awF,Qa,Qb,Qc,Qd,forall_const,↓reduceIte,↓reduceDIte,↓Qe,Qf,Qg,Qh,Qi,Qj,Qk,Ql,Qm,Qn,Qo,Qp,Qq,Qr,Qs,implies_true,Qt,Qu,Qv,Qw,Qx,Qy,Qz,QA,QB,QC,QD,QE,QF,QG,QH,QI,QJ,QK,QL,QM,QN,QO,QP,QQ]
 refine CallC.by (sorted_spec l false hl) rfl rfl (by simp) ?_
 simp (config:={maxSteps:=1000000}) (disch:=((try simp only [awL]);omega)) only [QR,QS,QT,QU,QV,QW,QX,QY,QZ,Q0,Q1,Q2,sl,m1,m2,m3,MSt_n,↓awU,awV,awF,Qa,Qb,Qc,Qd,forall_const,↓reduceIte,↓reduceDIte,↓Qe,Qf,Qg,Qh,Qi,Qj,Qk,Ql,Qm,Qn,Qo,Qp,Qq,Qr,Qs,implies_true,Qt,Qu,Qv,Qw,Qx,Qy,Qz,QA,QB,QC,QD,QE,QF,QG,QH,QI,QJ,QK,QL,QM,QN,QO,QP,QQ]
 rw [hs] at hc
 refine CallC.by hc rfl rfl (by simp) ?_
 simp (config:={maxSteps:=1000000}) (disch:=((try simp only [awL]);omega)) only [QR,QS,QT,QU,QV,QW,QX,QY,QZ,Q0,Q1,Q2,sl,cc,strs_length,Ss,m1,m2,m3,MSt_n,↓awU,awV,awF,Qa,Qb,Qc,Qd,forall_const,↓reduceIte,↓reduceDIte,↓Qe,Qf,Qg,Qh,Qi,Qj,Qk,Ql,Qm,Qn,Qo,Qp,Qq,Qr,Qs,implies_true,Qt,Qu,Qv,Qw,Qx,Qy,Qz,QA,QB,QC,QD,QE,QF,QG,QH,QI,QJ,QK,QL,QM,QN,QO,QP,QQ]
end Go.Proofs.YtkgbbdoeodmkgaaGreatDoor.Dst
namespace Go.Proofs.YtkgbbdoeodmkgaaGreatDoor
open Go Go.Proofs Go.Abs
variable {G:Globals}
def okMk (m:List UInt8):Bool:=!decide (m=[]) && (decide (m.length≤1024) && (Lib.validD m && (!decide ((124:UInt8)∈m) && decide (Lib.trimB m 32=m))))
def validM (l:Row):Bool:=l.all okMk && (decide (l.length≤16) && decide l.Nodup)
theorem asc_nodup {l:List (List UInt8)} (h:Dst.Asc l):l.Nodup:=h.imp fun {a b} h e=>by subst e;rw [Dst.bl_irrefl] at h;cases h
theorem nodup_sub_le:∀ {l out:List (List UInt8)},l.Nodup→(∀ s∈l,s∈out)→l.length≤out.length
 | [],_,_,_=>Nat.zero_le _
 | x::l,out,hn,hs=>by
   have hx:=hs x (by simp)
   have hn:=List.nodup_cons.1 hn
   have:=nodup_sub_le (l:=l) (out:=out.erase x) hn.2 (fun s h=>by
    have:s≠x:=fun e=>hn.1 (e▸h)
    exact (List.mem_erase_of_ne this).2 (hs s (by simp [h])))
   rw [List.length_erase_of_mem hx] at this
   have:0<out.length:=List.length_pos_of_mem hx
   rw [List.length_cons];omega
theorem nodup_of_len:∀ {s l:List (List UInt8)},s.Nodup→(∀ x∈s,x∈l)→l.length≤s.length→l.Nodup
 | [],l,_,_,hl=>by
   have:l=[]:=List.length_eq_zero_iff.1 (by simpa using hl)
   rw [this];exact List.nodup_nil
 | a::s,l,hn,hs,hl=>by
   have ha:=hs a (by simp)
   have hn':=List.nodup_cons.1 hn
   have len:=List.length_erase_of_mem ha
   have sub:∀ x∈s,x∈l.erase a:=fun x hx=>by
    have:x≠a:=fun e=>hn'.1 (e▸hx)
    exact (List.mem_erase_of_ne this).2 (hs x (by simp [hx]))
   have ih:=nodup_of_len (l:=l.erase a) hn'.2 sub (by rw [len];rw [List.length_cons] at hl;omega)
   have na:a∉l.erase a:=fun h=>by
    have:=nodup_sub_le (l:=a::s) (out:=l.erase a) hn (fun x hx=>by
     rcases List.mem_cons.1 hx with e | hx
     ·exact e▸h
     ·exact sub x hx)
    have p:=List.length_pos_of_mem ha
    rw [len,List.length_cons] at this
    rw [List.length_cons] at hl
    omega
   exact (List.perm_cons_erase ha).nodup_iff.2 (List.nodup_cons.2 ⟨na,ih⟩)
theorem setL_nodup (l:Row):(Dst.setL l).length=l.length↔l.Nodup:=by
 have a:=asc_nodup (Dst.asc_setL l)
 constructor
 ·intro h
  exact nodup_of_len a (fun x hx=>Dst.mem_setL.1 hx) (Nat.le_of_eq h.symm)
 ·intro h
  exact Nat.le_antisymm (nodup_sub_le a fun x hx=>Dst.mem_setL.1 hx) (nodup_sub_le h fun x hx=>Dst.mem_setL.2 hx)
set_option maxHeartbeats 4000000 in
set_option maxRecDepth 100000 in
theorem nvalid1_spec (hT:HT G) (m:List UInt8) (hm:m.length≤1000000000):Ctr Tryz.prog G 43 [.d (S m)] [] (.d (.bool (!okMk m))) []:=by
 refine Ctr.pure (M:=M0) hmix Tryz.func43 rfl go43 ?_
 obtain ⟨r,hr⟩:∃ r,r=!okMk m:=⟨_,rfl⟩
 rw [← hr]
 unfold okMk at hr
 have tl:=trimB_len m
 by_cases e1:m=[]
 ·have e1':(m=[])=True:=eq_true e1
  rw [decide_eq_true e1] at hr
  subst hr
  simp (config:={maxSteps:=1000000}) (disch:=((try simp only [awL]);omega)) only [QR,QS,QT,QU,QV,QW,QX,QY,QZ,Q0,Q1,Q2,e1',Tryz.f43,↓awU,awV,awF,Qa,Qb,Qc,Qd,forall_const,↓reduceIte,↓reduceDIte,↓Qe,Qf,Qg,Qh,Qi,Qj,Qk,Ql,Qm,Qn,Qo,Qp,Qq,Qr,Qs,implies_true,Qt,Qu,Qv,Qw,Qx,Qy,Qz,QA,QB,QC,QD,QE,QF,QG,QH,QI,QJ,QK,QL,QM,QN,QO,QP,QQ]
  first | done | rfl
 ·have e1':(m=[])=False:=eq_false e1
  rw [decide_eq_false e1] at hr
  by_cases e2:m.length≤1024
  ·rw [decide_eq_true e2] at hr
   simp (config:={maxSteps:=1000000}) (disch:=((try simp only [awL]);omega)) only [QR,QS,QT,QU,QV,QW,QX,QY,QZ,Q0,Q1,Q2,e1',Tryz.f43,↓awU,awV,awF,Qa,Qb,Qc,Qd,forall_const,↓reduceIte,↓reduceDIte,↓Qe,Qf,Qg,Qh,Qi,Qj,Qk,Ql,Qm,Qn,Qo,Qp,Qq,Qr,Qs,implies_true,Qt,Qu,Qv,Qw,Qx,Qy,Qz,QA,QB,QC,QD,QE,QF,QG,QH,QI,QJ,QK,QL,QM,QN,QO,QP,QQ]
   refine CallC.of (tvalid_spec hT m (by omega)) (by rfl) ?_
   cases e3:Lib.validD m
   ·rw [e3] at hr
    subst hr
    simp (config:={maxSteps:=1000000}) (disch:=((try simp only [awL]);omega)) only [QR,QS,QT,QU,QV,QW,QX,QY,QZ,Q0,Q1,Q2,↓awU,awV,awF,Qa,Qb,Qc,Qd,forall_const,↓reduceIte,↓reduceDIte,↓Qe,Qf,Qg,Qh,Qi,Qj,Qk,Ql,Qm,Qn,Qo,Qp,Qq,Qr,Qs,implies_true,Qt,Qu,Qv,Qw,Qx,Qy,Qz,QA,QB,QC,QD,QE,QF,QG,QH,QI,QJ,QK,QL,QM,QN,QO,QP,QQ]
    first | done | rfl
   ·rw [e3] at hr
    simp (config:={maxSteps:=1000000}) (disch:=((try simp only [awL]);omega)) only [QR,QS,QT,QU,QV,QW,QX,QY,QZ,Q0,Q1,Q2,↓awU,awV,awF,Qa,Qb,Qc,Qd,forall_const,↓reduceIte,↓reduceDIte,↓Qe,Qf,Qg,Qh,Qi,Qj,Qk,Ql,Qm,Qn,Qo,Qp,Qq,Qr,Qs,implies_true,Qt,Qu,Qv,Qw,Qx,Qy,Qz,QA,QB,QC,QD,QE,QF,QG,QH,QI,QJ,QK,QL,QM,QN,QO,QP,QQ]
    refine CallC.of (contains1_spec m 124) (by rfl) ?_
    by_cases e4:(124:UInt8)∈m
    ·rw [decide_eq_true e4] at hr ⊢
     subst hr
     simp (config:={maxSteps:=1000000}) (disch:=((try simp only [awL]);omega)) only [QR,QS,QT,QU,QV,QW,QX,QY,QZ,Q0,Q1,Q2,↓awU,awV,awF,Qa,Qb,Qc,Qd,forall_const,↓reduceIte,↓reduceDIte,↓Qe,Qf,Qg,Qh,Qi,Qj,Qk,Ql,Qm,Qn,Qo,Qp,Qq,Qr,Qs,implies_true,Qt,Qu,Qv,Qw,Qx,Qy,Qz,QA,QB,QC,QD,QE,QF,QG,QH,QI,QJ,QK,QL,QM,QN,QO,QP,QQ]
     first | done | rfl
    ·rw [decide_eq_false e4] at hr ⊢
     simp (config:={maxSteps:=1000000}) (disch:=((try simp only [awL]);omega)) only [QR,QS,QT,QU,QV,QW,QX,QY,QZ,Q0,Q1,Q2,↓awU,awV,awF,Qa,Qb,Qc,Qd,forall_const,↓reduceIte,↓reduceDIte,↓Qe,Qf,Qg,Qh,Qi,Qj,Qk,Ql,Qm,Qn,Qo,Qp,Qq,Qr,Qs,implies_true,Qt,Qu,Qv,Qw,Qx,Qy,Qz,QA,QB,QC,QD,QE,QF,QG,QH,QI,QJ,QK,QL,QM,QN,QO,QP,QQ]
     refine CallC.of (ttrim_spec m (by omega)) (by rfl) ?_
     by_cases e5:Lib.trimB m 32=m
     ·have e5':(Lib.trimB m 32=m)=True:=eq_true e5
      rw [decide_eq_true e5] at hr
      subst hr
      simp (config:={maxSteps:=1000000}) (disch:=((try simp only [awL]);omega)) only [QR,QS,QT,QU,QV,QW,QX,QY,QZ,Q0,Q1,Q2,e5',↓awU,awV,awF,Qa,Qb,Qc,Qd,forall_const,↓reduceIte,↓reduceDIte,↓Qe,Qf,Qg,Qh,Qi,Qj,Qk,Ql,Qm,Qn,Qo,Qp,Qq,Qr,Qs,implies_true,Qt,Qu,Qv,Qw,Qx,Qy,Qz,QA,QB,QC,QD,QE,QF,QG,QH,QI,QJ,QK,QL,QM,QN,QO,QP,QQ]
      first | done | rfl
     ·have e5':(Lib.trimB m 32=m)=False:=eq_false e5
      rw [decide_eq_false e5] at hr
      subst hr
      simp (config:={maxSteps:=1000000}) (disch:=((try simp only [awL]);omega)) only [QR,QS,QT,QU,QV,QW,QX,QY,QZ,Q0,Q1,Q2,e5',↓awU,awV,awF,Qa,Qb,Qc,Qd,forall_const,↓reduceIte,↓reduceDIte,↓Qe,Qf,Qg,Qh,Qi,Qj,Qk,Ql,Qm,Qn,Qo,Qp,Qq,Qr,Qs,implies_true,Qt,Qu,Qv,Qw,Qx,Qy,Qz,QA,QB,QC,QD,QE,QF,QG,QH,QI,QJ,QK,QL,QM,QN,QO,QP,QQ]
      first | done | rfl
  ·rw [decide_eq_false e2] at hr
   subst hr
   simp (config:={maxSteps:=1000000}) (disch:=((try simp only [awL]);omega)) only [QR,QS,QT,QU,QV,QW,QX,QY,QZ,Q0,Q1,Q2,e1',Tryz.f43,↓awU,awV,awF,Qa,Qb,Qc,Qd,forall_const,↓reduceIte,↓reduceDIte,↓Qe,Qf,Qg,Qh,Qi,Qj,Qk,Ql,Qm,Qn,Qo,Qp,Qq,Qr,Qs,implies_true,Qt,Qu,Qv,Qw,Qx,Qy,Qz,QA,QB,QC,QD,QE,QF,QG,QH,QI,QJ,QK,QL,QM,QN,QO,QP,QQ]
   first | done | rfl
theorem any_all {l:Row}:l.any (fun m=>!okMk m)=!l.all okMk:=by
 induction l with
 | nil=>rfl
 | cons x l ih=>rw [List.any_cons,List.all_cons,ih,Bool.not_and]
set_option maxHeartbeats 4000000 in
set_option maxRecDepth 100000 in
theorem nvalid_spec (hT:HT G) (l:Row) (full:Bool) (hl:l.length≤100000) (hs:∀ s∈l,s.length≤1000000000):Ctr Tryz.prog G 31 [.d (Ss l full)] [] (.d (.bool (validM l))) []:=by
 refine Ctr.pure (M:=M0) hmix Tryz.func31 rfl go31 ?_
 obtain ⟨r,hr⟩:∃ r,r=validM l:=⟨_,rfl⟩
 rw [← hr]
 unfold validM at hr
 simp (config:={maxSteps:=1000000}) (disch:=((try simp only [awL]);omega)) only [QR,QS,QT,QU,QV,QW,QX,QY,QZ,Q0,Q1,Q2,Tryz.f31,↓awU,awV,awF,Qa,Qb,Qc,Qd,forall_const,↓reduceIte,↓reduceDIte,↓Qe,Qf,Qg,Qh,Qi,Qj,Qk,Ql,Qm,Qn,Qo,Qp,Qq,Qr,Qs,implies_true,Qt,Qu,Qv,Qw,Qx,Qy,Qz,QA,QB,QC,QD,QE,QF,QG,QH,QI,QJ,QK,QL,QM,QN,QO,QP,QQ]
 refine CallC.of (containsFunc_spec 43 (fun m=>!okMk m) l false (by omega) (fun s h=>nvalid1_spec hT s (hs s h))) (by rfl) ?_
 rw [any_all]
 cases e1:l.all okMk
 ·rw [e1] at hr
  subst hr
  simp (config:={maxSteps:=1000000}) (disch:=((try simp only [awL]);omega)) only [QR,QS,QT,QU,QV,QW,QX,QY,QZ,Q0,Q1,Q2,Bool.not_false,↓awU,awV,awF,Qa,Qb,Qc,Qd,forall_const,↓reduceIte,↓reduceDIte,↓Qe,Qf,Qg,Qh,Qi,Qj,Qk,Ql,Qm,Qn,Qo,Qp,Qq,Qr,Qs,implies_true,Qt,Qu,Qv,Qw,Qx,Qy,Qz,QA,QB,QC,QD,QE,QF,QG,QH,QI,QJ,QK,QL,QM,QN,QO,QP,QQ]
  first | done | rfl
 ·rw [e1,Bool.true_and] at hr
  by_cases e2:l.length≤16
  ·rw [decide_eq_true e2,Bool.true_and] at hr
   simp (config:={maxSteps:=1000000}) (disch:=((try simp only [awL]);omega)) only [QR,QS,QT,QU,QV,QW,QX,QY,QZ,Q0,Q1,Q2,Bool.not_true,↓awU,awV,awF,Qa,Qb,Qc,Qd,forall_const,↓reduceIte,↓reduceDIte,↓Qe,Qf,Qg,Qh,Qi,Qj,Qk,Ql,Qm,Qn,Qo,Qp,Qq,Qr,Qs,implies_true,Qt,Qu,Qv,Qw,Qx,Qy,Qz,QA,QB,QC,QD,QE,QF,QG,QH,QI,QJ,QK,QL,QM,QN,QO,QP,QQ]
   refine CallC.of (Dst.set_spec l false hl) (by rfl) ?_
   have h1:=setL_nodup l
   have h2:r=decide ((Dst.setL l).length=l.length):=by rw [hr];exact decide_eq_decide.2 h1.symm
   rw [h2]
   generalize Dst.setL l=q at *
   simp (config:={maxSteps:=1000000}) (disch:=((try simp only [awL]);omega)) only [QR,QS,QT,QU,QV,QW,QX,QY,QZ,Q0,Q1,Q2,↓awU,awV,awF,Qa,Qb,Qc,Qd,forall_const,↓reduceIte,↓reduceDIte,↓Qe,Qf,Qg,Qh,Qi,Qj,Qk,Ql,Qm,Qn,Qo,Qp,Qq,Qr,Qs,implies_true,Qt,Qu,Qv,Qw,Qx,Qy,Qz,QA,QB,QC,QD,QE,QF,QG,QH,QI,QJ,QK,QL,QM,QN,QO,QP,QQ]
   first | done | rfl | exact decide_eq_decide.2 (by omega)
  ·rw [decide_eq_false e2,Bool.false_and] at hr
   subst hr
   simp (config:={maxSteps:=1000000}) (disch:=((try simp only [awL]);omega)) only [QR,QS,QT,QU,QV,QW,QX,QY,QZ,Q0,Q1,Q2,Bool.not_true,↓awU,awV,awF,Qa,Qb,Qc,Qd,forall_const,↓reduceIte,↓reduceDIte,↓Qe,Qf,Qg,Qh,Qi,Qj,Qk,Ql,Qm,Qn,Qo,Qp,Qq,Qr,Qs,implies_true,Qt,Qu,Qv,Qw,Qx,Qy,Qz,QA,QB,QC,QD,QE,QF,QG,QH,QI,QJ,QK,QL,QM,QN,QO,QP,QQ]
   first | done | rfl
theorem validM_take {l:Row} {i:Nat} (h:i<l.length) (h1:(l.take i).all okMk=true) (h2:(l.take i).Nodup) (h3:okMk (l.getD i [])=true) (h4:l.getD i []∉l.take i):(l.take (i+1)).all okMk=true∧(l.take (i+1)).Nodup:=by
 rw [List.take_add_one,getD_some (d:=[]) h]
 refine ⟨by rw [List.all_append,h1,Bool.true_and];show (okMk (l.getD i []) && true)=true;rw [h3];rfl,?_⟩
 rw [Option.toList_some,List.nodup_append]
 refine ⟨h2,by simp,fun a ha b hb=>?_⟩
 rw [List.mem_singleton.1 hb]
 exact fun e=>h4 (e▸ha)
theorem validM_bad {l:Row} {i:Nat} (h:i<l.length) (h3:okMk (l.getD i [])=false):validM l=false:=by
 unfold validM
 have:l.all okMk=false:=by
  cases e:l.all okMk with
  | false=>rfl
  | true=>rw [List.all_eq_true.1 e _ (memD (d:=[]) h)] at h3;cases h3
 rw [this];rfl
theorem validM_dup {l:Row} {i:Nat} (h:i<l.length) (h4:l.getD i []∈l.take i):validM l=false:=by
 unfold validM
 have:¬ l.Nodup:=fun hn=>by
  have e:l=l.take i++l.drop i:=(List.take_append_drop i l).symm
  rw [e,List.nodup_append] at hn
  refine hn.2.2 _ h4 _ ?_ rfl
  rw [List.drop_eq_getElem_cons h,List.getD_eq_getElem?_getD,List.getElem?_eq_getElem h]
  exact List.mem_cons_self
 rw [decide_eq_false this,Bool.and_false,Bool.and_false]
theorem mem_take1 {α:Type} [DecidableEq α] {l:List α} {i:Nat} {d x:α} (h:i<l.length):x∈l.take (i+1)↔x∈l.take i∨x=l.getD i d:=by
 rw [List.take_add_one,getD_some (d:=d) h];simp
set_option maxHeartbeats 16000000 in
set_option maxRecDepth 100000 in
theorem rnvalid_spec (hT:HT G) (l:Row) (full:Bool) (hl:l.length≤100000) (hs:∀ s∈l,s.length≤1000000000):Ctr Tryz.prog G 38 [.d (Ss l full)] [] (.d (.bool (validM l))) []:=by
 refine Ctr.pure (M:=M0) hmix Tryz.func38 rfl go38 ?_
 obtain ⟨r,hr⟩:∃ r,r=validM l:=⟨_,rfl⟩
 rw [← hr]
 have sl:=@strs_length l
 simp (config:={maxSteps:=1000000}) (disch:=((try simp only [awL]);omega)) only [QR,QS,QT,QU,QV,QW,QX,QY,QZ,Q0,Q1,Q2,sl,Tryz.f38,↓awU,awV,awF,Qa,Qb,Qc,Qd,forall_const,↓reduceIte,↓reduceDIte,↓Qe,Qf,Qg,Qh,Qi,Qj,Qk,Ql,Qm,Qn,Qo,Qp,Qq,Qr,Qs,implies_true,Qt,Qu,Qv,Qw,Qx,Qy,Qz,QA,QB,QC,QD,QE,QF,QG,QH,QI,QJ,QK,QL,QM,QN,QO,QP,QQ]
 refine LoopC.fr 193 (α:=Nat) (fun i=>l.length - i) (fun i=>[(8,.d (.int .i64 (i:Nat)))]) (fun _=>[]) (fun i=>i≤l.length∧(l.take i).all okMk=true∧(l.take i).Nodup) 0 ⟨Nat.zero_le _,rfl,List.nodup_nil⟩ ?_ ?_
 ·exact ⟨[],rfl,by simp,by simp [setsA,keepA,SWeak,AWeak],by simp [HWeak,BWeak,SWeak,AWeak]⟩
 ·rintro i ⟨hi,ha,hn⟩
  simp only [awK,Nat.reduceMod,Nat.reduceDiv,reduceIte]
  rcases Nat.lt_or_ge i l.length with h | h
  ·have sg:=strs_getD h
   have bad:=validM_bad h
   have dup:=validM_dup h
   have nx:=validM_take h ha hn
   have ml:=hs _ (memD (d:=[]) h)
   have cu:cut (strs l) 0 i=strs (l.take i):=by unfold cut strs;rw [List.drop_zero,List.map_take]
   have tlen:(l.take i).length=i:=by rw [List.length_take];omega
   generalize l.getD i []=m at *
   have tl:=trimB_len m
   unfold okMk at bad nx
   by_cases e1:m=[]
   ·have e1':(m=[])=True:=eq_true e1
    have:r=false:=hr.trans (bad (by rw [decide_eq_true e1];rfl))
    subst this
    simp (config:={maxSteps:=1000000}) (disch:=((try simp only [awL]);omega)) only [QR,QS,QT,QU,QV,QW,QX,QY,QZ,Q0,Q1,Q2,sl,sg,e1',↓awU,awV,awF,Qa,Qb,Qc,Qd,forall_const,↓reduceIte,↓reduceDIte,↓Qe,Qf,Qg,Qh,Qi,Qj,Qk,Ql,Qm,Qn,Qo,Qp,Qq,Qr,Qs,implies_true,Qt,Qu,Qv,Qw,Qx,Qy,Qz,QA,QB,QC,QD,QE,QF,QG,QH,QI,QJ,QK,QL,QM,QN,QO,QP,QQ]
    first | done | rfl | exact ⟨by rfl,by rfl⟩
   ·have e1':(m=[])=False:=eq_false e1
    rw [decide_eq_false e1] at bad nx
    simp (config:={maxSteps:=1000000}) (disch:=((try simp only [awL]);omega)) only [QR,QS,QT,QU,QV,QW,QX,QY,QZ,Q0,Q1,Q2,sl,sg,e1',↓awU,awV,awF,Qa,Qb,Qc,Qd,forall_const,↓reduceIte,↓reduceDIte,↓Qe,Qf,Qg,Qh,Qi,Qj,Qk,Ql,Qm,Qn,Qo,Qp,Qq,Qr,Qs,implies_true,Qt,Qu,Qv,Qw,Qx,Qy,Qz,QA,QB,QC,QD,QE,QF,QG,QH,QI,QJ,QK,QL,QM,QN,QO,QP,QQ]
    refine CallC.of (rvalidS_spec hT m (by omega)) (by rfl) ?_
    cases e3:Lib.validD m
    ·have:r=false:=hr.trans (bad (by rw [e3];simp))
     subst this
     simp (config:={maxSteps:=1000000}) (disch:=((try simp only [awL]);omega)) only [QR,QS,QT,QU,QV,QW,QX,QY,QZ,Q0,Q1,Q2,sl,↓awU,awV,awF,Qa,Qb,Qc,Qd,forall_const,↓reduceIte,↓reduceDIte,↓Qe,Qf,Qg,Qh,Qi,Qj,Qk,Ql,Qm,Qn,Qo,Qp,Qq,Qr,Qs,implies_true,Qt,Qu,Qv,Qw,Qx,Qy,Qz,QA,QB,QC,QD,QE,QF,QG,QH,QI,QJ,QK,QL,QM,QN,QO,QP,QQ]
     first | done | rfl | exact ⟨by rfl,by rfl⟩
    ·rw [e3] at bad nx
     by_cases e2:m.length≤1024
     ·rw [decide_eq_true e2] at bad nx
      simp (config:={maxSteps:=1000000}) (disch:=((try simp only [awL]);omega)) only [QR,QS,QT,QU,QV,QW,QX,QY,QZ,Q0,Q1,Q2,sl,↓awU,awV,awF,Qa,Qb,Qc,Qd,forall_const,↓reduceIte,↓reduceDIte,↓Qe,Qf,Qg,Qh,Qi,Qj,Qk,Ql,Qm,Qn,Qo,Qp,Qq,Qr,Qs,implies_true,Qt,Qu,Qv,Qw,Qx,Qy,Qz,QA,QB,QC,QD,QE,QF,QG,QH,QI,QJ,QK,QL,QM,QN,QO,QP,QQ]
      refine CallC.of (rtrim_spec m (by omega)) (by rfl) ?_
      by_cases e5:Lib.trimB m 32=m
      ·have e5':(Lib.trimB m 32=m)=True:=eq_true e5
       rw [decide_eq_true e5] at bad nx
       simp (config:={maxSteps:=1000000}) (disch:=((try simp only [awL]);omega)) only [QR,QS,QT,QU,QV,QW,QX,QY,QZ,Q0,Q1,Q2,sl,e5',↓awU,awV,awF,Qa,Qb,Qc,Qd,forall_const,↓reduceIte,↓reduceDIte,↓Qe,Qf,Qg,Qh,Qi,Qj,Qk,Ql,Qm,Qn,Qo,Qp,Qq,Qr,Qs,implies_true,Qt,Qu,Qv,Qw,Qx,Qy,Qz,QA,QB,QC,QD,QE,QF,QG,QH,QI,QJ,QK,QL,QM,QN,QO,QP,QQ]
       have hh:=has_spec (G:=G) (l.take i) false m (by rw [tlen];omega)
       unfold Ss at hh
       rw [tlen] at hh
       refine CallC.of hh (by rw [cu]) ?_
       by_cases e6:m∈l.take i
       ·have:r=false:=hr.trans (dup e6)
        subst this
        rw [decide_eq_true e6]
        simp (config:={maxSteps:=1000000}) (disch:=((try simp only [awL]);omega)) only [QR,QS,QT,QU,QV,QW,QX,QY,QZ,Q0,Q1,Q2,sl,↓awU,awV,awF,Qa,Qb,Qc,Qd,forall_const,↓reduceIte,↓reduceDIte,↓Qe,Qf,Qg,Qh,Qi,Qj,Qk,Ql,Qm,Qn,Qo,Qp,Qq,Qr,Qs,implies_true,Qt,Qu,Qv,Qw,Qx,Qy,Qz,QA,QB,QC,QD,QE,QF,QG,QH,QI,QJ,QK,QL,QM,QN,QO,QP,QQ]
        first | done | rfl | exact ⟨by rfl,by rfl⟩
       ·rw [decide_eq_false e6]
        simp (config:={maxSteps:=1000000}) (disch:=((try simp only [awL]);omega)) only [QR,QS,QT,QU,QV,QW,QX,QY,QZ,Q0,Q1,Q2,sl,↓awU,awV,awF,Qa,Qb,Qc,Qd,forall_const,↓reduceIte,↓reduceDIte,↓Qe,Qf,Qg,Qh,Qi,Qj,Qk,Ql,Qm,Qn,Qo,Qp,Qq,Qr,Qs,implies_true,Qt,Qu,Qv,Qw,Qx,Qy,Qz,QA,QB,QC,QD,QE,QF,QG,QH,QI,QJ,QK,QL,QM,QN,QO,QP,QQ]
        refine LoopC.fr 465 (α:=Nat) (fun j=>m.length - j) (fun j=>[(5,.d (.int .i64 (j:Nat)))]) (fun _=>[]) (fun j=>j≤m.length∧(124:UInt8)∉m.take j) 0 ⟨Nat.zero_le _,by simp⟩ ?_ ?_
        ·exact ⟨[],rfl,by simp,by simp [setsA,keepA,SWeak,AWeak],by simp [HWeak,BWeak,SWeak,AWeak]⟩
        ·rintro j ⟨hj,hq⟩
         simp only [awK,Nat.reduceMod,Nat.reduceDiv,reduceIte]
         rcases Nat.lt_or_ge j m.length with h7 | h7
         ·have mt:=@mem_take1 UInt8 _ m j 0 124 h7
          by_cases e7:m.getD j 0=124
          ·have:r=false:=hr.trans (bad (by rw [decide_eq_true (show (124:UInt8)∈m from e7▸memD (d:=0) h7)];rfl))
           subst this
           have e8:(((m.getD j 0).toNat:Int)=124)=True:=eq_true (by rw [e7];rfl)
           simp (config:={maxSteps:=1000000}) (disch:=((try simp only [awL]);omega)) only [QR,QS,QT,QU,QV,QW,QX,QY,QZ,Q0,Q1,Q2,sl,e8,↓awU,awV,awF,Qa,Qb,Qc,Qd,forall_const,↓reduceIte,↓reduceDIte,↓Qe,Qf,Qg,Qh,Qi,Qj,Qk,Ql,Qm,Qn,Qo,Qp,Qq,Qr,Qs,implies_true,Qt,Qu,Qv,Qw,Qx,Qy,Qz,QA,QB,QC,QD,QE,QF,QG,QH,QI,QJ,QK,QL,QM,QN,QO,QP,QQ]
           first | done | rfl | exact ⟨by rfl,by rfl⟩
          ·have e8:(((m.getD j 0).toNat:Int)=124)=False:=eq_false (fun q=>e7 (UInt8.toNat_inj.1 (by show (m.getD j 0).toNat=124;omega)))
           have q2:(124:UInt8)∉m.take (j+1):=fun q=>by
            rcases mt.1 q with q | q
            ·exact hq q
            ·exact e7 q.symm
           simp (config:={maxSteps:=1000000}) (disch:=((try simp only [awL]);omega)) only [QR,QS,QT,QU,QV,QW,QX,QY,QZ,Q0,Q1,Q2,sl,e8,↓awU,awV,awF,Qa,Qb,Qc,Qd,forall_const,↓reduceIte,↓reduceDIte,↓Qe,Qf,Qg,Qh,Qi,Qj,Qk,Ql,Qm,Qn,Qo,Qp,Qq,Qr,Qs,implies_true,Qt,Qu,Qv,Qw,Qx,Qy,Qz,QA,QB,QC,QD,QE,QF,QG,QH,QI,QJ,QK,QL,QM,QN,QO,QP,QQ]
           first
           | exact ⟨j+1,⟨h7,q2⟩,by simp only;omega,⟨[],rfl,by simp,by simp [setsA,keepA,SWeak,AWeak],by simp [HWeak,BWeak,SWeak,AWeak]⟩⟩
         ·have e:j=m.length:=by omega
          subst e
          rw [List.take_length] at hq
          have nx2:=nx (by rw [decide_eq_false hq];rfl) e6
          simp (config:={maxSteps:=1000000}) (disch:=((try simp only [awL]);omega)) only [QR,QS,QT,QU,QV,QW,QX,QY,QZ,Q0,Q1,Q2,sl,↓awU,awV,awF,Qa,Qb,Qc,Qd,forall_const,↓reduceIte,↓reduceDIte,↓Qe,Qf,Qg,Qh,Qi,Qj,Qk,Ql,Qm,Qn,Qo,Qp,Qq,Qr,Qs,implies_true,Qt,Qu,Qv,Qw,Qx,Qy,Qz,QA,QB,QC,QD,QE,QF,QG,QH,QI,QJ,QK,QL,QM,QN,QO,QP,QQ]
          first
          | exact ⟨i+1,⟨h,nx2⟩,by simp only;omega,⟨[],rfl,by simp,by simp [setsA,keepA,SWeak,AWeak],by simp [HWeak,BWeak,SWeak,AWeak]⟩⟩
          | exact ⟨by rfl,i+1,⟨h,nx2⟩,by simp only;omega,⟨[],rfl,by simp,by simp [setsA,keepA,SWeak,AWeak],by simp [HWeak,BWeak,SWeak,AWeak]⟩⟩
      ·have e5':(Lib.trimB m 32=m)=False:=eq_false e5
       have:r=false:=hr.trans (bad (by rw [decide_eq_false e5];simp))
       subst this
       simp (config:={maxSteps:=1000000}) (disch:=((try simp only [awL]);omega)) only [QR,QS,QT,QU,QV,QW,QX,QY,QZ,Q0,Q1,Q2,sl,e5',↓awU,awV,awF,Qa,Qb,Qc,Qd,forall_const,↓reduceIte,↓reduceDIte,↓Qe,Qf,Qg,Qh,Qi,Qj,Qk,Ql,Qm,Qn,Qo,Qp,Qq,Qr,Qs,implies_true,Qt,Qu,Qv,Qw,Qx,Qy,Qz,QA,QB,QC,QD,QE,QF,QG,QH,QI,QJ,QK,QL,QM,QN,QO,QP,QQ]
       first | done | rfl | exact ⟨by rfl,by rfl⟩
     ·have:r=false:=hr.trans (bad (by rw [decide_eq_false e2];simp))
      subst this
      simp (config:={maxSteps:=1000000}) (disch:=((try simp only [awL]);omega)) only [QR,QS,QT,QU,QV,QW,QX,QY,QZ,Q0,Q1,Q2,sl,↓awU,awV,awF,Qa,Qb,Qc,Qd,forall_const,↓reduceIte,↓reduceDIte,↓Qe,Qf,Qg,Qh,Qi,Qj,Qk,Ql,Qm,Qn,Qo,Qp,Qq,Qr,Qs,implies_true,Qt,Qu,Qv,Qw,Qx,Qy,Qz,QA,QB,QC,QD,QE,QF,QG,QH,QI,QJ,QK,QL,QM,QN,QO,QP,QQ]
      first | done | rfl | exact ⟨by rfl,by rfl⟩
  ·have e:i=l.length:=by omega
   subst e
   rw [List.take_length] at ha hn
   have:r=decide (l.length≤16):=by rw [hr];unfold validM;rw [ha,decide_eq_true hn,Bool.and_true,Bool.true_and]
   rw [this]
   simp (config:={maxSteps:=1000000}) (disch:=((try simp only [awL]);omega)) only [QR,QS,QT,QU,QV,QW,QX,QY,QZ,Q0,Q1,Q2,sl,↓awU,awV,awF,Qa,Qb,Qc,Qd,forall_const,↓reduceIte,↓reduceDIte,↓Qe,Qf,Qg,Qh,Qi,Qj,Qk,Ql,Qm,Qn,Qo,Qp,Qq,Qr,Qs,implies_true,Qt,Qu,Qv,Qw,Qx,Qy,Qz,QA,QB,QC,QD,QE,QF,QG,QH,QI,QJ,QK,QL,QM,QN,QO,QP,QQ]
   first | done | rfl | exact decide_eq_decide.2 (by omega)
end Go.Proofs.YtkgbbdoeodmkgaaGreatDoor
namespace Go.Proofs.YtkgbbdoeodmkgaaGreatDoor
open Go Go.Proofs Go.Abs
variable {G:Globals}
theorem validM_len {l:Row} (h:validM l=true):l.length≤16∧(∀ m∈l,okMk m=true)∧l.Nodup:=by
 unfold validM at h
 simp only [Bool.and_eq_true,decide_eq_true_eq] at h
 exact ⟨h.2.1,List.all_eq_true.1 h.1,h.2.2⟩
theorem okMk_facts {m:List UInt8} (h:okMk m=true):m≠[]∧m.length≤1024∧Lib.validD m=true∧(124:UInt8)∉m∧Lib.trimB m 32=m:=by
 unfold okMk at h
 simpa using h
theorem validM_join {l:Row} (h:validM l=true):(Lib.join l [124]).length≤16400:=by
 obtain ⟨h1,h2,_⟩:=validM_len h
 have:=join_len [124] 1024 (Nat.le_refl _) l fun s hs=>(okMk_facts (h2 s hs)).2.1
 have:l.length*(1024+1)≤16*(1024+1):=Nat.mul_le_mul_right _ h1
 omega
theorem join_take_le (l:Row) (sep:List UInt8) (i:Nat):(Lib.join (l.take i) sep).length≤(Lib.join l sep).length:=by
 have h:=join_mono sep (l.drop i) (l.take i)
 rw [List.take_append_drop] at h
 exact h
def textM (l:Row):List UInt8:=if validM l=true then Lib.join l [124] else []
theorem textM_len (l:Row):(textM l).length≤16400:=by
 unfold textM
 split
 ·rename_i h;exact validM_join h
 ·simp
set_option maxHeartbeats 4000000 in
set_option maxRecDepth 100000 in
theorem ntext_spec (hT:HT G) (l:Row) (full:Bool) (hl:l.length≤100000) (hs:∀ s∈l,s.length≤1000000000):Ctr Tryz.prog G 21 [.d (Ss l full)] [] (.d (.tup [S (textM l),.bool (validM l)])) []:=by
 refine Ctr.pure (M:=M0) hmix Tryz.func21 rfl go21 ?_
 simp (config:={maxSteps:=1000000}) (disch:=((try simp only [awL]);omega)) only [QR,QS,QT,QU,QV,QW,QX,QY,QZ,Q0,Q1,Q2,Tryz.f21,↓awU,awV,awF,Qa,Qb,Qc,Qd,forall_const,↓reduceIte,↓reduceDIte,↓Qe,Qf,Qg,Qh,Qi,Qj,Qk,Ql,Qm,Qn,Qo,Qp,Qq,Qr,Qs,implies_true,Qt,Qu,Qv,Qw,Qx,Qy,Qz,QA,QB,QC,QD,QE,QF,QG,QH,QI,QJ,QK,QL,QM,QN,QO,QP,QQ]
 refine CallC.of (nvalid_spec hT l false hl hs) (by rfl) ?_
 unfold textM
 by_cases h:validM l=true
 ·have hj:=validM_join h
  rw [if_pos h,h]
  simp (config:={maxSteps:=1000000}) (disch:=((try simp only [awL]);omega)) only [QR,QS,QT,QU,QV,QW,QX,QY,QZ,Q0,Q1,Q2,↓awU,awV,awF,Qa,Qb,Qc,Qd,forall_const,↓reduceIte,↓reduceDIte,↓Qe,Qf,Qg,Qh,Qi,Qj,Qk,Ql,Qm,Qn,Qo,Qp,Qq,Qr,Qs,implies_true,Qt,Qu,Qv,Qw,Qx,Qy,Qz,QA,QB,QC,QD,QE,QF,QG,QH,QI,QJ,QK,QL,QM,QN,QO,QP,QQ]
  refine CallC.of (joinA_spec l false [124] (by omega) (by omega)) (by rfl) ?_
  simp (config:={maxSteps:=1000000}) (disch:=((try simp only [awL]);omega)) only [QR,QS,QT,QU,QV,QW,QX,QY,QZ,Q0,Q1,Q2,↓awU,awV,awF,Qa,Qb,Qc,Qd,forall_const,↓reduceIte,↓reduceDIte,↓Qe,Qf,Qg,Qh,Qi,Qj,Qk,Ql,Qm,Qn,Qo,Qp,Qq,Qr,Qs,implies_true,Qt,Qu,Qv,Qw,Qx,Qy,Qz,QA,QB,QC,QD,QE,QF,QG,QH,QI,QJ,QK,QL,QM,QN,QO,QP,QQ]
  first | done | rfl
 ·have h':validM l=false:=by cases e:validM l with | false=>rfl | true=>exact absurd e h
  rw [if_neg h,h']
  simp (config:={maxSteps:=1000000}) (disch:=((try simp only [awL]);omega)) only [QR,QS,QT,QU,QV,QW,QX,QY,QZ,Q0,Q1,Q2,↓awU,awV,awF,Qa,Qb,Qc,Qd,forall_const,↓reduceIte,↓reduceDIte,↓Qe,Qf,Qg,Qh,Qi,Qj,Qk,Ql,Qm,Qn,Qo,Qp,Qq,Qr,Qs,implies_true,Qt,Qu,Qv,Qw,Qx,Qy,Qz,QA,QB,QC,QD,QE,QF,QG,QH,QI,QJ,QK,QL,QM,QN,QO,QP,QQ]
  first | done | rfl
set_option maxHeartbeats 4000000 in
set_option maxRecDepth 100000 in
theorem rntext_spec (hT:HT G) (l:Row) (full:Bool) (hl:l.length≤100000) (hs:∀ s∈l,s.length≤1000000000):Ctr Tryz.prog G 22 [.d (Ss l full)] [] (.d (.tup [S (textM l),.bool (validM l)])) []:=by
 refine Ctr.pure (M:=M0) hmix Tryz.func22 rfl go22 ?_
 simp (config:={maxSteps:=1000000}) (disch:=((try simp only [awL]);omega)) only [QR,QS,QT,QU,QV,QW,QX,QY,QZ,Q0,Q1,Q2,Tryz.f22,↓awU,awV,awF,Qa,Qb,Qc,Qd,forall_const,↓reduceIte,↓reduceDIte,↓Qe,Qf,Qg,Qh,Qi,Qj,Qk,Ql,Qm,Qn,Qo,Qp,Qq,Qr,Qs,implies_true,Qt,Qu,Qv,Qw,Qx,Qy,Qz,QA,QB,QC,QD,QE,QF,QG,QH,QI,QJ,QK,QL,QM,QN,QO,QP,QQ]
 refine CallC.of (rnvalid_spec hT l false hl hs) (by rfl) ?_
 unfold textM
 by_cases h:validM l=true
 ·have hj:=validM_join h
  have sl:=@strs_length l
  rw [if_pos h,h]
  simp (config:={maxSteps:=1000000}) (disch:=((try simp only [awL]);omega)) only [QR,QS,QT,QU,QV,QW,QX,QY,QZ,Q0,Q1,Q2,sl,↓awU,awV,awF,Qa,Qb,Qc,Qd,forall_const,↓reduceIte,↓reduceDIte,↓Qe,Qf,Qg,Qh,Qi,Qj,Qk,Ql,Qm,Qn,Qo,Qp,Qq,Qr,Qs,implies_true,Qt,Qu,Qv,Qw,Qx,Qy,Qz,QA,QB,QC,QD,QE,QF,QG,QH,QI,QJ,QK,QL,QM,QN,QO,QP,QQ]
  refine LoopC.fr 3072 (α:=Nat) (fun i=>l.length - i) (fun i=>[(4,.d (S (Lib.join (l.take i) [124]))),(12,.d (.int .i64 (i:Nat)))]) (fun _=>[]) (fun i=>i≤l.length) 0 (Nat.zero_le _) ?_ ?_
  ·exact ⟨[],rfl,by simp,by simp [setsA,keepA,SWeak,AWeak,Lib.join],by simp [HWeak,BWeak,SWeak,AWeak]⟩
  ·intro i hi
   have jm:(Lib.join (l.take i) [124]).length≤16400:=Nat.le_trans (join_take_le l [124] i) hj
   have jm2:(Lib.join (l.take (i+1)) [124]).length≤16400:=Nat.le_trans (join_take_le l [124] (i+1)) hj
   simp only [awK,Nat.reduceMod,Nat.reduceDiv,reduceIte]
   rcases Nat.lt_or_ge i l.length with h3 | h3
   ·have sg:=strs_getD h3
    have js:=join_snoc [124] (l.getD i []) (l.take i)
    have tk:=List.take_add_one (l:=l) (i:=i)
    rw [getD_some (d:=[]) h3,Option.toList_some] at tk
    rw [← tk] at js
    rcases Nat.eq_zero_or_pos i with e | e
    ·subst e
     rw [if_pos (List.take_zero)] at js
     rw [js] at jm2
     have j0:Lib.join ([]:Row) [124]=[]:=rfl
     generalize l.getD 0 []=m at *
     simp (config:={maxSteps:=1000000}) (disch:=((try simp only [awL]);omega)) only [QR,QS,QT,QU,QV,QW,QX,QY,QZ,Q0,Q1,Q2,sl,sg,j0,↓awU,awV,awF,Qa,Qb,Qc,Qd,forall_const,↓reduceIte,↓reduceDIte,↓Qe,Qf,Qg,Qh,Qi,Qj,Qk,Ql,Qm,Qn,Qo,Qp,Qq,Qr,Qs,implies_true,Qt,Qu,Qv,Qw,Qx,Qy,Qz,QA,QB,QC,QD,QE,QF,QG,QH,QI,QJ,QK,QL,QM,QN,QO,QP,QQ]
     first
     | exact ⟨0+1,h3,by simp only;omega,⟨[],rfl,by simp,by simp [setsA,keepA,SWeak,AWeak,js],by simp [HWeak,BWeak,SWeak,AWeak]⟩⟩
     | exact ⟨1,h3,by simp only;omega,⟨[],rfl,by simp,by simp [setsA,keepA,SWeak,AWeak,js],by simp [HWeak,BWeak,SWeak,AWeak]⟩⟩
    ·rw [if_neg (fun q=>by have:=congrArg List.length q;rw [List.length_take,List.length_nil] at this;omega)] at js
     rw [js,List.length_append,List.length_append,List.length_singleton] at jm2
     generalize l.getD i []=m at *
     simp (config:={maxSteps:=1000000}) (disch:=((try simp only [awL]);omega)) only [QR,QS,QT,QU,QV,QW,QX,QY,QZ,Q0,Q1,Q2,sl,sg,↓awU,awV,awF,Qa,Qb,Qc,Qd,forall_const,↓reduceIte,↓reduceDIte,↓Qe,Qf,Qg,Qh,Qi,Qj,Qk,Ql,Qm,Qn,Qo,Qp,Qq,Qr,Qs,implies_true,Qt,Qu,Qv,Qw,Qx,Qy,Qz,QA,QB,QC,QD,QE,QF,QG,QH,QI,QJ,QK,QL,QM,QN,QO,QP,QQ]
     first
     | exact ⟨i+1,h3,by simp only;omega,⟨[],rfl,by simp,by simp [setsA,keepA,SWeak,AWeak,js],by simp [HWeak,BWeak,SWeak,AWeak]⟩⟩
   ·have e:i=l.length:=by omega
    subst e
    simp (config:={maxSteps:=1000000}) (disch:=((try simp only [awL]);omega)) only [QR,QS,QT,QU,QV,QW,QX,QY,QZ,Q0,Q1,Q2,sl,List.take_length,↓awU,awV,awF,Qa,Qb,Qc,Qd,forall_const,↓reduceIte,↓reduceDIte,↓Qe,Qf,Qg,Qh,Qi,Qj,Qk,Ql,Qm,Qn,Qo,Qp,Qq,Qr,Qs,implies_true,Qt,Qu,Qv,Qw,Qx,Qy,Qz,QA,QB,QC,QD,QE,QF,QG,QH,QI,QJ,QK,QL,QM,QN,QO,QP,QQ]
    first | done | rfl
 ·have h':validM l=false:=by cases e:validM l with | false=>rfl | true=>exact absurd e h
  rw [if_neg h,h']
  simp (config:={maxSteps:=1000000}) (disch:=((try simp only [awL]);omega)) only [QR,QS,QT,QU,QV,QW,QX,QY,QZ,Q0,Q1,Q2,↓awU,awV,awF,Qa,Qb,Qc,Qd,forall_const,↓reduceIte,↓reduceDIte,↓Qe,Qf,Qg,Qh,Qi,Qj,Qk,Ql,Qm,Qn,Qo,Qp,Qq,Qr,Qs,implies_true,Qt,Qu,Qv,Qw,Qx,Qy,Qz,QA,QB,QC,QD,QE,QF,QG,QH,QI,QJ,QK,QL,QM,QN,QO,QP,QQ]
  first | done | rfl
def parM (s:List UInt8):Row:=if s=[] then [] else if validM (splB 124 s)=true then splB 124 s else []
def parB (s:List UInt8):Bool:=if s=[] then true else validM (splB 124 s)
theorem cutL_le {c:UInt8}:∀ s:List UInt8,(cutL c s).length≤s.length
 | []=>by simp [cutL]
 | b::l=>by
   rw [cutL]
   split
   ·simp
   ·have:=cutL_le (c:=c) l;simp only [List.length_cons];omega
theorem splB_mem {c:UInt8} {m:Nat}:∀ (n:Nat) (s:List UInt8),s.length=n→n≤m→∀ x∈splB c s,x.length≤m:=by
 intro n
 induction n using Nat.strongRecOn with
 | ind n ih =>
  intro s hn hm x hx
  by_cases h:c∈s
  ·rw [splB_more h] at hx
   have hlt:=cutR_lt h
   rcases List.mem_cons.1 hx with e | hx
   ·rw [e];have:=cutL_le (c:=c) s;omega
   ·exact ih _ (by omega) (cutR c s) rfl (by omega) x hx
  ·rw [splB_last h] at hx
   rw [List.mem_singleton.1 hx];omega
set_option maxHeartbeats 4000000 in
set_option maxRecDepth 100000 in
theorem ssplit_spec (c:UInt8) (s:List UInt8) (hs:s.length≤1000000000):Ctr Tryz.prog G 30 [.d (S s),.d (S [c])] [] (.d (Ss (splB c s) false)) []:=by
 refine Ctr.pure (M:=M0) hmix Tryz.func30 rfl go30 ?_
 simp (config:={maxSteps:=1000000}) (disch:=((try simp only [awL]);omega)) only [QR,QS,QT,QU,QV,QW,QX,QY,QZ,Q0,Q1,Q2,Tryz.f30,↓awU,awV,awF,Qa,Qb,Qc,Qd,forall_const,↓reduceIte,↓reduceDIte,↓Qe,Qf,Qg,Qh,Qi,Qj,Qk,Ql,Qm,Qn,Qo,Qp,Qq,Qr,Qs,implies_true,Qt,Qu,Qv,Qw,Qx,Qy,Qz,QA,QB,QC,QD,QE,QF,QG,QH,QI,QJ,QK,QL,QM,QN,QO,QP,QQ]
 refine CallC.of (genSplit_spec c s hs) (by rfl) ?_
 simp (config:={maxSteps:=1000000}) (disch:=((try simp only [awL]);omega)) only [QR,QS,QT,QU,QV,QW,QX,QY,QZ,Q0,Q1,Q2,↓awU,awV,awF,Qa,Qb,Qc,Qd,forall_const,↓reduceIte,↓reduceDIte,↓Qe,Qf,Qg,Qh,Qi,Qj,Qk,Ql,Qm,Qn,Qo,Qp,Qq,Qr,Qs,implies_true,Qt,Qu,Qv,Qw,Qx,Qy,Qz,QA,QB,QC,QD,QE,QF,QG,QH,QI,QJ,QK,QL,QM,QN,QO,QP,QQ]
 first | done | rfl
set_option maxHeartbeats 4000000 in
set_option maxRecDepth 100000 in
theorem nparse_spec (hT:HT G) (s:List UInt8) (hs:s.length≤20000):Ctr Tryz.prog G 8 [.d (S s)] [] (.d (.tup [Ss (parM s) false,.bool (parB s)])) []:=by
 refine Ctr.pure (M:=M0) hmix Tryz.func8 rfl go8 ?_
 have sl:=splB_len 124 _ s rfl
 have cc:s.count 124≤s.length:=List.count_le_length
 have sm:=splB_mem (c:=124) (m:=1000000000) _ s rfl (by omega)
 unfold parM parB
 by_cases e:s=[]
 ·have e':(s=[])=True:=eq_true e
  rw [if_pos e,if_pos e]
  simp (config:={maxSteps:=1000000}) (disch:=((try simp only [awL]);omega)) only [QR,QS,QT,QU,QV,QW,QX,QY,QZ,Q0,Q1,Q2,e',Tryz.f8,↓awU,awV,awF,Qa,Qb,Qc,Qd,forall_const,↓reduceIte,↓reduceDIte,↓Qe,Qf,Qg,Qh,Qi,Qj,Qk,Ql,Qm,Qn,Qo,Qp,Qq,Qr,Qs,implies_true,Qt,Qu,Qv,Qw,Qx,Qy,Qz,QA,QB,QC,QD,QE,QF,QG,QH,QI,QJ,QK,QL,QM,QN,QO,QP,QQ]
  first | done | rfl
 ·have e':(s=[])=False:=eq_false e
  rw [if_neg e,if_neg e]
  simp (config:={maxSteps:=1000000}) (disch:=((try simp only [awL]);omega)) only [QR,QS,QT,QU,QV,QW,QX,QY,QZ,Q0,Q1,Q2,e',Tryz.f8,↓awU,awV,awF,Qa,Qb,Qc,Qd,forall_const,↓reduceIte,↓reduceDIte,↓Qe,Qf,Qg,Qh,Qi,Qj,Qk,Ql,Qm,Qn,Qo,Qp,Qq,Qr,Qs,implies_true,Qt,Qu,Qv,Qw,Qx,Qy,Qz,QA,QB,QC,QD,QE,QF,QG,QH,QI,QJ,QK,QL,QM,QN,QO,QP,QQ]
  refine CallC.of (ssplit_spec 124 s (by omega)) (by rfl) ?_
  generalize splB 124 s=l at *
  simp (config:={maxSteps:=1000000}) (disch:=((try simp only [awL]);omega)) only [QR,QS,QT,QU,QV,QW,QX,QY,QZ,Q0,Q1,Q2,↓awU,awV,awF,Qa,Qb,Qc,Qd,forall_const,↓reduceIte,↓reduceDIte,↓Qe,Qf,Qg,Qh,Qi,Qj,Qk,Ql,Qm,Qn,Qo,Qp,Qq,Qr,Qs,implies_true,Qt,Qu,Qv,Qw,Qx,Qy,Qz,QA,QB,QC,QD,QE,QF,QG,QH,QI,QJ,QK,QL,QM,QN,QO,QP,QQ]
  refine CallC.of (nvalid_spec hT l false (by omega) sm) (by rfl) ?_
  by_cases h:validM l=true
  ·rw [if_pos h,h]
   simp (config:={maxSteps:=1000000}) (disch:=((try simp only [awL]);omega)) only [QR,QS,QT,QU,QV,QW,QX,QY,QZ,Q0,Q1,Q2,↓awU,awV,awF,Qa,Qb,Qc,Qd,forall_const,↓reduceIte,↓reduceDIte,↓Qe,Qf,Qg,Qh,Qi,Qj,Qk,Ql,Qm,Qn,Qo,Qp,Qq,Qr,Qs,implies_true,Qt,Qu,Qv,Qw,Qx,Qy,Qz,QA,QB,QC,QD,QE,QF,QG,QH,QI,QJ,QK,QL,QM,QN,QO,QP,QQ]
   first | done | rfl
  ·have h':validM l=false:=by cases e:validM l with | false=>rfl | true=>exact absurd e h
   rw [if_neg h,h']
   simp (config:={maxSteps:=1000000}) (disch:=((try simp only [awL]);omega)) only [QR,QS,QT,QU,QV,QW,QX,QY,QZ,Q0,Q1,Q2,↓awU,awV,awF,Qa,Qb,Qc,Qd,forall_const,↓reduceIte,↓reduceDIte,↓Qe,Qf,Qg,Qh,Qi,Qj,Qk,Ql,Qm,Qn,Qo,Qp,Qq,Qr,Qs,implies_true,Qt,Qu,Qv,Qw,Qx,Qy,Qz,QA,QB,QC,QD,QE,QF,QG,QH,QI,QJ,QK,QL,QM,QN,QO,QP,QQ]
   first | done | rfl
theorem cutB_at {c:UInt8}:∀ {r:List UInt8} {k:Nat},k<r.length→c∉r.take k→r.getD k 0=c→c∈r∧cutL c r=r.take k∧cutR c r=r.drop (k+1)
 | [],_,h,_,_=>absurd h (Nat.not_lt_zero _)
 | b::l,0,_,_,e=>by
   have e:b=c:=e
   subst e
   simp [cutL,cutR]
 | b::l,k+1,h,hn,e=>by
   have hb:b≠c:=fun q=>hn (by simp [q])
   obtain ⟨h1,h2,h3⟩:=cutB_at (r:=l) (k:=k) (by simpa using h) (fun q=>hn (by rw [List.take_succ_cons];exact List.mem_cons_of_mem _ q)) (by simpa using e)
   refine ⟨by simp [h1],?_,?_⟩
   ·rw [cutL,if_neg hb,h2];rfl
   ·rw [cutR,if_neg hb,h3];rfl
set_option maxHeartbeats 8000000 in
set_option maxRecDepth 100000 in
theorem rnparse_spec (hT:HT G) (s:List UInt8) (hs:s.length≤20000):Ctr Tryz.prog G 24 [.d (S s)] [] (.d (.tup [Ss (parM s) false,.bool (parB s)])) []:=by
 refine Ctr.pure (M:=M0) hmix Tryz.func24 rfl go24 ?_
 have sl:=splB_len 124 _ s rfl
 have cc:s.count 124≤s.length:=List.count_le_length
 have sm:=splB_mem (c:=124) (m:=1000000000) _ s rfl (by omega)
 unfold parM parB
 by_cases e:s=[]
 ·have e':(s=[])=True:=eq_true e
  rw [if_pos e,if_pos e]
  simp (config:={maxSteps:=1000000}) (disch:=((try simp only [awL]);omega)) only [QR,QS,QT,QU,QV,QW,QX,QY,QZ,Q0,Q1,Q2,e',Tryz.f24,↓awU,awV,awF,Qa,Qb,Qc,Qd,forall_const,↓reduceIte,↓reduceDIte,↓Qe,Qf,Qg,Qh,Qi,Qj,Qk,Ql,Qm,Qn,Qo,Qp,Qq,Qr,Qs,implies_true,Qt,Qu,Qv,Qw,Qx,Qy,Qz,QA,QB,QC,QD,QE,QF,QG,QH,QI,QJ,QK,QL,QM,QN,QO,QP,QQ]
  first | done | rfl
 ·have e':(s=[])=False:=eq_false e
  rw [if_neg e,if_neg e]
  obtain ⟨L,hL⟩:∃ L,L=splB 124 s:=⟨_,rfl⟩
  rw [← hL] at sl sm ⊢
  simp (config:={maxSteps:=1000000}) (disch:=((try simp only [awL]);omega)) only [QR,QS,QT,QU,QV,QW,QX,QY,QZ,Q0,Q1,Q2,e',Tryz.f24,↓awU,awV,awF,Qa,Qb,Qc,Qd,forall_const,↓reduceIte,↓reduceDIte,↓Qe,Qf,Qg,Qh,Qi,Qj,Qk,Ql,Qm,Qn,Qo,Qp,Qq,Qr,Qs,implies_true,Qt,Qu,Qv,Qw,Qx,Qy,Qz,QA,QB,QC,QD,QE,QF,QG,QH,QI,QJ,QK,QL,QM,QN,QO,QP,QQ]
  refine LoopC.fr 1 (α:=Row × Nat × Nat) (fun x=>s.length+1 - x.2.2) (fun x=>[(4,.lsl 0 1 0 x.1.length),(5,.d (.int .i64 (x.2.1:Nat))),(6,.d (.int .i64 (x.2.2:Nat)))]) (fun x=>[.row false (strs x.1)])
   (fun x=>x.2.2≤s.length+1∧(if x.2.2≤s.length then x.2.1≤x.2.2∧L=x.1++splB 124 (s.drop x.2.1)∧(124:UInt8)∉(s.drop x.2.1).take (x.2.2 - x.2.1) else L=x.1)) ([],0,0)
   ⟨Nat.zero_le _,by rw [if_pos (Nat.zero_le _)];exact ⟨Nat.le_refl _,by simpa using hL,by simp⟩⟩ ?_ ?_
  ·exact ⟨[none],rfl,by simp,by simp [setsA,keepA,SWeak,AWeak],by simp [HWeak,BWeak,SWeak,AWeak,strs]⟩
  ·rintro ⟨d,p,i⟩ ⟨h1,h2⟩
   simp only at h1 h2
   have dl:=@strs_length d
   simp only [awK,Nat.reduceMod,Nat.reduceDiv,reduceIte]
   rcases Nat.lt_or_ge s.length i with h3 | h3
   ·rw [if_neg (by omega)] at h2
    subst h2
    have cu:cut (strs L) 0 L.length=strs L:=cut_all dl.symm
    simp (config:={maxSteps:=1000000}) (disch:=((try simp only [awL]);omega)) only [QR,QS,QT,QU,QV,QW,QX,QY,QZ,Q0,Q1,Q2,↓awU,awV,awF,Qa,Qb,Qc,Qd,forall_const,↓reduceIte,↓reduceDIte,↓Qe,Qf,Qg,Qh,Qi,Qj,Qk,Ql,Qm,Qn,Qo,Qp,Qq,Qr,Qs,implies_true,Qt,Qu,Qv,Qw,Qx,Qy,Qz,QA,QB,QC,QD,QE,QF,QG,QH,QI,QJ,QK,QL,QM,QN,QO,QP,QQ]
    refine CallC.frozenE (rnvalid_spec hT L false (by omega) sm) (by rw [cu]) ?_
    by_cases h:validM L=true
    ·rw [if_pos h,h]
     simp (config:={maxSteps:=1000000}) (disch:=((try simp only [awL]);omega)) only [QR,QS,QT,QU,QV,QW,QX,QY,QZ,Q0,Q1,Q2,↓awU,awV,awF,Qa,Qb,Qc,Qd,forall_const,↓reduceIte,↓reduceDIte,↓Qe,Qf,Qg,Qh,Qi,Qj,Qk,Ql,Qm,Qn,Qo,Qp,Qq,Qr,Qs,implies_true,Qt,Qu,Qv,Qw,Qx,Qy,Qz,QA,QB,QC,QD,QE,QF,QG,QH,QI,QJ,QK,QL,QM,QN,QO,QP,QQ]
     first | done | rfl | (rw [cu];done)
    ·have h':validM L=false:=by cases e:validM L with | false=>rfl | true=>exact absurd e h
     rw [if_neg h,h']
     simp (config:={maxSteps:=1000000}) (disch:=((try simp only [awL]);omega)) only [QR,QS,QT,QU,QV,QW,QX,QY,QZ,Q0,Q1,Q2,↓awU,awV,awF,Qa,Qb,Qc,Qd,forall_const,↓reduceIte,↓reduceDIte,↓Qe,Qf,Qg,Qh,Qi,Qj,Qk,Ql,Qm,Qn,Qo,Qp,Qq,Qr,Qs,implies_true,Qt,Qu,Qv,Qw,Qx,Qy,Qz,QA,QB,QC,QD,QE,QF,QG,QH,QI,QJ,QK,QL,QM,QN,QO,QP,QQ]
     first | done | rfl
   ·rw [if_pos h3] at h2
    obtain ⟨g1,g2,g3⟩:=h2
    have i1:((i:Nat):Int)+1=((i+1:Nat):Int):=by omega
    have dlen:d.length≤30000:=by rw [g2,List.length_append] at sl;omega
    have ex:((s.drop p).take (i - p))=(s.take i).drop p:=by rw [List.drop_take]
    by_cases e1:i=s.length
    ·subst e1
     have tk:(s.drop p).take (s.length - p)=s.drop p:=List.take_of_length_le (by rw [List.length_drop];exact Nat.le_refl _)
     rw [tk] at g3 ex
     rw [splB_last g3] at g2
     have sp:=@strs_push d (s.drop p)
     have tl:(d++[s.drop p]).length=d.length+1:=by simp
     generalize d++[s.drop p]=d2 at *
     simp (config:={maxSteps:=1000000}) (disch:=((try simp only [awL]);omega)) only [QR,QS,QT,QU,QV,QW,QX,QY,QZ,Q0,Q1,Q2,dl,sp,i1,List.take_length,← ex,↓awU,awV,awF,Qa,Qb,Qc,Qd,forall_const,↓reduceIte,↓reduceDIte,↓Qe,Qf,Qg,Qh,Qi,Qj,Qk,Ql,Qm,Qn,Qo,Qp,Qq,Qr,Qs,implies_true,Qt,Qu,Qv,Qw,Qx,Qy,Qz,QA,QB,QC,QD,QE,QF,QG,QH,QI,QJ,QK,QL,QM,QN,QO,QP,QQ]
     first
     | exact ⟨(d2,s.length+1,s.length+1),⟨by simp only;omega,by rw [if_neg (by simp only;omega)];exact g2⟩,by simp only;omega,⟨[some 2],rfl,by simp,by simp [setsA,keepA,SWeak,AWeak,tl],by simp [HWeak,BWeak,SWeak,AWeak]⟩⟩
    ·have lt:i<s.length:=by omega
     have gd:(s.drop p).getD (i - p) 0=s.getD i 0:=by
      rw [List.getD_eq_getElem?_getD,List.getElem?_drop,← List.getD_eq_getElem?_getD];congr 1;omega
     by_cases e2:s.getD i 0=124
     ·obtain ⟨c1,c2,c3⟩:=cutB_at (c:=124) (r:=s.drop p) (k:=i - p) (by rw [List.length_drop];omega) g3 (gd.trans e2)
      rw [splB_more c1,c2,c3,List.drop_drop,show p+(i - p+1)=i+1 by omega] at g2
      have g4:L=(d++[(s.drop p).take (i - p)])++splB 124 (s.drop (i+1)):=by rw [g2];simp
      have sp:=@strs_push d ((s.drop p).take (i - p))
      have tl:(d++[(s.drop p).take (i - p)]).length=d.length+1:=by simp
      have e8:(((s.getD i 0).toNat:Int)=124)=True:=eq_true (by rw [e2];rfl)
      generalize d++[(s.drop p).take (i - p)]=d2 at *
      rw [ex] at sp
      simp (config:={maxSteps:=1000000}) (disch:=((try simp only [awL]);omega)) only [QR,QS,QT,QU,QV,QW,QX,QY,QZ,Q0,Q1,Q2,dl,sp,i1,e8,↓awU,awV,awF,Qa,Qb,Qc,Qd,forall_const,↓reduceIte,↓reduceDIte,↓Qe,Qf,Qg,Qh,Qi,Qj,Qk,Ql,Qm,Qn,Qo,Qp,Qq,Qr,Qs,implies_true,Qt,Qu,Qv,Qw,Qx,Qy,Qz,QA,QB,QC,QD,QE,QF,QG,QH,QI,QJ,QK,QL,QM,QN,QO,QP,QQ]
      first
      | exact ⟨(d2,i+1,i+1),⟨by simp only;omega,by rw [if_pos (by simp only;omega)];exact ⟨Nat.le_refl _,g4,by simp⟩⟩,by simp only;omega,⟨[some 2],rfl,by simp,by simp [setsA,keepA,SWeak,AWeak,tl],by simp [HWeak,BWeak,SWeak,AWeak]⟩⟩
     ·have e8:(((s.getD i 0).toNat:Int)=124)=False:=eq_false (fun q=>e2 (UInt8.toNat_inj.1 (by show (s.getD i 0).toNat=124;omega)))
      have g4:(124:UInt8)∉(s.drop p).take (i+1 - p):=by
       rw [show i+1 - p=i - p+1 by omega]
       intro q
       rcases (mem_take1 (d:=0) (by rw [List.length_drop];omega)).1 q with q | q
       ·exact g3 q
       ·rw [gd] at q;exact e2 q.symm
      simp (config:={maxSteps:=1000000}) (disch:=((try simp only [awL]);omega)) only [QR,QS,QT,QU,QV,QW,QX,QY,QZ,Q0,Q1,Q2,dl,i1,e8,↓awU,awV,awF,Qa,Qb,Qc,Qd,forall_const,↓reduceIte,↓reduceDIte,↓Qe,Qf,Qg,Qh,Qi,Qj,Qk,Ql,Qm,Qn,Qo,Qp,Qq,Qr,Qs,implies_true,Qt,Qu,Qv,Qw,Qx,Qy,Qz,QA,QB,QC,QD,QE,QF,QG,QH,QI,QJ,QK,QL,QM,QN,QO,QP,QQ]
      first
      | exact ⟨(d,p,i+1),⟨by simp only;omega,by rw [if_pos (by simp only;omega)];exact ⟨by simp only;omega,g2,g4⟩⟩,by simp only;omega,⟨[some 0],rfl,by simp,by simp [setsA,keepA,SWeak,AWeak],by simp [HWeak,BWeak,SWeak,AWeak]⟩⟩
end Go.Proofs.YtkgbbdoeodmkgaaGreatDoor
namespace Go.Proofs.YtkgbbdoeodmkgaaGreatDoor
open Go Go.Proofs Go.Abs
variable {G:Globals}
def isNl (ms:Row) (x:Cel):Bool:=x.2 || (decide (Lib.trimB x.1 32=[]) || decide (Lib.trimB x.1 32∈ms))
def apC (ms:Row) (x:Cel):Cel:=if isNl ms x=true then ([],true) else x
def apL (ms:Row) (l:List Cel):List Cel:=l.map (apC ms)
theorem apL_len (ms:Row) (l:List Cel):(apL ms l).length=l.length:=by simp [apL]
theorem celsD_push (a:List Cel) (x:Cel):celsD a++[.bool x.2,S x.1]=celsD (a++[x]):=by simp [celsD]
theorem apL_step {ms:Row} {l:List Cel} {i:Nat} (h:i<l.length):apL ms (l.take (i+1))=apL ms (l.take i)++[apC ms (l.getD i noC)]:=by
 unfold apL
 rw [List.take_add_one,getD_some (d:=noC) h,List.map_append];rfl
set_option maxHeartbeats 16000000 in
set_option maxRecDepth 100000 in
theorem napply_spec (nm:List UInt8) (l:List Cel) (full:Bool) (hl:okL l) (ms:Row) (fm:Bool) (hm:ms.length≤1000000) :
  Ctr Tryz.prog G 11 [.d (.agg [S nm,CelS l full]),.d (Ss ms fm)] [] (.d (.agg [S nm,CelS (apL ms l) false])) []:=by
 refine Ctr.pure (M:=M0) hmix Tryz.func11 rfl go11 ?_
 have lc:=celsD_length l
 have l1:=hl.1
 have ml:=@strs_length ms
 have hb0:ByteArray.empty=bs []:=rfl
 simp (config:={maxSteps:=1000000}) (disch:=((try simp only [awL]);omega)) only [QR,QS,QT,QU,QV,QW,QX,QY,QZ,Q0,Q1,Q2,lc,Tryz.f11,↓awU,awV,awF,Qa,Qb,Qc,Qd,forall_const,↓reduceIte,↓reduceDIte,↓Qe,Qf,Qg,Qh,Qi,Qj,Qk,Ql,Qm,Qn,Qo,Qp,Qq,Qr,Qs,implies_true,Qt,Qu,Qv,Qw,Qx,Qy,Qz,QA,QB,QC,QD,QE,QF,QG,QH,QI,QJ,QK,QL,QM,QN,QO,QP,QQ]
 refine LoopC.fr 24626 (α:=Nat) (fun i=>l.length - i) (fun i=>[(15,.d (.int .i64 (i:Nat)))])
  (fun i=>[.dead,.box [.d (.str ByteArray.empty),.d (.sl 0 true [])],.box [.d (S nm),.lsl 3 2 0 i],.row false (celsD (apL ms (l.take i)))]) (fun i=>i≤l.length) 0 (Nat.zero_le _) ?_ ?_
 ·exact ⟨[some 0,some 1,some 2,none],rfl,by simp,by simp [setsA,keepA,SWeak,AWeak],by simp [HWeak,BWeak,SWeak,AWeak,apL,celsD]⟩
 ·intro i hi
  have al:=celsD_length (apL ms (l.take i))
  rw [apL_len,List.length_take,Nat.min_eq_left hi] at al
  simp only [awK,Nat.reduceMod,Nat.reduceDiv,reduceIte]
  rcases Nat.lt_or_ge i l.length with h | h
  ·have gc:=celsD_get h
   have gx:=hl.at h
   have st:=apL_step (ms:=ms) h
   have sp:=celsD_push (apL ms (l.take i)) (apC ms (l.getD i noC))
   rw [← st] at sp
   generalize hx:l.getD i noC=x at *
   obtain ⟨t,nul⟩:=x
   simp only at gx
   have tl:=trimB_len t
   unfold apC isNl at sp
   simp only at sp
   simp (config:={maxSteps:=1000000}) (disch:=((try simp only [awL]);omega)) only [QR,QS,QT,QU,QV,QW,QX,QY,QZ,Q0,Q1,Q2,lc,gc,al,↓awU,awV,awF,Qa,Qb,Qc,Qd,forall_const,↓reduceIte,↓reduceDIte,↓Qe,Qf,Qg,Qh,Qi,Qj,Qk,Ql,Qm,Qn,Qo,Qp,Qq,Qr,Qs,implies_true,Qt,Qu,Qv,Qw,Qx,Qy,Qz,QA,QB,QC,QD,QE,QF,QG,QH,QI,QJ,QK,QL,QM,QN,QO,QP,QQ]
   refine CallC.of (ttrim_spec t (by omega)) (by rfl) ?_
   generalize Lib.trimB t 32=tr at *
   cases nul
   ·by_cases e:tr=[]
    ·have e':(tr=[])=True:=eq_true e
     rw [decide_eq_true e] at sp
     simp only [Bool.or_true,Bool.true_or,if_true] at sp
     simp (config:={maxSteps:=1000000}) (disch:=((try simp only [awL]);omega)) only [QR,QS,QT,QU,QV,QW,QX,QY,QZ,Q0,Q1,Q2,lc,al,e',sp,↓awU,awV,awF,Qa,Qb,Qc,Qd,forall_const,↓reduceIte,↓reduceDIte,↓Qe,Qf,Qg,Qh,Qi,Qj,Qk,Ql,Qm,Qn,Qo,Qp,Qq,Qr,Qs,implies_true,Qt,Qu,Qv,Qw,Qx,Qy,Qz,QA,QB,QC,QD,QE,QF,QG,QH,QI,QJ,QK,QL,QM,QN,QO,QP,QQ]
     first
     | exact ⟨i+1,h,by simp only;omega,⟨[some 0,some 1,some 2,some 6],rfl,by simp,by simp [setsA,keepA,SWeak,AWeak],by simp [HWeak,BWeak,SWeak,AWeak,cut,← sp,hb0]⟩⟩
     | exact ⟨by rfl,i+1,h,by simp only;omega,⟨[some 0,some 1,some 2,some 6],rfl,by simp,by simp [setsA,keepA,SWeak,AWeak],by simp [HWeak,BWeak,SWeak,AWeak,cut,← sp,hb0]⟩⟩
    ·have e':(tr=[])=False:=eq_false e
     rw [decide_eq_false e] at sp
     simp (config:={maxSteps:=1000000}) (disch:=((try simp only [awL]);omega)) only [QR,QS,QT,QU,QV,QW,QX,QY,QZ,Q0,Q1,Q2,lc,al,e',↓awU,awV,awF,Qa,Qb,Qc,Qd,forall_const,↓reduceIte,↓reduceDIte,↓Qe,Qf,Qg,Qh,Qi,Qj,Qk,Ql,Qm,Qn,Qo,Qp,Qq,Qr,Qs,implies_true,Qt,Qu,Qv,Qw,Qx,Qy,Qz,QA,QB,QC,QD,QE,QF,QG,QH,QI,QJ,QK,QL,QM,QN,QO,QP,QQ]
     refine CallC.of (containsL_spec ms false tr hm) (by rfl) ?_
     by_cases e2:tr∈ms
     ·rw [decide_eq_true e2] at sp ⊢
      simp only [Bool.or_true,Bool.true_or,if_true] at sp
      simp (config:={maxSteps:=1000000}) (disch:=((try simp only [awL]);omega)) only [QR,QS,QT,QU,QV,QW,QX,QY,QZ,Q0,Q1,Q2,lc,al,↓awU,awV,awF,Qa,Qb,Qc,Qd,forall_const,↓reduceIte,↓reduceDIte,↓Qe,Qf,Qg,Qh,Qi,Qj,Qk,Ql,Qm,Qn,Qo,Qp,Qq,Qr,Qs,implies_true,Qt,Qu,Qv,Qw,Qx,Qy,Qz,QA,QB,QC,QD,QE,QF,QG,QH,QI,QJ,QK,QL,QM,QN,QO,QP,QQ]
      first
      | exact ⟨i+1,h,by simp only;omega,⟨[some 0,some 1,some 2,some 6],rfl,by simp,by simp [setsA,keepA,SWeak,AWeak],by simp [HWeak,BWeak,SWeak,AWeak,cut,← sp,hb0]⟩⟩
      | exact ⟨by rfl,i+1,h,by simp only;omega,⟨[some 0,some 1,some 2,some 6],rfl,by simp,by simp [setsA,keepA,SWeak,AWeak],by simp [HWeak,BWeak,SWeak,AWeak,cut,← sp,hb0]⟩⟩
     ·rw [decide_eq_false e2] at sp ⊢
      simp only [Bool.or_false,Bool.false_eq_true,if_false] at sp
      simp (config:={maxSteps:=1000000}) (disch:=((try simp only [awL]);omega)) only [QR,QS,QT,QU,QV,QW,QX,QY,QZ,Q0,Q1,Q2,lc,al,↓awU,awV,awF,Qa,Qb,Qc,Qd,forall_const,↓reduceIte,↓reduceDIte,↓Qe,Qf,Qg,Qh,Qi,Qj,Qk,Ql,Qm,Qn,Qo,Qp,Qq,Qr,Qs,implies_true,Qt,Qu,Qv,Qw,Qx,Qy,Qz,QA,QB,QC,QD,QE,QF,QG,QH,QI,QJ,QK,QL,QM,QN,QO,QP,QQ]
      first
      | exact ⟨i+1,h,by simp only;omega,⟨[some 0,some 1,some 2,some 6],rfl,by simp,by simp [setsA,keepA,SWeak,AWeak],by simp [HWeak,BWeak,SWeak,AWeak,cut,← sp,hb0]⟩⟩
      | exact ⟨by rfl,i+1,h,by simp only;omega,⟨[some 0,some 1,some 2,some 6],rfl,by simp,by simp [setsA,keepA,SWeak,AWeak],by simp [HWeak,BWeak,SWeak,AWeak,cut,← sp,hb0]⟩⟩
   ·simp only [Bool.true_or,if_true] at sp
    simp (config:={maxSteps:=1000000}) (disch:=((try simp only [awL]);omega)) only [QR,QS,QT,QU,QV,QW,QX,QY,QZ,Q0,Q1,Q2,lc,al,↓awU,awV,awF,Qa,Qb,Qc,Qd,forall_const,↓reduceIte,↓reduceDIte,↓Qe,Qf,Qg,Qh,Qi,Qj,Qk,Ql,Qm,Qn,Qo,Qp,Qq,Qr,Qs,implies_true,Qt,Qu,Qv,Qw,Qx,Qy,Qz,QA,QB,QC,QD,QE,QF,QG,QH,QI,QJ,QK,QL,QM,QN,QO,QP,QQ]
    first
    | exact ⟨i+1,h,by simp only;omega,⟨[some 0,some 1,some 2,some 6],rfl,by simp,by simp [setsA,keepA,SWeak,AWeak],by simp [HWeak,BWeak,SWeak,AWeak,cut,← sp,hb0]⟩⟩
    | exact ⟨by rfl,i+1,h,by simp only;omega,⟨[some 0,some 1,some 2,some 6],rfl,by simp,by simp [setsA,keepA,SWeak,AWeak],by simp [HWeak,BWeak,SWeak,AWeak,cut,← sp,hb0]⟩⟩
  ·have e:i=l.length:=by omega
   subst e
   rw [List.take_length] at al
   have ll:=apL_len ms l
   have cu:cut (celsD (apL ms l)) 0 (l.length*2)=celsD (apL ms l):=by unfold cut;rw [List.drop_zero,List.take_of_length_le (by omega)]
   simp (config:={maxSteps:=1000000}) (disch:=((try simp only [awL]);omega)) only [QR,QS,QT,QU,QV,QW,QX,QY,QZ,Q0,Q1,Q2,lc,al,List.take_length,↓awU,awV,awF,Qa,Qb,Qc,Qd,forall_const,↓reduceIte,↓reduceDIte,↓Qe,Qf,Qg,Qh,Qi,Qj,Qk,Ql,Qm,Qn,Qo,Qp,Qq,Qr,Qs,implies_true,Qt,Qu,Qv,Qw,Qx,Qy,Qz,QA,QB,QC,QD,QE,QF,QG,QH,QI,QJ,QK,QL,QM,QN,QO,QP,QQ]
   show _=D.agg [S nm,.sl (apL ms l).length false (celsD (apL ms l))]
   rw [ll,cu]
set_option maxHeartbeats 16000000 in
set_option maxRecDepth 100000 in
theorem rnapply_spec (nm:List UInt8) (l:List Cel) (full:Bool) (hl:okL l) (ms:Row) (fm:Bool) (hm:ms.length≤1000000) :
  Ctr Tryz.prog G 23 [.d (.agg [S nm,CelS l full]),.d (Ss ms fm)] [] (.d (.agg [S nm,CelS (apL ms l) false])) []:=by
 refine Ctr.pure (M:=M0) hmix Tryz.func23 rfl go23 ?_
 have lc:=celsD_length l
 have l1:=hl.1
 have ml:=@strs_length ms
 have hb0:ByteArray.empty=bs []:=rfl
 simp (config:={maxSteps:=1000000}) (disch:=((try simp only [awL]);omega)) only [QR,QS,QT,QU,QV,QW,QX,QY,QZ,Q0,Q1,Q2,lc,Tryz.f23,↓awU,awV,awF,Qa,Qb,Qc,Qd,forall_const,↓reduceIte,↓reduceDIte,↓Qe,Qf,Qg,Qh,Qi,Qj,Qk,Ql,Qm,Qn,Qo,Qp,Qq,Qr,Qs,implies_true,Qt,Qu,Qv,Qw,Qx,Qy,Qz,QA,QB,QC,QD,QE,QF,QG,QH,QI,QJ,QK,QL,QM,QN,QO,QP,QQ]
 refine LoopC.fr 24626 (α:=Nat) (fun i=>l.length - i) (fun i=>[(15,.d (.int .i64 (i:Nat)))])
  (fun i=>[.dead,.box [.d (.str ByteArray.empty),.d (.sl 0 true [])],.box [.d (S nm),.lsl 3 2 0 i],.row false (celsD (apL ms (l.take i)))]) (fun i=>i≤l.length) 0 (Nat.zero_le _) ?_ ?_
 ·exact ⟨[some 0,some 1,some 2,none],rfl,by simp,by simp [setsA,keepA,SWeak,AWeak],by simp [HWeak,BWeak,SWeak,AWeak,apL,celsD]⟩
 ·intro i hi
  have al:=celsD_length (apL ms (l.take i))
  rw [apL_len,List.length_take,Nat.min_eq_left hi] at al
  simp only [awK,Nat.reduceMod,Nat.reduceDiv,reduceIte]
  rcases Nat.lt_or_ge i l.length with h | h
  ·have gc:=celsD_get h
   have gx:=hl.at h
   have st:=apL_step (ms:=ms) h
   have sp:=celsD_push (apL ms (l.take i)) (apC ms (l.getD i noC))
   rw [← st] at sp
   generalize hx:l.getD i noC=x at *
   obtain ⟨t,nul⟩:=x
   simp only at gx
   have tl:=trimB_len t
   unfold apC isNl at sp
   simp only at sp
   simp (config:={maxSteps:=1000000}) (disch:=((try simp only [awL]);omega)) only [QR,QS,QT,QU,QV,QW,QX,QY,QZ,Q0,Q1,Q2,lc,gc,al,↓awU,awV,awF,Qa,Qb,Qc,Qd,forall_const,↓reduceIte,↓reduceDIte,↓Qe,Qf,Qg,Qh,Qi,Qj,Qk,Ql,Qm,Qn,Qo,Qp,Qq,Qr,Qs,implies_true,Qt,Qu,Qv,Qw,Qx,Qy,Qz,QA,QB,QC,QD,QE,QF,QG,QH,QI,QJ,QK,QL,QM,QN,QO,QP,QQ]
   refine CallC.of (rtrim_spec t (by omega)) (by rfl) ?_
   generalize Lib.trimB t 32=tr at *
   cases nul
   ·by_cases e:tr=[]
    ·have e':(tr=[])=True:=eq_true e
     rw [decide_eq_true e] at sp
     simp only [Bool.or_true,Bool.true_or,if_true] at sp
     simp (config:={maxSteps:=1000000}) (disch:=((try simp only [awL]);omega)) only [QR,QS,QT,QU,QV,QW,QX,QY,QZ,Q0,Q1,Q2,lc,al,e',sp,↓awU,awV,awF,Qa,Qb,Qc,Qd,forall_const,↓reduceIte,↓reduceDIte,↓Qe,Qf,Qg,Qh,Qi,Qj,Qk,Ql,Qm,Qn,Qo,Qp,Qq,Qr,Qs,implies_true,Qt,Qu,Qv,Qw,Qx,Qy,Qz,QA,QB,QC,QD,QE,QF,QG,QH,QI,QJ,QK,QL,QM,QN,QO,QP,QQ]
     first
     | exact ⟨i+1,h,by simp only;omega,⟨[some 0,some 1,some 2,some 6],rfl,by simp,by simp [setsA,keepA,SWeak,AWeak],by simp [HWeak,BWeak,SWeak,AWeak,cut,← sp,hb0]⟩⟩
     | exact ⟨by rfl,i+1,h,by simp only;omega,⟨[some 0,some 1,some 2,some 6],rfl,by simp,by simp [setsA,keepA,SWeak,AWeak],by simp [HWeak,BWeak,SWeak,AWeak,cut,← sp,hb0]⟩⟩
    ·have e':(tr=[])=False:=eq_false e
     rw [decide_eq_false e] at sp
     simp (config:={maxSteps:=1000000}) (disch:=((try simp only [awL]);omega)) only [QR,QS,QT,QU,QV,QW,QX,QY,QZ,Q0,Q1,Q2,lc,al,e',↓awU,awV,awF,Qa,Qb,Qc,Qd,forall_const,↓reduceIte,↓reduceDIte,↓Qe,Qf,Qg,Qh,Qi,Qj,Qk,Ql,Qm,Qn,Qo,Qp,Qq,Qr,Qs,implies_true,Qt,Qu,Qv,Qw,Qx,Qy,Qz,QA,QB,QC,QD,QE,QF,QG,QH,QI,QJ,QK,QL,QM,QN,QO,QP,QQ]
     refine CallC.of (has_spec ms false tr hm) (by rfl) ?_
     by_cases e2:tr∈ms
     ·rw [decide_eq_true e2] at sp ⊢
      simp only [Bool.or_true,Bool.true_or,if_true] at sp
      simp (config:={maxSteps:=1000000}) (disch:=((try simp only [awL]);omega)) only [QR,QS,QT,QU,QV,QW,QX,QY,QZ,Q0,Q1,Q2,lc,al,↓awU,awV,awF,Qa,Qb,Qc,Qd,forall_const,↓reduceIte,↓reduceDIte,↓Qe,Qf,Qg,Qh,Qi,Qj,Qk,Ql,Qm,Qn,Qo,Qp,Qq,Qr,Qs,implies_true,Qt,Qu,Qv,Qw,Qx,Qy,Qz,QA,QB,QC,QD,QE,QF,QG,QH,QI,QJ,QK,QL,QM,QN,QO,QP,QQ]
      first
      | exact ⟨i+1,h,by simp only;omega,⟨[some 0,some 1,some 2,some 6],rfl,by simp,by simp [setsA,keepA,SWeak,AWeak],by simp [HWeak,BWeak,SWeak,AWeak,cut,← sp,hb0]⟩⟩
      | exact ⟨by rfl,i+1,h,by simp only;omega,⟨[some 0,some 1,some 2,some 6],rfl,by simp,by simp [setsA,keepA,SWeak,AWeak],by simp [HWeak,BWeak,SWeak,AWeak,cut,← sp,hb0]⟩⟩
     ·rw [decide_eq_false e2] at sp ⊢
      simp only [Bool.or_false,Bool.false_eq_true,if_false] at sp
      simp (config:={maxSteps:=1000000}) (disch:=((try simp only [awL]);omega)) only [QR,QS,QT,QU,QV,QW,QX,QY,QZ,Q0,Q1,Q2,lc,al,↓awU,awV,awF,Qa,Qb,Qc,Qd,forall_const,↓reduceIte,↓reduceDIte,↓Qe,Qf,Qg,Qh,Qi,Qj,Qk,Ql,Qm,Qn,Qo,Qp,Qq,Qr,Qs,implies_true,Qt,Qu,Qv,Qw,Qx,Qy,Qz,QA,QB,QC,QD,QE,QF,QG,QH,QI,QJ,QK,QL,QM,QN,QO,QP,QQ]
      first
      | exact ⟨i+1,h,by simp only;omega,⟨[some 0,some 1,some 2,some 6],rfl,by simp,by simp [setsA,keepA,SWeak,AWeak],by simp [HWeak,BWeak,SWeak,AWeak,cut,← sp,hb0]⟩⟩
      | exact ⟨by rfl,i+1,h,by simp only;omega,⟨[some 0,some 1,some 2,some 6],rfl,by simp,by simp [setsA,keepA,SWeak,AWeak],by simp [HWeak,BWeak,SWeak,AWeak,cut,← sp,hb0]⟩⟩
   ·simp only [Bool.true_or,if_true] at sp
    simp (config:={maxSteps:=1000000}) (disch:=((try simp only [awL]);omega)) only [QR,QS,QT,QU,QV,QW,QX,QY,QZ,Q0,Q1,Q2,lc,al,↓awU,awV,awF,Qa,Qb,Qc,Qd,forall_const,↓reduceIte,↓reduceDIte,↓Qe,Qf,Qg,Qh,Qi,Qj,Qk,Ql,Qm,Qn,Qo,Qp,Qq,Qr,Qs,implies_true,Qt,Qu,Qv,Qw,Qx,Qy,Qz,QA,QB,QC,QD,QE,QF,QG,QH,QI,QJ,QK,QL,QM,QN,QO,QP,QQ]
    first
    | exact ⟨i+1,h,by simp only;omega,⟨[some 0,some 1,some 2,some 6],rfl,by simp,by simp [setsA,keepA,SWeak,AWeak],by simp [HWeak,BWeak,SWeak,AWeak,cut,← sp,hb0]⟩⟩
    | exact ⟨by rfl,i+1,h,by simp only;omega,⟨[some 0,some 1,some 2,some 6],rfl,by simp,by simp [setsA,keepA,SWeak,AWeak],by simp [HWeak,BWeak,SWeak,AWeak,cut,← sp,hb0]⟩⟩
  ·have e:i=l.length:=by omega
   subst e
   rw [List.take_length] at al
   have ll:=apL_len ms l
   have cu:cut (celsD (apL ms l)) 0 (l.length*2)=celsD (apL ms l):=by unfold cut;rw [List.drop_zero,List.take_of_length_le (by omega)]
   simp (config:={maxSteps:=1000000}) (disch:=((try simp only [awL]);omega)) only [QR,QS,QT,QU,QV,QW,QX,QY,QZ,Q0,Q1,Q2,lc,al,List.take_length,↓awU,awV,awF,Qa,Qb,Qc,Qd,forall_const,↓reduceIte,↓reduceDIte,↓Qe,Qf,Qg,Qh,Qi,Qj,Qk,Ql,Qm,Qn,Qo,Qp,Qq,Qr,Qs,implies_true,Qt,Qu,Qv,Qw,Qx,Qy,Qz,QA,QB,QC,QD,QE,QF,QG,QH,QI,QJ,QK,QL,QM,QN,QO,QP,QQ]
   show _=D.agg [S nm,.sl (apL ms l).length false (celsD (apL ms l))]
   rw [ll,cu]
end Go.Proofs.YtkgbbdoeodmkgaaGreatDoor
namespace Go.Proofs.YtkgbbdoeodmkgaaGreatDoor
open Go Go.Proofs Go.Abs
variable {G:Globals}
def mdCel (t:List Int) (kind k:Nat):Cel:=if pk t (fieldK t (k+1) (if pk t k 3=0 then 5 else kind)) 9=0 then ([],true) else (fieldM t (k+1) (if pk t k 3=0 then 5 else kind),false)
def mdNext (t:List Int) (kind k:Nat):Nat:=fieldK t (k+1) (if pk t k 3=0 then 5 else kind)+1
def mdL (t:List Int) (kind:Nat):Nat→Nat→List Cel × Nat
 | 0,k=>([],k)
 | n+1,k=>(mdCel t kind k::(mdL t kind n (mdNext t kind k)).1,(mdL t kind n (mdNext t kind k)).2)
def madeL (t:List Int) (k:Nat):List Cel:=(mdL t (pk t k 6).toNat (pk t (k+1) 9).toNat (k+2)).1
def madeK (t:List Int) (k:Nat):Nat:=(mdL t (pk t k 6).toNat (pk t (k+1) 9).toNat (k+2)).2
theorem mdL_ok (t:List Int) (kind:Nat):∀ n k,(mdL t kind n k).1.length=n∧∀ x∈(mdL t kind n k).1,okT x.1
 | 0,k=>⟨rfl,fun x h=>by cases h⟩
 | n+1,k=>by
   rw [mdL]
   have ih:=mdL_ok t kind n (mdNext t kind k)
   refine ⟨by rw [List.length_cons,ih.1],fun x hx=>?_⟩
   rcases List.mem_cons.1 hx with e | hx
   ·rw [e]
    unfold mdCel
    by_cases q:pk t (fieldK t (k+1) (if pk t k 3=0 then 5 else kind)) 9=0
    ·rw [if_pos q];exact okT_nil
    ·rw [if_neg q];exact fieldM_ok _ _ _
   ·exact ih.2 x hx
theorem madeL_ok (t:List Int) (k:Nat):(madeL t k).length≤8∧∀ x∈madeL t k,okT x.1:=by
 have h1:=mdL_ok t (pk t k 6).toNat (pk t (k+1) 9).toNat (k+2)
 have h2:=@pk_range t (k+1) 9 (by decide)
 unfold madeL
 exact ⟨by omega,h1.2⟩
theorem madeL_okL (t:List Int) (k:Nat):okL (madeL t k):=⟨by have:=(madeL_ok t k).1;omega,fun x hx=>by have:=((madeL_ok t k).2 x hx).2;omega⟩
theorem celsD_set {l:List Cel} {x y:Cel}:(celsD (l++[x])).take (l.length*2)++CelC y++(celsD (l++[x])).drop (l.length*2+2)=celsD (l++[y]):=by
 have e:celsD (l++[x])=celsD l++CelC x:=by simp [celsD]
 have e2:celsD (l++[y])=celsD l++CelC y:=by simp [celsD]
 have ll:=celsD_length l
 rw [e,e2,List.take_append_of_le_length (by omega),List.take_of_length_le (by omega),List.drop_append,List.drop_of_length_le (by omega),show l.length*2+2 - (celsD l).length=2 by omega]
 simp
set_option maxHeartbeats 16000000 in
set_option maxRecDepth 100000 in
theorem made_spec (t:List Int) (k:Nat) (ht:OkM t) :
  Ctr Tryz.prog G 7 [.ptr 0 0] [DiceM t k] (.d (.agg [S [99],CelS (madeL t k) false])) [DiceM t (madeK t k)]:=by
 obtain ⟨r,hr⟩:∃ r,r=madeL t k:=⟨_,rfl⟩
 obtain ⟨k2,hk⟩:∃ k2,k2=madeK t k:=⟨_,rfl⟩
 rw [← hr,← hk]
 unfold madeL at hr
 unfold madeK at hk
 refine Ctr.body (M:=M0) hmix Tryz.func7 rfl go7 ?_
 obtain ⟨kind,hc,hc2⟩:=pk_nat t k 6 (by decide)
 obtain ⟨m,hm,hm2⟩:=pk_nat t (k+1) 9 (by decide)
 rw [hc,hm,Int.toNat_natCast,Int.toNat_natCast] at hr hk
 simp (config:={maxSteps:=1000000}) (disch:=((try simp only [awL]);omega)) only [QR,QS,QT,QU,QV,QW,QX,QY,QZ,Q0,Q1,Q2,Tryz.f7,↓awU,awV,awF,Qa,Qb,Qc,Qd,forall_const,↓reduceIte,↓reduceDIte,↓Qe,Qf,Qg,Qh,Qi,Qj,Qk,Ql,Qm,Qn,Qo,Qp,Qq,Qr,Qs,implies_true,Qt,Qu,Qv,Qw,Qx,Qy,Qz,QA,QB,QC,QD,QE,QF,QG,QH,QI,QJ,QK,QL,QM,QN,QO,QP,QQ]
 refine CallC.by (pick_spec t k 6 ht (by decide) (by decide)) (by rfl) (by rfl) (Nat.le_refl _) ?_
 rw [hc]
 simp (config:={maxSteps:=1000000}) (disch:=((try simp only [awL]);omega)) only [QR,QS,QT,QU,QV,QW,QX,QY,QZ,Q0,Q1,Q2,↓awU,awV,awF,Qa,Qb,Qc,Qd,forall_const,↓reduceIte,↓reduceDIte,↓Qe,Qf,Qg,Qh,Qi,Qj,Qk,Ql,Qm,Qn,Qo,Qp,Qq,Qr,Qs,implies_true,Qt,Qu,Qv,Qw,Qx,Qy,Qz,QA,QB,QC,QD,QE,QF,QG,QH,QI,QJ,QK,QL,QM,QN,QO,QP,QQ]
 refine CallC.by (pick_spec t (k+1) 9 ht (by decide) (by decide)) (by rfl) (by rfl) (Nat.le_refl _) ?_
 rw [hm]
 simp (config:={maxSteps:=1000000}) (disch:=((try simp only [awL]);omega)) only [QR,QS,QT,QU,QV,QW,QX,QY,QZ,Q0,Q1,Q2,↓awU,awV,awF,Qa,Qb,Qc,Qd,forall_const,↓reduceIte,↓reduceDIte,↓Qe,Qf,Qg,Qh,Qi,Qj,Qk,Ql,Qm,Qn,Qo,Qp,Qq,Qr,Qs,implies_true,Qt,Qu,Qv,Qw,Qx,Qy,Qz,QA,QB,QC,QD,QE,QF,QG,QH,QI,QJ,QK,QL,QM,QN,QO,QP,QQ]
 refine LoopC.fr 29 (α:=List Cel × Nat × Nat) (fun x=>x.2.1) (fun x=>[(5,.d (.int .i64 (x.2.1:Nat)))]) (fun x=>[DiceM t x.2.2,.box [.d (.str ByteArray.empty),.d (.sl 0 true [])],.box [.d (S [99]),.lsl 3 2 0 x.1.length],.row false (celsD x.1)])
  (fun x=>x.1.length+x.2.1≤8∧r=x.1++(mdL t kind x.2.1 x.2.2).1∧k2=(mdL t kind x.2.1 x.2.2).2) ([],m,k+2) ⟨by simp only [List.length_nil];omega,hr,hk⟩ ?_ ?_
 ·exact ⟨[some 0,some 1,some 2,none],rfl,by simp,by simp [setsA,keepA,SWeak,AWeak],by simp [HWeak,BWeak,SWeak,AWeak,celsD]⟩
 ·rintro ⟨acc,n,p⟩ ⟨h1,h2,h3⟩
  simp only at h1 h2 h3
  have al:=celsD_length acc
  simp only [awK,Nat.reduceMod,Nat.reduceDiv,reduceIte]
  match n with
  | 0 =>
   simp only [mdL,List.append_nil] at h2 h3
   subst h2 h3
   have cu:cut (celsD r) 0 (r.length*2)=celsD r:=by unfold cut;rw [List.drop_zero,List.take_of_length_le (by omega)]
   simp (config:={maxSteps:=1000000}) (disch:=((try simp only [awL]);omega)) only [QR,QS,QT,QU,QV,QW,QX,QY,QZ,Q0,Q1,Q2,al,cu,↓awU,awV,awF,Qa,Qb,Qc,Qd,forall_const,↓reduceIte,↓reduceDIte,↓Qe,Qf,Qg,Qh,Qi,Qj,Qk,Ql,Qm,Qn,Qo,Qp,Qq,Qr,Qs,implies_true,Qt,Qu,Qv,Qw,Qx,Qy,Qz,QA,QB,QC,QD,QE,QF,QG,QH,QI,QJ,QK,QL,QM,QN,QO,QP,QQ]
   refine ⟨[some 0],rfl,by simp,by simp [HWeak,BWeak,SWeak,AWeak],.inr ⟨_,rfl,?_,rfl⟩⟩
   simp (config:={maxSteps:=1000000}) (disch:=((try simp only [awL]);omega)) only [QR,QS,QT,QU,QV,QW,QX,QY,QZ,Q0,Q1,Q2,cu,↓awU,awV,awF,Qa,Qb,Qc,Qd,forall_const,↓reduceIte,↓reduceDIte,↓Qe,Qf,Qg,Qh,Qi,Qj,Qk,Ql,Qm,Qn,Qo,Qp,Qq,Qr,Qs,implies_true,Qt,Qu,Qv,Qw,Qx,Qy,Qz,QA,QB,QC,QD,QE,QF,QG,QH,QI,QJ,QK,QL,QM,QN,QO,QP,QQ]
   try rfl
  | n+1 =>
   simp only [mdL] at h2 h3
   unfold mdCel mdNext at h2
   unfold mdNext at h3
   obtain ⟨kd,hkd⟩:∃ kd:Nat,kd=if pk t p 3=0 then 5 else kind:=⟨_,rfl⟩
   rw [← hkd] at h2 h3
   have kd6:kd≤5:=by rw [hkd];split<;>omega
   simp (config:={maxSteps:=1000000}) (disch:=((try simp only [awL]);omega)) only [QR,QS,QT,QU,QV,QW,QX,QY,QZ,Q0,Q1,Q2,↓awU,awV,awF,Qa,Qb,Qc,Qd,forall_const,↓reduceIte,↓reduceDIte,↓Qe,Qf,Qg,Qh,Qi,Qj,Qk,Ql,Qm,Qn,Qo,Qp,Qq,Qr,Qs,implies_true,Qt,Qu,Qv,Qw,Qx,Qy,Qz,QA,QB,QC,QD,QE,QF,QG,QH,QI,QJ,QK,QL,QM,QN,QO,QP,QQ]
   refine CallC.by (pick_spec t p 3 ht (by decide) (by decide)) (by rfl) (by rfl) (Nat.le_refl _) ?_
   by_cases e:pk t p 3=0
   ·rw [if_pos e] at hkd
    rw [e]
    subst hkd
    simp (config:={maxSteps:=1000000}) (disch:=((try simp only [awL]);omega)) only [QR,QS,QT,QU,QV,QW,QX,QY,QZ,Q0,Q1,Q2,↓awU,awV,awF,Qa,Qb,Qc,Qd,forall_const,↓reduceIte,↓reduceDIte,↓Qe,Qf,Qg,Qh,Qi,Qj,Qk,Ql,Qm,Qn,Qo,Qp,Qq,Qr,Qs,implies_true,Qt,Qu,Qv,Qw,Qx,Qy,Qz,QA,QB,QC,QD,QE,QF,QG,QH,QI,QJ,QK,QL,QM,QN,QO,QP,QQ]
    refine CallC.by (field_mspec t (p+1) 5 ht (by decide)) (by rfl) (by rfl) (Nat.le_refl _) ?_
    generalize fieldM t (p+1) 5=x at *
    generalize fieldK t (p+1) 5=p2 at *
    have sp:=celsD_push acc (x,false)
    have tl:(acc++[(x,false)]).length=acc.length+1:=by simp
    have st:=@celsD_set acc (x,false) ([],true)
    have hb0:ByteArray.empty=bs []:=rfl
    simp only at sp
    have cu2:cut [D.bool false,D.str (bs x)] 0 2=[D.bool false,D.str (bs x)]:=rfl
    simp (config:={maxSteps:=1000000}) (disch:=((try simp only [awL]);omega)) only [QR,QS,QT,QU,QV,QW,QX,QY,QZ,Q0,Q1,Q2,al,cu2,sp,List.length_cons,List.length_nil,↓awU,awV,awF,Qa,Qb,Qc,Qd,forall_const,↓reduceIte,↓reduceDIte,↓Qe,Qf,Qg,Qh,Qi,Qj,Qk,Ql,Qm,Qn,Qo,Qp,Qq,Qr,Qs,implies_true,Qt,Qu,Qv,Qw,Qx,Qy,Qz,QA,QB,QC,QD,QE,QF,QG,QH,QI,QJ,QK,QL,QM,QN,QO,QP,QQ]
    refine ⟨by rfl,?_⟩
    refine CallC.by (pick_spec t p2 9 ht (by decide) (by decide)) (by rfl) (by rfl) (Nat.le_refl _) ?_
    by_cases q:pk t p2 9=0
    ·rw [if_pos q] at h2
     rw [q]
     have h4:r=(acc++[([],true)])++(mdL t kind n (p2+1)).1:=by rw [h2];simp
     have tl2:(acc++[(([],true):Cel)]).length=acc.length+1:=by simp
     generalize acc++[(x,false)]=acc1 at *
     generalize acc++[(([],true):Cel)]=acc2 at *
     simp (config:={maxSteps:=1000000}) (disch:=((try simp only [awL]);omega)) only [QR,QS,QT,QU,QV,QW,QX,QY,QZ,Q0,Q1,Q2,al,tl,↓awU,awV,awF,Qa,Qb,Qc,Qd,forall_const,↓reduceIte,↓reduceDIte,↓Qe,Qf,Qg,Qh,Qi,Qj,Qk,Ql,Qm,Qn,Qo,Qp,Qq,Qr,Qs,implies_true,Qt,Qu,Qv,Qw,Qx,Qy,Qz,QA,QB,QC,QD,QE,QF,QG,QH,QI,QJ,QK,QL,QM,QN,QO,QP,QQ]
     have st2:List.take (acc.length*2) (celsD acc1)++[D.bool true,D.str ByteArray.empty]++List.drop (acc.length*2+2) (celsD acc1)=celsD acc2:=st
     rw [st2]
     exact ⟨by rw [celsD_length];omega,(acc2,n,p2+1),⟨by simp only;omega,h4,h3⟩,by simp only;omega,⟨[some 0,some 1,some 2,some 5],rfl,by simp,by simp [setsA,keepA,SWeak,AWeak],by simp [HWeak,BWeak,SWeak,AWeak,tl2]⟩⟩
    ·rw [if_neg q] at h2
     have q0:(pk t p2 9=0)=False:=eq_false q
     have h4:r=(acc++[(x,false)])++(mdL t kind n (p2+1)).1:=by rw [h2];simp
     generalize acc++[(x,false)]=acc2 at *
     simp (config:={maxSteps:=1000000}) (disch:=((try simp only [awL]);omega)) only [QR,QS,QT,QU,QV,QW,QX,QY,QZ,Q0,Q1,Q2,al,q0,↓awU,awV,awF,Qa,Qb,Qc,Qd,forall_const,↓reduceIte,↓reduceDIte,↓Qe,Qf,Qg,Qh,Qi,Qj,Qk,Ql,Qm,Qn,Qo,Qp,Qq,Qr,Qs,implies_true,Qt,Qu,Qv,Qw,Qx,Qy,Qz,QA,QB,QC,QD,QE,QF,QG,QH,QI,QJ,QK,QL,QM,QN,QO,QP,QQ]
     first
     | exact ⟨(acc2,n,p2+1),⟨by simp only;omega,h4,h3⟩,by simp only;omega,⟨[some 0,some 1,some 2,some 5],rfl,by simp,by simp [setsA,keepA,SWeak,AWeak],by simp [HWeak,BWeak,SWeak,AWeak,tl]⟩⟩
   ·rw [if_neg e] at hkd
    subst hkd
    have e0:(pk t p 3=0)=False:=eq_false e
    simp (config:={maxSteps:=1000000}) (disch:=((try simp only [awL]);omega)) only [QR,QS,QT,QU,QV,QW,QX,QY,QZ,Q0,Q1,Q2,e0,↓awU,awV,awF,Qa,Qb,Qc,Qd,forall_const,↓reduceIte,↓reduceDIte,↓Qe,Qf,Qg,Qh,Qi,Qj,Qk,Ql,Qm,Qn,Qo,Qp,Qq,Qr,Qs,implies_true,Qt,Qu,Qv,Qw,Qx,Qy,Qz,QA,QB,QC,QD,QE,QF,QG,QH,QI,QJ,QK,QL,QM,QN,QO,QP,QQ]
    refine CallC.by (field_mspec t (p+1) kd ht (by omega)) (by rfl) (by rfl) (Nat.le_refl _) ?_
    generalize fieldM t (p+1) kd=x at *
    generalize fieldK t (p+1) kd=p2 at *
    have sp:=celsD_push acc (x,false)
    have tl:(acc++[(x,false)]).length=acc.length+1:=by simp
    have st:=@celsD_set acc (x,false) ([],true)
    have hb0:ByteArray.empty=bs []:=rfl
    simp only at sp
    have cu2:cut [D.bool false,D.str (bs x)] 0 2=[D.bool false,D.str (bs x)]:=rfl
    simp (config:={maxSteps:=1000000}) (disch:=((try simp only [awL]);omega)) only [QR,QS,QT,QU,QV,QW,QX,QY,QZ,Q0,Q1,Q2,al,cu2,sp,List.length_cons,List.length_nil,↓awU,awV,awF,Qa,Qb,Qc,Qd,forall_const,↓reduceIte,↓reduceDIte,↓Qe,Qf,Qg,Qh,Qi,Qj,Qk,Ql,Qm,Qn,Qo,Qp,Qq,Qr,Qs,implies_true,Qt,Qu,Qv,Qw,Qx,Qy,Qz,QA,QB,QC,QD,QE,QF,QG,QH,QI,QJ,QK,QL,QM,QN,QO,QP,QQ]
    refine ⟨by rfl,?_⟩
    refine CallC.by (pick_spec t p2 9 ht (by decide) (by decide)) (by rfl) (by rfl) (Nat.le_refl _) ?_
    by_cases q:pk t p2 9=0
    ·rw [if_pos q] at h2
     rw [q]
     have h4:r=(acc++[([],true)])++(mdL t kd n (p2+1)).1:=by rw [h2];simp
     have tl2:(acc++[(([],true):Cel)]).length=acc.length+1:=by simp
     generalize acc++[(x,false)]=acc1 at *
     generalize acc++[(([],true):Cel)]=acc2 at *
     simp (config:={maxSteps:=1000000}) (disch:=((try simp only [awL]);omega)) only [QR,QS,QT,QU,QV,QW,QX,QY,QZ,Q0,Q1,Q2,al,tl,↓awU,awV,awF,Qa,Qb,Qc,Qd,forall_const,↓reduceIte,↓reduceDIte,↓Qe,Qf,Qg,Qh,Qi,Qj,Qk,Ql,Qm,Qn,Qo,Qp,Qq,Qr,Qs,implies_true,Qt,Qu,Qv,Qw,Qx,Qy,Qz,QA,QB,QC,QD,QE,QF,QG,QH,QI,QJ,QK,QL,QM,QN,QO,QP,QQ]
     have st2:List.take (acc.length*2) (celsD acc1)++[D.bool true,D.str ByteArray.empty]++List.drop (acc.length*2+2) (celsD acc1)=celsD acc2:=st
     rw [st2]
     exact ⟨by rw [celsD_length];omega,(acc2,n,p2+1),⟨by simp only;omega,h4,h3⟩,by simp only;omega,⟨[some 0,some 1,some 2,some 5],rfl,by simp,by simp [setsA,keepA,SWeak,AWeak],by simp [HWeak,BWeak,SWeak,AWeak,tl2]⟩⟩
    ·rw [if_neg q] at h2
     have q0:(pk t p2 9=0)=False:=eq_false q
     have h4:r=(acc++[(x,false)])++(mdL t kd n (p2+1)).1:=by rw [h2];simp
     generalize acc++[(x,false)]=acc2 at *
     simp (config:={maxSteps:=1000000}) (disch:=((try simp only [awL]);omega)) only [QR,QS,QT,QU,QV,QW,QX,QY,QZ,Q0,Q1,Q2,al,q0,↓awU,awV,awF,Qa,Qb,Qc,Qd,forall_const,↓reduceIte,↓reduceDIte,↓Qe,Qf,Qg,Qh,Qi,Qj,Qk,Ql,Qm,Qn,Qo,Qp,Qq,Qr,Qs,implies_true,Qt,Qu,Qv,Qw,Qx,Qy,Qz,QA,QB,QC,QD,QE,QF,QG,QH,QI,QJ,QK,QL,QM,QN,QO,QP,QQ]
     first
     | exact ⟨(acc2,n,p2+1),⟨by simp only;omega,h4,h3⟩,by simp only;omega,⟨[some 0,some 1,some 2,some 5],rfl,by simp,by simp [setsA,keepA,SWeak,AWeak],by simp [HWeak,BWeak,SWeak,AWeak,tl]⟩⟩
end Go.Proofs.YtkgbbdoeodmkgaaGreatDoor
namespace Go.Proofs.YtkgbbdoeodmkgaaGreatDoor
open Go Go.Proofs Go.Abs
variable {G:Globals}
theorem ntakeO_spec (l:List Opt) (full:Bool) (hl:l.length≤1000000) (hj:(Lib.join (takeZ (toZ l)) [124]).length≤1000000000) :
  Ctr Tryz.prog G 9 [.d (.sl l.length full (optC l))] [] (.d (S (Lib.join (takeZ (toZ l)) [124]))) []:=by
 have h:=ntake_spec (G:=G) (toZ l) full (by rw [toZ_len];exact hl) hj
 rw [toZ_len,ozC_to] at h
 exact h
theorem rntakeO_spec (l:List Opt) (full:Bool) (hl:l.length≤1000000) (hj:(Lib.join (takeZ (toZ l)) [124]).length≤1000000000) :
  Ctr Tryz.prog G 19 [.d (.sl l.length full (optC l))] [] (.d (S (Lib.join (takeZ (toZ l)) [124]))) []:=by
 have h:=rntake_spec (G:=G) (toZ l) full (by rw [toZ_len];exact hl) hj
 rw [toZ_len,ozC_to] at h
 exact h
def fewL (l:List Cel):Row:=takeZ (toZ (nullO l))
theorem fewL_eq (l:List Cel):fewL l=if l.countP isOt=0 then knownL.filter (fun m=>decide (0<l.countP (isMk m))) else []:=by
 unfold fewL takeZ toZ nullO
 rw [List.map_map,List.filter_map,List.map_map]
 by_cases h:l.countP isOt=0
 ·rw [if_pos h]
  rw [List.filter_eq_self.2 (fun m _=>by simp [h])]
  simp [Function.comp_def]
 ·rw [if_neg h]
  rw [List.filter_eq_nil_iff.2 (fun m _=>by simp [h])]
  rfl
set_option maxRecDepth 100000 in
theorem known_ok:∀ m∈knownL,okMk m=true:=by decide +kernel
theorem known_nodup:knownL.Nodup:=by decide
theorem fewL_mem {l:List Cel} {m:List UInt8} (h:m∈fewL l):m∈knownL∧l.countP isOt=0:=by
 rw [fewL_eq] at h
 by_cases e:l.countP isOt=0
 ·rw [if_pos e] at h;exact ⟨(List.mem_filter.1 h).1,e⟩
 ·rw [if_neg e] at h;cases h
theorem fewL_valid (l:List Cel):validM (fewL l)=true:=by
 have h1:(fewL l).all okMk=true:=List.all_eq_true.2 fun m hm=>known_ok m (fewL_mem hm).1
 have h2:(fewL l).length≤16∧(fewL l).Nodup:=by
  rw [fewL_eq]
  split
  ·exact ⟨Nat.le_trans (List.length_filter_le _ _) (by decide),known_nodup.filter _⟩
  ·exact ⟨by simp,List.nodup_nil⟩
 unfold validM
 rw [h1,decide_eq_true h2.1,decide_eq_true h2.2];rfl
theorem cutL_app {c:UInt8}:∀ {x:List UInt8} (r:List UInt8),c∉x→c∈x++c::r∧cutL c (x++c::r)=x∧cutR c (x++c::r)=r
 | [],r,_=>by simp [cutL,cutR]
 | b::x,r,h=>by
   have hb:b≠c:=fun e=>h (by simp [e])
   obtain ⟨h1,h2,h3⟩:=cutL_app (x:=x) r (fun q=>h (List.mem_cons_of_mem _ q))
   refine ⟨by simp,?_,?_⟩
   ·show cutL c (b::(x++c::r))=b::x
    rw [cutL,if_neg hb,h2]
   ·show cutR c (b::(x++c::r))=r
    rw [cutR,if_neg hb,h3]
theorem splB_join {c:UInt8}:∀ {l:Row},l≠[]→(∀ s∈l,c∉s)→splB c (Lib.join l [c])=l
 | [],h,_=>absurd rfl h
 | [x],_,h=>by
   have e:Lib.join [x] [c]=x:=by simp [Lib.join,Lib.joinTail]
   rw [e,splB_last (h x (by simp))]
 | x::y::t,_,h=>by
   have e:Lib.join (x::y::t) [c]=x++c::Lib.join (y::t) [c]:=by simp [Lib.join,Lib.joinTail]
   obtain ⟨h1,h2,h3⟩:=cutL_app (c:=c) (x:=x) (Lib.join (y::t) [c]) (h x (by simp))
   rw [e,splB_more h1,h2,h3,splB_join (l:=y::t) (by simp) fun s hs=>h s (List.mem_cons_of_mem _ hs)]
theorem join_ne124 {l:Row} (h:l≠[]) (hs:∀ s∈l,s≠[]):Lib.join l [124]≠[]:=by
 rcases l with _ | ⟨x,l⟩
 ·exact absurd rfl h
 ·intro e
  have:x≠[]:=hs x (by simp)
  rcases l with _ | ⟨y,l⟩
  ·exact this (by simpa [Lib.join,Lib.joinTail] using e)
  ·simp [Lib.join,Lib.joinTail] at e
theorem par_join {l:Row} (h:validM l=true):parM (Lib.join l [124])=l∧parB (Lib.join l [124])=true:=by
 obtain ⟨_,h2,_⟩:=validM_len h
 unfold parM parB
 by_cases e:l=[]
 ·subst e;exact ⟨rfl,rfl⟩
 ·have hn:=join_ne124 e fun s hs=>(okMk_facts (h2 s hs)).1
  have hs:=splB_join (c:=124) e fun s hs=>(okMk_facts (h2 s hs)).2.2.2.1
  rw [if_neg hn,if_neg hn,hs,h]
  exact ⟨if_pos rfl,rfl⟩
theorem few_join_len (l:List Cel):(Lib.join (takeZ (toZ (nullO l))) [124]).length≤10000:=by
 have h:=validM_len (fewL_valid l)
 have h3:=join_len [124] 10 (Nat.le_refl _) (fewL l) fun s hs=>by
  have:∀ m∈knownL,m.length≤10:=by decide
  exact this s (fewL_mem hs).1
 have:(fewL l).length*(10+1)≤16*(10+1):=Nat.mul_le_mul_right _ h.1
 show (Lib.join (fewL l) [124]).length≤10000
 omega
theorem nullO_len (l:List Cel):(nullO l).length≤14:=nullP_len l 14
set_option maxHeartbeats 4000000 in
set_option maxRecDepth 100000 in
theorem column_spec (l:Row) (full:Bool) (hl:l.length≤1000):Ctr Tryz.prog G 27 [.d (Ss l full)] [] (.d (.agg [S [],CelS (l.map fun s=>(s,false)) false])) []:=by
 refine Ctr.pure (M:=M0) hmix Tryz.func27 rfl go27 ?_
 have sl:=@strs_length l
 simp (config:={maxSteps:=1000000}) (disch:=((try simp only [awL]);omega)) only [QR,QS,QT,QU,QV,QW,QX,QY,QZ,Q0,Q1,Q2,sl,Tryz.f27,↓awU,awV,awF,Qa,Qb,Qc,Qd,forall_const,↓reduceIte,↓reduceDIte,↓Qe,Qf,Qg,Qh,Qi,Qj,Qk,Ql,Qm,Qn,Qo,Qp,Qq,Qr,Qs,implies_true,Qt,Qu,Qv,Qw,Qx,Qy,Qz,QA,QB,QC,QD,QE,QF,QG,QH,QI,QJ,QK,QL,QM,QN,QO,QP,QQ]
 refine LoopC.fr 204 (α:=Nat) (fun i=>l.length - i) (fun i=>[(8,.d (.int .i64 (i:Nat)))]) (fun i=>[.box [.d (.str ByteArray.empty),.d (.sl 0 true [])],.box [.d (.str ByteArray.empty),.lsl 2 2 0 i],.row false (celsD ((l.take i).map fun s=>(s,false)))]) (fun i=>i≤l.length) 0 (Nat.zero_le _) ?_ ?_
 ·exact ⟨[some 0,some 1,none],rfl,by simp,by simp [setsA,keepA,SWeak,AWeak],by simp [HWeak,BWeak,SWeak,AWeak,celsD]⟩
 ·intro i hi
  have al:=celsD_length ((l.take i).map fun s=>((s,false):Cel))
  rw [List.length_map,List.length_take,Nat.min_eq_left hi] at al
  simp only [awK,Nat.reduceMod,Nat.reduceDiv,reduceIte]
  rcases Nat.lt_or_ge i l.length with h | h
  ·have sg:=strs_getD h
   have tk:(l.take (i+1)).map (fun s=>((s,false):Cel))=(l.take i).map (fun s=>((s,false):Cel))++[(l.getD i [],false)]:=by
    rw [List.take_add_one,getD_some (d:=[]) h,List.map_append];rfl
   have sp:=celsD_push ((l.take i).map fun s=>((s,false):Cel)) (l.getD i [],false)
   rw [← tk] at sp
   simp only at sp
   have sp2:celsD (List.take i (List.map (fun s=>((s,false):Cel)) l))++[D.bool false,D.str (bs (l.getD i []))]=celsD (List.take (i+1) (List.map (fun s=>((s,false):Cel)) l)):=by
    rw [← List.map_take,← List.map_take];exact sp
   generalize l.getD i []=m at *
   simp (config:={maxSteps:=1000000}) (disch:=((try simp only [awL]);omega)) only [QR,QS,QT,QU,QV,QW,QX,QY,QZ,Q0,Q1,Q2,sl,sg,al,↓awU,awV,awF,Qa,Qb,Qc,Qd,forall_const,↓reduceIte,↓reduceDIte,↓Qe,Qf,Qg,Qh,Qi,Qj,Qk,Ql,Qm,Qn,Qo,Qp,Qq,Qr,Qs,implies_true,Qt,Qu,Qv,Qw,Qx,Qy,Qz,QA,QB,QC,QD,QE,QF,QG,QH,QI,QJ,QK,QL,QM,QN,QO,QP,QQ]
   first
   | exact ⟨i+1,h,by simp only;omega,⟨[some 0,some 1,some 4],rfl,by simp,by simp [setsA,keepA,SWeak,AWeak],by simp [HWeak,BWeak,SWeak,AWeak,cut,sp2]⟩⟩
   | exact ⟨by rfl,i+1,h,by simp only;omega,⟨[some 0,some 1,some 4],rfl,by simp,by simp [setsA,keepA,SWeak,AWeak],by simp [HWeak,BWeak,SWeak,AWeak,cut,sp2]⟩⟩
  ·have e:i=l.length:=by omega
   subst e
   rw [List.take_length] at al
   have cu:cut (celsD (l.map fun s=>((s,false):Cel))) 0 (l.length*2)=celsD (l.map fun s=>((s,false):Cel)):=by unfold cut;rw [List.drop_zero,List.take_of_length_le (by omega)]
   simp (config:={maxSteps:=1000000}) (disch:=((try simp only [awL]);omega)) only [QR,QS,QT,QU,QV,QW,QX,QY,QZ,Q0,Q1,Q2,sl,al,List.take_length,↓awU,awV,awF,Qa,Qb,Qc,Qd,forall_const,↓reduceIte,↓reduceDIte,↓Qe,Qf,Qg,Qh,Qi,Qj,Qk,Ql,Qm,Qn,Qo,Qp,Qq,Qr,Qs,implies_true,Qt,Qu,Qv,Qw,Qx,Qy,Qz,QA,QB,QC,QD,QE,QF,QG,QH,QI,QJ,QK,QL,QM,QN,QO,QP,QQ]
   show _=D.agg [S [],.sl (l.map fun s=>((s,false):Cel)).length false (celsD (l.map fun s=>((s,false):Cel)))]
   rw [List.length_map,cu];rfl
def exA:Row:=[[51],[78,65],[53],[45]]
def exB:Row:=[[121,101,115],[110,111,110,101],[109,97,121,98,101]]
def exC:Row:=[[51],[78,65],[32],[45]]
def exCel (l:Row):List Cel:=l.map fun s=>(s,false)
set_option maxRecDepth 100000 in
theorem ex_few:fewL (exCel exA)=[[78,65],[45]]∧fewL (exCel exB)=[]∧celsD (apL [[78,65],[45]] (exCel exC))=[.bool false,S [51],.bool true,S [],.bool true,S [],.bool true,S []]:=by
 refine ⟨by decide +kernel,by decide +kernel,?_⟩
 have:apL [[78,65],[45]] (exCel exC)=[([51],false),([],true),([],true),([],true)]:=by decide +kernel
 rw [this];rfl
theorem exCel_ok {l:Row} (h:l.length≤10∧∀ s∈l,s.length≤10):okL (exCel l):=⟨by unfold exCel;rw [List.length_map];omega,fun x hx=>by
 obtain ⟨s,hs,rfl⟩:=List.mem_map.1 hx
 have:=h.2 s hs
 simp only;omega⟩
set_option maxHeartbeats 8000000 in
set_option maxRecDepth 100000 in
theorem nsane_spec (hG:Num.HG G) (hT:HT G) (hK:HK G):Ctr Tryz.prog G 5 [] [] (.d (.bool true)) []:=by
 refine Ctr.pure (M:=M0) hmix Tryz.func5 rfl go5 ?_
 obtain ⟨x1,x2,x3⟩:=ex_few
 have oA:=exCel_ok (l:=exA) (by decide)
 have oB:=exCel_ok (l:=exB) (by decide)
 have oC:=exCel_ok (l:=exC) (by decide)
 have vA:=noptions_spec hG hK [] (exCel exA) false oA
 have vB:=noptions_spec hG hK [] (exCel exB) false oB
 have lA:=nullO_len (exCel exA)
 have lB:=nullO_len (exCel exB)
 have tA:=ntakeO_spec (G:=G) (nullO (exCel exA)) false (by omega) (by have:=few_join_len (exCel exA);omega)
 have tB:=ntakeO_spec (G:=G) (nullO (exCel exB)) false (by omega) (by have:=few_join_len (exCel exB);omega)
 rw [show takeZ (toZ (nullO (exCel exA)))=fewL (exCel exA) from rfl,x1] at tA
 rw [show takeZ (toZ (nullO (exCel exB)))=fewL (exCel exB) from rfl,x2] at tB
 have j1:Lib.join [[78,65],[45]] [124]=[78,65,124,45]:=rfl
 have j2:Lib.join ([]:Row) [124]=[]:=rfl
 rw [j1] at tA
 rw [j2] at tB
 have pv:validM [[78,65],[45]]=true:=by decide +kernel
 obtain ⟨p1,p2⟩:=par_join pv
 rw [j1] at p1 p2
 have pa:=nparse_spec hT [78,65,124,45] (by decide)
 rw [p1,p2] at pa
 have ap:=napply_spec (G:=G) [] (exCel exC) false oC [[78,65],[45]] false (by decide)
 have al:=apL_len [[78,65],[45]] (exCel exC)
 unfold CelS at ap
 rw [x3,al] at ap
 simp (config:={maxSteps:=1000000}) (disch:=((try simp only [awL]);omega)) only [QR,QS,QT,QU,QV,QW,QX,QY,QZ,Q0,Q1,Q2,Tryz.f5,↓awU,awV,awF,Qa,Qb,Qc,Qd,forall_const,↓reduceIte,↓reduceDIte,↓Qe,Qf,Qg,Qh,Qi,Qj,Qk,Ql,Qm,Qn,Qo,Qp,Qq,Qr,Qs,implies_true,Qt,Qu,Qv,Qw,Qx,Qy,Qz,QA,QB,QC,QD,QE,QF,QG,QH,QI,QJ,QK,QL,QM,QN,QO,QP,QQ]
 refine CallC.frozenE (column_spec exA false (by decide)) (by rfl) ?_
 simp (config:={maxSteps:=1000000}) (disch:=((try simp only [awL]);omega)) only [QR,QS,QT,QU,QV,QW,QX,QY,QZ,Q0,Q1,Q2,↓awU,awV,awF,Qa,Qb,Qc,Qd,forall_const,↓reduceIte,↓reduceDIte,↓Qe,Qf,Qg,Qh,Qi,Qj,Qk,Ql,Qm,Qn,Qo,Qp,Qq,Qr,Qs,implies_true,Qt,Qu,Qv,Qw,Qx,Qy,Qz,QA,QB,QC,QD,QE,QF,QG,QH,QI,QJ,QK,QL,QM,QN,QO,QP,QQ]
 refine CallC.of vA (by rfl) ?_
 simp (config:={maxSteps:=1000000}) (disch:=((try simp only [awL]);omega)) only [QR,QS,QT,QU,QV,QW,QX,QY,QZ,Q0,Q1,Q2,↓awU,awV,awF,Qa,Qb,Qc,Qd,forall_const,↓reduceIte,↓reduceDIte,↓Qe,Qf,Qg,Qh,Qi,Qj,Qk,Ql,Qm,Qn,Qo,Qp,Qq,Qr,Qs,implies_true,Qt,Qu,Qv,Qw,Qx,Qy,Qz,QA,QB,QC,QD,QE,QF,QG,QH,QI,QJ,QK,QL,QM,QN,QO,QP,QQ]
 refine CallC.of tA (by rfl) ?_
 simp (config:={maxSteps:=1000000}) (disch:=((try simp only [awL]);omega)) only [QR,QS,QT,QU,QV,QW,QX,QY,QZ,Q0,Q1,Q2,↓awU,awV,awF,Qa,Qb,Qc,Qd,forall_const,↓reduceIte,↓reduceDIte,↓Qe,Qf,Qg,Qh,Qi,Qj,Qk,Ql,Qm,Qn,Qo,Qp,Qq,Qr,Qs,implies_true,Qt,Qu,Qv,Qw,Qx,Qy,Qz,QA,QB,QC,QD,QE,QF,QG,QH,QI,QJ,QK,QL,QM,QN,QO,QP,QQ]
 refine CallC.frozenE (column_spec exB false (by decide)) (by rfl) ?_
 simp (config:={maxSteps:=1000000}) (disch:=((try simp only [awL]);omega)) only [QR,QS,QT,QU,QV,QW,QX,QY,QZ,Q0,Q1,Q2,↓awU,awV,awF,Qa,Qb,Qc,Qd,forall_const,↓reduceIte,↓reduceDIte,↓Qe,Qf,Qg,Qh,Qi,Qj,Qk,Ql,Qm,Qn,Qo,Qp,Qq,Qr,Qs,implies_true,Qt,Qu,Qv,Qw,Qx,Qy,Qz,QA,QB,QC,QD,QE,QF,QG,QH,QI,QJ,QK,QL,QM,QN,QO,QP,QQ]
 refine CallC.of vB (by rfl) ?_
 simp (config:={maxSteps:=1000000}) (disch:=((try simp only [awL]);omega)) only [QR,QS,QT,QU,QV,QW,QX,QY,QZ,Q0,Q1,Q2,↓awU,awV,awF,Qa,Qb,Qc,Qd,forall_const,↓reduceIte,↓reduceDIte,↓Qe,Qf,Qg,Qh,Qi,Qj,Qk,Ql,Qm,Qn,Qo,Qp,Qq,Qr,Qs,implies_true,Qt,Qu,Qv,Qw,Qx,Qy,Qz,QA,QB,QC,QD,QE,QF,QG,QH,QI,QJ,QK,QL,QM,QN,QO,QP,QQ]
 refine CallC.of tB (by rfl) ?_
 simp (config:={maxSteps:=1000000}) (disch:=((try simp only [awL]);omega)) only [QR,QS,QT,QU,QV,QW,QX,QY,QZ,Q0,Q1,Q2,↓awU,awV,awF,Qa,Qb,Qc,Qd,forall_const,↓reduceIte,↓reduceDIte,↓Qe,Qf,Qg,Qh,Qi,Qj,Qk,Ql,Qm,Qn,Qo,Qp,Qq,Qr,Qs,implies_true,Qt,Qu,Qv,Qw,Qx,Qy,Qz,QA,QB,QC,QD,QE,QF,QG,QH,QI,QJ,QK,QL,QM,QN,QO,QP,QQ]
 refine CallC.of pa (by rfl) ?_
 simp (config:={maxSteps:=1000000}) (disch:=((try simp only [awL]);omega)) only [QR,QS,QT,QU,QV,QW,QX,QY,QZ,Q0,Q1,Q2,↓awU,awV,awF,Qa,Qb,Qc,Qd,forall_const,↓reduceIte,↓reduceDIte,↓Qe,Qf,Qg,Qh,Qi,Qj,Qk,Ql,Qm,Qn,Qo,Qp,Qq,Qr,Qs,implies_true,Qt,Qu,Qv,Qw,Qx,Qy,Qz,QA,QB,QC,QD,QE,QF,QG,QH,QI,QJ,QK,QL,QM,QN,QO,QP,QQ]
 refine CallC.frozenE (column_spec exC false (by decide)) (by rfl) ?_
 simp (config:={maxSteps:=1000000}) (disch:=((try simp only [awL]);omega)) only [QR,QS,QT,QU,QV,QW,QX,QY,QZ,Q0,Q1,Q2,↓awU,awV,awF,Qa,Qb,Qc,Qd,forall_const,↓reduceIte,↓reduceDIte,↓Qe,Qf,Qg,Qh,Qi,Qj,Qk,Ql,Qm,Qn,Qo,Qp,Qq,Qr,Qs,implies_true,Qt,Qu,Qv,Qw,Qx,Qy,Qz,QA,QB,QC,QD,QE,QF,QG,QH,QI,QJ,QK,QL,QM,QN,QO,QP,QQ]
 refine CallC.of ap (by rfl) ?_
 have exl:(exCel exC).length=4:=rfl
 simp (config:={maxSteps:=1000000}) (disch:=((try simp only [awL]);omega)) only [QR,QS,QT,QU,QV,QW,QX,QY,QZ,Q0,Q1,Q2,exl,↓awU,awV,awF,Qa,Qb,Qc,Qd,forall_const,↓reduceIte,↓reduceDIte,↓Qe,Qf,Qg,Qh,Qi,Qj,Qk,Ql,Qm,Qn,Qo,Qp,Qq,Qr,Qs,implies_true,Qt,Qu,Qv,Qw,Qx,Qy,Qz,QA,QB,QC,QD,QE,QF,QG,QH,QI,QJ,QK,QL,QM,QN,QO,QP,QQ]
 first | done | rfl | decide
end Go.Proofs.YtkgbbdoeodmkgaaGreatDoor
namespace Go.Proofs.YtkgbbdoeodmkgaaGreatDoor
open Go Go.Proofs Go.Abs
variable {G:Globals}
end Go.Proofs.YtkgbbdoeodmkgaaGreatDoor
