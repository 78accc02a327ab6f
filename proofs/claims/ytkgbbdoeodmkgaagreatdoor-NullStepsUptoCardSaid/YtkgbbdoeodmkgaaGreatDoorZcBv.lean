/-
  NullSteps: for every input the law returns true, and the arguments read as they did. The arguments together are of bulk at most 1048576.
-/
import Derived.Test.YtkgbbdoeodmkgaaGreatDoorZbBv2
import Derived.ChangeMaps5
set_option linter.all false
namespace Go.Proofs.YtkgbbdoeodmkgaaGreatDoor
open Go Go.Proofs Go.Abs Go.RowKit Go.ChangeShapes Go.WideShapes Go.ChangeAt
namespace nullSteps
set_option maxRecDepth 100000 in
theorem contract (H:Type) (enc:TypeId × Value→H) (X:World) (base:Nat) (args:Array Value) (ds gs:List (DataW H)) (before:List MemPlace)
  (hval:∀ (j:Nat) t v,Tryz.f4.params[j]? = some t→args[j]? = some v→Value.okWide Tryz.prog X .any base t v)
  (hW:DataW.Whole enc Tryz.prog Tryz.f4.params.toList Rows.nullStepsSpec.vars false X args.toList ds gs before) (hL:laidMetH Tryz.prog Rows.nullStepsRow.laid X) (hk:Rows.uptoSmall H (ds++gs)=true) :
  Calls Tryz.prog 4 args X fun e X'=>∃ v,e=.returned v∧Rows.nullStepsSpec.post enc Tryz.prog Tryz.f4 false true false false X args v X':=by
 have hW':=hW
 obtain ⟨p,q,hA0,hV,rfl,hfz,hnd⟩:=hW
 have hA:DataW.TrodAll enc Tryz.prog X 0 (fun _=>true) true Tryz.f4.params.toList args.toList ds p:=hA0
 rw [Tryz.params4] at hA hval
 obtain ⟨v0,vs0,d0,ds0,p0,q0,hargs,rfl,rfl,h0,r0⟩:=trodAll_cons hA
 obtain ⟨v1,vs1,d1,ds1,p1,q1,rfl,rfl,rfl,h1,r1⟩:=trodAll_cons r0
 obtain ⟨v2,vs2,d2,ds2,p2,q2,rfl,rfl,rfl,h2,r2⟩:=trodAll_cons r1
 obtain ⟨v3,vs3,d3,ds3,p3,q3,rfl,rfl,rfl,h3,r3⟩:=trodAll_cons r2
 obtain ⟨v4,vs4,d4,ds4,p4,q4,rfl,rfl,rfl,h4,r4⟩:=trodAll_cons r3
 obtain ⟨rfl,rfl,rfl⟩:=trodAll_nil r4
 obtain rfl:args=#[v0,v1,v2,v3,v4]:=by cases args;simp_all
 obtain ⟨rfl,rfl⟩:=trodVars_none hV
 have hb0:=bulk_of hk (d:=d0) (by simp)
 have hb1:=bulk_of hk (d:=d1) (by simp)
 have hb2:=bulk_of hk (d:=d2) (by simp)
 have hb3:=bulk_of hk (d:=d3) (by simp)
 have hb4:=bulk_of hk (d:=d4) (by simp)
 clear hk
 have lt0:∀ x∈p0,x.block<X.heap.size:=by obtain ⟨m,hm⟩:=h0;exact DataW.trod_lt m _ _ _ hm
 have o0:∃ a n c,v0=.slice a n c:=okWide_slice Tryz.underlying22 (hval 0 22 v0 rfl rfl)
 have k0:=h0
 obtain ⟨fuel0,hf0⟩:=h0
 obtain ⟨l0,e0,w0,b0⟩:=open_list Tryz.underlying22 Tryz.underlying5 cU8 o0 hf0
 have lt1:∀ x∈p1,x.block<X.heap.size:=by obtain ⟨m,hm⟩:=h1;exact DataW.trod_lt m _ _ _ hm
 have o1:∃ a n c,v1=.slice a n c:=okWide_slice Tryz.underlying26 (hval 1 26 v1 rfl rfl)
 have k1:=h1
 obtain ⟨fuel1,hf1⟩:=h1
 obtain ⟨l1,e1,b1⟩:=open_cellsB o1 hf1 hb1
 have mx1:maxLen=9223372036854775807:=rfl
 rw [mx1] at b1
 have lt2:∀ x∈p2,x.block<X.heap.size:=by obtain ⟨m,hm⟩:=h2;exact DataW.trod_lt m _ _ _ hm
 have o2:∃ a n c,v2=.slice a n c:=okWide_slice Tryz.underlying30 (hval 2 30 v2 rfl rfl)
 have k2:=h2
 obtain ⟨fuel2,hf2⟩:=h2
 obtain ⟨l2,e2,w2,b2⟩:=open_strlistB Tryz.underlying30 Tryz.underlying9 (by kernel_rfl) o2 hf2
 obtain ⟨s3,rfl,rfl,rfl,wf3⟩:=Go.ChangeMaps.open_string Tryz.underlying9 (hval 3 9 v3 rfl rfl) h3
 obtain ⟨x3,rfl⟩:∃ x,s3=bs x:=⟨_,bs_of s3⟩
 have b13:x3.length≤maxLen:=by rw [← bs_size (l:=x3)];exact wf3
 have lt4:∀ x∈p4,x.block<X.heap.size:=by obtain ⟨m,hm⟩:=h4;exact DataW.trod_lt m _ _ _ hm
 have o4:∃ a n c,v4=.slice a n c:=okWide_slice Tryz.underlying34 (hval 4 34 v4 rfl rfl)
 have k4:=h4
 obtain ⟨fuel4,hf4⟩:=h4
 obtain ⟨l4,e4,b4⟩:=open_optsB o4 hf4 hb4
 have mx4:maxLen=9223372036854775807:=rfl
 rw [mx4] at b4
 clear hA0
 have hgl:=globOK3 (globOK2 (globOK (b:=false) (Lib.laidMet.reads hL (.tail _ (.tail _ (.tail _ (.tail _ (.tail _ (.tail _ (.head _)))))))) (Lib.laidMet.reads hL (.tail _ (.tail _ (.tail _ (.head _))))) (Lib.laidMet.reads hL (.tail _ (.tail _ (.head _)))) (fun h=>by cases h)) (Lib.laidMet.reads hL (.tail _ (.tail _ (.tail _ (.tail _ (.head _))))))) (Lib.laidMet.reads hL (.tail _ (.tail _ (.tail _ (.tail _ (.tail _ (.head _)))))))
 refine ((nsteps_law (G:=G3 false) hG3 hT3 hK3 l0 (list_u8 w0) (by unfold maxLen at b0;omega) l1 b1 l2 ⟨by unfold maxLen at b2;omega,fun s hs=>Nat.le_trans (w2 s hs).2 hb2⟩ x3 (bulk_str hb3) l4 b4).law hgl (RL.five e0 e1 e2 (.d _ _ (.str _)) e4)).mono fun e X' ⟨he,bel⟩=>?_
 subst he
 exact ⟨_,rfl,_,_,_,[],_,[],hW',trodAll_mk1 (shut_bool Tryz.underlying4 _),(trodAll_cons_mk (Below.trod laidOut (by kernel_rfl) (of_decide_eq_true (by kernel_rfl)) k0 bel lt0) (trodAll_cons_mk (Below.trod laidOut (by kernel_rfl) (of_decide_eq_true (by kernel_rfl)) k1 bel lt1) (trodAll_cons_mk (Below.trod laidOut (by kernel_rfl) (of_decide_eq_true (by kernel_rfl)) k2 bel lt2) (trodAll_cons_mk (Go.ChangeMaps.shut_string Tryz.underlying9 wf3) (trodAll_cons_mk (Below.trod laidOut (by kernel_rfl) (of_decide_eq_true (by kernel_rfl)) k4 bel lt4) trodAll_mk0))))),rfl,bel.frame _,fun h=>by cases h⟩
theorem reads (os:Os) {H:Type} (enc:TypeId × Value→H):∃ places,DataW.whole enc Tryz.prog ((laidWorld_nullSteps os).forCall (fun _ _=>0) ⟨#[],#[.slice none 0 0,.slice none 0 0,.slice none 0 0,.string .empty,.slice none 0 0],[]⟩).memory Tryz.f4.params.toList Rows.nullStepsSpec.vars false (#[.slice none 0 0,.slice none 0 0,.slice none 0 0,.string .empty,.slice none 0 0]:Array Value).toList 8=some ([.nil,.nil,.nil,.lit (.string []),.nil],[],places) :=
 ⟨[],by kernel_rfl⟩
set_option maxRecDepth 100000 in
theorem lifted (os:Os) (started:os.Started) (H:Type) (enc:TypeId × Value→H) (F:Stop.Interp) :
  ReturnsInHanded {} Tryz.checked os 4 .any ((Rows.OpenSpec.upto Rows.nullStepsSpec).preRow enc Tryz.prog Tryz.f4 Rows.nullStepsUptoRow.domain false Rows.nullStepsUptoRow.laid) (((Rows.OpenSpec.upto Rows.nullStepsSpec).at F).post enc Tryz.prog Tryz.f4 false true false false):=by
 obtain ⟨places,hx⟩:=reads os enc
 refine returnsInHanded_of_row (C:=Tryz.checked) (s:=Rows.OpenSpec.upto Rows.nullStepsSpec) own started (by kernel_rfl) Tryz.func4
  (witness_row_atRef (enc:=enc) (C:=Tryz.checked) false (laidWorld_nullSteps os) #[.slice none 0 0,.slice none 0 0,.slice none 0 0,.string .empty,.slice none 0 0] rfl (by kernel_rfl) (by kernel_rfl) (by kernel_rfl)
   (OpenSpec.preRow_of_cond 8 hx (by kernel_rfl) (fun k hk=>by cases hk;kernel_rfl) (by kernel_rfl) (laid_met_nullSteps os _))) ?_
 intro X base args ds gs before hval hW _ hcond _ hL _ _
 exact contract H enc X base args ds gs before hval hW hL (hcond _ rfl)
theorem said:Rows.NullStepsUptoSaid :=
 OpenClaim.holds_of_cond 4 Tryz.f4 rfl rfl rfl rfl rfl rfl rfl ⟨rfl,rfl,rfl,rfl,rfl⟩ rfl rfl rfl rfl rfl (by kernel_rfl) Tryz.func4 (by kernel_rfl)
  (of_decide_eq_true (by kernel_rfl)) (by unfold Func.isWrapper;first | (rw [if_pos (by decide +kernel)];kernel_rfl) | (rw [if_neg (by decide +kernel)];exact ⟨rfl,rfl⟩))
  (fun os started H enc _ F=>by rw [OpenClaim.pre_eq_preRow];exact lifted os started H enc F)
theorem plain (f:FuncId) (fn:Func) (hf:Tryz.pinned.checked.prog.funcNamed "tablefinder/tablefinderlaw10.NullSteps" = some f) (hfn:Tryz.pinned.checked.prog.funcs[f]? = some fn) :
  false=Tryz.pinned.checked.prog.looks []∧∀ (j:Nat) t,fn.params[j]? = some t→Tryz.pinned.checked.prog.wantsStandIn t=false:=by
 obtain rfl:f=4:=Option.some.inj ((show Tryz.prog.funcNamed "tablefinder/tablefinderlaw10.NullSteps" = some 4 by kernel_rfl).symm.trans hf) |>.symm
 obtain rfl:fn=Tryz.f4:=(Option.some.inj (Tryz.func4.symm.trans hfn)).symm
 refine ⟨by kernel_rfl,fun j t ht=>?_⟩
 rw [Tryz.params4] at ht
 have hm:t∈[22,26,30,9,34]:=by simpa using Array.mem_of_getElem? ht
 have hall:([22,26,30,9,34].all fun u=>!Tryz.prog.wantsStandIn u)=true:=by kernel_rfl
 exact (show Tryz.prog.wantsStandIn t=false by simpa using List.all_eq_true.1 hall t hm)
theorem card:Rows.NullStepsUptoCardSaid :=
 Claim7.holds_tied_plain_at .later [] _ _ _ _ said (fun _ h=>by cases h) (by kernel_rfl) (fun _ h=>by cases h) nullStepsUpto_row_tie rfl ⟨rfl,rfl⟩ (by kernel_rfl) rfl plain (by kernel_rfl)
#print axioms card
end nullSteps
end Go.Proofs.YtkgbbdoeodmkgaaGreatDoor
