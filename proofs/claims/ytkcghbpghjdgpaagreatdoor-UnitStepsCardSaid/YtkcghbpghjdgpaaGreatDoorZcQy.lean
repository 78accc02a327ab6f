/-
  UnitSteps: for every input the law returns true, and the arguments read as they did. No condition.
-/
import Derived.Test.YtkcghbpghjdgpaaGreatDoorZbQy1
import Derived.ChangeMaps5
set_option linter.all false
namespace Go.Proofs.YtkcghbpghjdgpaaGreatDoor
open Go Go.Proofs Go.Abs Go.RowKit Go.ChangeShapes Go.WideShapes Go.ChangeAt
namespace unitSteps
set_option maxRecDepth 100000 in
theorem contract (H:Type) (enc:TypeId × Value→H) (X:World) (base:Nat) (args:Array Value) (ds gs:List (DataW H)) (before:List MemPlace)
  (hval:∀ (j:Nat) t v,Tryz.f5.params[j]? = some t→args[j]? = some v→Value.okWide Tryz.prog X .any base t v)
  (hW:DataW.Whole enc Tryz.prog Tryz.f5.params.toList Rows.unitStepsSpec.vars false X args.toList ds gs before) (hL:laidMetH Tryz.prog Rows.unitStepsRow.laid X) :
  Calls Tryz.prog 5 args X fun e X'=>∃ v,e=.returned v∧Rows.unitStepsSpec.post enc Tryz.prog Tryz.f5 false true false false X args v X':=by
 have hW':=hW
 obtain ⟨p,q,hA0,hV,rfl,hfz,hnd⟩:=hW
 have hA:DataW.TrodAll enc Tryz.prog X 0 (fun _=>true) true Tryz.f5.params.toList args.toList ds p:=hA0
 rw [Tryz.params5] at hA hval
 obtain ⟨v0,vs0,d0,ds0,p0,q0,hargs,rfl,rfl,h0,r0⟩:=trodAll_cons hA
 obtain ⟨v1,vs1,d1,ds1,p1,q1,rfl,rfl,rfl,h1,r1⟩:=trodAll_cons r0
 obtain ⟨v2,vs2,d2,ds2,p2,q2,rfl,rfl,rfl,h2,r2⟩:=trodAll_cons r1
 obtain ⟨v3,vs3,d3,ds3,p3,q3,rfl,rfl,rfl,h3,r3⟩:=trodAll_cons r2
 obtain ⟨v4,vs4,d4,ds4,p4,q4,rfl,rfl,rfl,h4,r4⟩:=trodAll_cons r3
 obtain ⟨v5,vs5,d5,ds5,p5,q5,rfl,rfl,rfl,h5,r5⟩:=trodAll_cons r4
 obtain ⟨rfl,rfl,rfl⟩:=trodAll_nil r5
 obtain rfl:args=#[v0,v1,v2,v3,v4,v5]:=by cases args;simp_all
 obtain ⟨rfl,rfl⟩:=trodVars_none hV
 have lt0:∀ x∈p0,x.block<X.heap.size:=by obtain ⟨m,hm⟩:=h0;exact DataW.trod_lt m _ _ _ hm
 have o0:∃ a n c,v0=.slice a n c:=okWide_slice Tryz.underlying22 (hval 0 22 v0 rfl rfl)
 have k0:=h0
 obtain ⟨fuel0,hf0⟩:=h0
 obtain ⟨l0,e0,w0,b0⟩:=open_list Tryz.underlying22 Tryz.underlying5 cU8 o0 hf0
 have lt1:∀ x∈p1,x.block<X.heap.size:=by obtain ⟨m,hm⟩:=h1;exact DataW.trod_lt m _ _ _ hm
 have o1:∃ a n c,v1=.slice a n c:=okWide_slice Tryz.underlying26 (hval 1 26 v1 rfl rfl)
 have k1:=h1
 obtain ⟨fuel1,hf1⟩:=h1
 obtain ⟨l1,e1,b1⟩:=open_cellsP o1 hf1
 have mx1:maxLen=9223372036854775807:=rfl
 rw [mx1] at b1
 obtain ⟨s2,rfl,rfl,rfl,wf2⟩:=Go.ChangeMaps.open_string Tryz.underlying9 (hval 2 9 v2 rfl rfl) h2
 obtain ⟨x2,rfl⟩:∃ x,s2=bs x:=⟨_,bs_of s2⟩
 have b12:x2.length≤maxLen:=by rw [← bs_size (l:=x2)];exact wf2
 obtain ⟨s3,rfl,rfl,rfl,wf3⟩:=Go.ChangeMaps.open_string Tryz.underlying9 (hval 3 9 v3 rfl rfl) h3
 obtain ⟨x3,rfl⟩:∃ x,s3=bs x:=⟨_,bs_of s3⟩
 have b13:x3.length≤maxLen:=by rw [← bs_size (l:=x3)];exact wf3
 have lt4:∀ x∈p4,x.block<X.heap.size:=by obtain ⟨m,hm⟩:=h4;exact DataW.trod_lt m _ _ _ hm
 obtain ⟨u4,e4⟩:=open_unit (hval 4 51 v4 rfl rfl) h4
 have lt5:∀ x∈p5,x.block<X.heap.size:=by obtain ⟨m,hm⟩:=h5;exact DataW.trod_lt m _ _ _ hm
 have o5:∃ a n c,v5=.slice a n c:=okWide_slice Tryz.underlying31 (hval 5 31 v5 rfl rfl)
 have k5:=h5
 obtain ⟨fuel5,hf5⟩:=h5
 obtain ⟨l5,e5,b5⟩:=open_optsP o5 hf5
 have mx5:maxLen=9223372036854775807:=rfl
 rw [mx5] at b5
 clear hA0
 have hgl:=globOK5 (Lib.laidMet.reads hL (.tail _ (.tail _ (.tail _ (.tail _ (.tail _ (.tail _ (.head _)))))))) (Lib.laidMet.reads hL (.tail _ (.tail _ (.tail _ (.tail _ (.tail _ (.tail _ (.tail _ (.head _))))))))) (Lib.laidMet.reads hL (.tail _ (.tail _ (.tail _ (.tail _ (.tail _ (.tail _ (.tail _ (.tail _ (.head _))))))))))
 refine ((usteps_law (G:=G5) hG5 hU5 hB5 l0 (list_u8 w0) (by unfold maxLen at b0;omega) l1 b1.1 b1.2 x2 (by unfold maxLen at b12;omega) x3 (by unfold maxLen at b13;omega) u4 l5 b5).law hgl (RL.six e0 e1 (.d _ _ (.str _)) (.d _ _ (.str _)) e4 e5)).mono fun e X' ⟨he,bel⟩=>?_
 subst he
 exact ⟨_,rfl,_,_,_,[],_,[],hW',trodAll_mk1 (shut_bool Tryz.underlying4 _),(trodAll_cons_mk (Below.trod laidOut (by kernel_rfl) (of_decide_eq_true (by kernel_rfl)) k0 bel lt0) (trodAll_cons_mk (Below.trod laidOut (by kernel_rfl) (of_decide_eq_true (by kernel_rfl)) k1 bel lt1) (trodAll_cons_mk (Go.ChangeMaps.shut_string Tryz.underlying9 wf2) (trodAll_cons_mk (Go.ChangeMaps.shut_string Tryz.underlying9 wf3) (trodAll_cons_mk (Below.trod laidOut (by kernel_rfl) (of_decide_eq_true (by kernel_rfl)) h4 bel lt4) (trodAll_cons_mk (Below.trod laidOut (by kernel_rfl) (of_decide_eq_true (by kernel_rfl)) k5 bel lt5) trodAll_mk0)))))),rfl,bel.frame _,fun h=>by cases h⟩
theorem reads (os:Os) {H:Type} (enc:TypeId × Value→H):∃ places,DataW.whole enc Tryz.prog ((laidWorld_unitSteps os).forCall (fun _ _=>0) ⟨#[],#[.slice none 0 0,.slice none 0 0,.string .empty,.string .empty,.agg #[.string .empty,.string .empty,.int .i64 0,.int .i64 0],.slice none 0 0],[]⟩).memory Tryz.f5.params.toList Rows.unitStepsSpec.vars false (#[.slice none 0 0,.slice none 0 0,.string .empty,.string .empty,.agg #[.string .empty,.string .empty,.int .i64 0,.int .i64 0],.slice none 0 0]:Array Value).toList 8=some ([.nil,.nil,.lit (.string []),.lit (.string []),.agg [.lit (.string []),.lit (.string []),.lit (.int .i64 0),.lit (.int .i64 0)],.nil],[],places) :=
 ⟨[],by kernel_rfl⟩
set_option maxRecDepth 100000 in
theorem lifted (os:Os) (started:os.Started) (H:Type) (enc:TypeId × Value→H) (F:Stop.Interp) :
  ReturnsInHanded {} Tryz.checked os 5 .any ((OpenSpec.ofChange Rows.unitStepsSpec).preRow enc Tryz.prog Tryz.f5 Rows.unitStepsRow.domain false Rows.unitStepsRow.laid) (((OpenSpec.ofChange Rows.unitStepsSpec).at F).post enc Tryz.prog Tryz.f5 false true false false):=by
 obtain ⟨places,hx⟩:=reads os enc
 refine returnsInHanded_of_row (C:=Tryz.checked) (s:=OpenSpec.ofChange Rows.unitStepsSpec) own started (by kernel_rfl) Tryz.func5
  (witness_row_atRef (enc:=enc) (C:=Tryz.checked) false (laidWorld_unitSteps os) #[.slice none 0 0,.slice none 0 0,.string .empty,.string .empty,.agg #[.string .empty,.string .empty,.int .i64 0,.int .i64 0],.slice none 0 0] rfl (by kernel_rfl) (by kernel_rfl) (by kernel_rfl)
   (OpenSpec.preRow_of_cond 8 hx (by kernel_rfl) (fun k hk=>by cases hk) (by kernel_rfl) (laid_met_unitSteps os _))) ?_
 intro X base args ds gs before hval hW _ _ _ hL _ _
 exact contract H enc X base args ds gs before hval hW hL
theorem said:Rows.UnitStepsSaid :=
 OpenClaim.holds_of_cond 5 Tryz.f5 rfl rfl rfl rfl rfl rfl rfl ⟨rfl,rfl,rfl,rfl,rfl⟩ rfl rfl rfl rfl rfl (by kernel_rfl) Tryz.func5 (by kernel_rfl)
  (of_decide_eq_true (by kernel_rfl)) (by unfold Func.isWrapper;first | (rw [if_pos (by decide +kernel)];kernel_rfl) | (rw [if_neg (by decide +kernel)];exact ⟨rfl,rfl⟩))
  (fun os started H enc _ F=>by rw [OpenClaim.pre_eq_preRow];exact lifted os started H enc F)
theorem plain (f:FuncId) (fn:Func) (hf:Tryz.pinned.checked.prog.funcNamed "tablefinder/tablefinderlaw12.UnitSteps" = some f) (hfn:Tryz.pinned.checked.prog.funcs[f]? = some fn) :
  true=Tryz.pinned.checked.prog.looks []∧∀ (j:Nat) t,fn.params[j]? = some t→Tryz.pinned.checked.prog.wantsStandIn t=false:=by
 obtain rfl:f=5:=Option.some.inj ((show Tryz.prog.funcNamed "tablefinder/tablefinderlaw12.UnitSteps" = some 5 by kernel_rfl).symm.trans hf) |>.symm
 obtain rfl:fn=Tryz.f5:=(Option.some.inj (Tryz.func5.symm.trans hfn)).symm
 refine ⟨by kernel_rfl,fun j t ht=>?_⟩
 rw [Tryz.params5] at ht
 have hm:t∈[22,26,9,9,51,31]:=by simpa using Array.mem_of_getElem? ht
 have hall:([22,26,9,9,51,31].all fun u=>!Tryz.prog.wantsStandIn u)=true:=by kernel_rfl
 exact (show Tryz.prog.wantsStandIn t=false by simpa using List.all_eq_true.1 hall t hm)
theorem card:Rows.UnitStepsCardSaid :=
 Claim7.holds_tied_plain_at .later [] _ _ _ _ said (fun _ h=>by cases h) (by kernel_rfl) (fun _ h=>by cases h) unitSteps_row_tie rfl ⟨rfl,rfl⟩ (by kernel_rfl) rfl plain (by kernel_rfl)
#print axioms card
end unitSteps
end Go.Proofs.YtkcghbpghjdgpaaGreatDoor
