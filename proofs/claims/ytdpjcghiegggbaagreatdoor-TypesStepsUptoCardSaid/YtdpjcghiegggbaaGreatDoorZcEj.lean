/-
  TypesSteps: for every input the law returns true, and the arguments read as they did. The arguments together are of bulk at most 1048576.
-/
import Derived.Test.YtdpjcghiegggbaaGreatDoorZbEj1
import Derived.ChangeMaps5
set_option linter.all false
open Go.Proofs.Tryz renaming prog→TP
set_option maxRecDepth 100000
namespace Go.Proofs.YtdpjcghiegggbaaGreatDoor
open Go Go.Proofs Go.Abs Go.RowKit Go.ChangeShapes Go.WideShapes Go.ChangeAt
namespace typesSteps
theorem contract (H:Type) (enc:TypeId × Value→H) (X:World) (base:Nat) (args:Array Value) (ds gs:List (DataW H)) (before:List MemPlace)
  (hval:∀ (j:Nat) t v,Tryz.f6.params[j]? = some t→args[j]? = some v→Value.okWide TP X .any base t v)
  (hW:DataW.Whole enc TP Tryz.f6.params.toList Rows.typesStepsSpec.vars false X args.toList ds gs before) (hL:laidMetH TP Rows.typesStepsRow.laid X) (hk:Rows.uptoSmall H (ds++gs)=true) :
  Calls TP 6 args X fun e X'=>∃ v,e=.returned v∧Rows.typesStepsSpec.post enc TP Tryz.f6 false true false false X args v X':=by
 have hW':=hW
 obtain ⟨p,q,hA0,hV,rfl,hfz,hnd⟩:=hW
 have hA:DataW.TrodAll enc TP X 0 (fun _=>true) true Tryz.f6.params.toList args.toList ds p:=hA0
 rw [Tryz.params6] at hA hval
 obtain ⟨v0,vs0,d0,ds0,p0,q0,hargs,rfl,rfl,h0,r0⟩:=trodAll_cons hA
 obtain ⟨v1,vs1,d1,ds1,p1,q1,rfl,rfl,rfl,h1,r1⟩:=trodAll_cons r0
 obtain ⟨v2,vs2,d2,ds2,p2,q2,rfl,rfl,rfl,h2,r2⟩:=trodAll_cons r1
 obtain ⟨v3,vs3,d3,ds3,p3,q3,rfl,rfl,rfl,h3,r3⟩:=trodAll_cons r2
 obtain ⟨rfl,rfl,rfl⟩:=trodAll_nil r3
 obtain rfl:args=#[v0,v1,v2,v3]:=by cases args;simp_all
 obtain ⟨rfl,rfl⟩:=trodVars_none hV
 have hb0:=bulk_of hk (d:=d0) (by simp)
 have hb1:=bulk_of hk (d:=d1) (by simp)
 have hb2:=bulk_of hk (d:=d2) (by simp)
 have hb3:=bulk_of hk (d:=d3) (by simp)
 clear hk
 have lt0:∀ x∈p0,x.block<X.heap.size:=by obtain ⟨m,hm⟩:=h0;exact DataW.trod_lt m _ _ _ hm
 have o0:∃ a n c,v0=.slice a n c:=okWide_slice Tryz.underlying22 (hval 0 22 v0 rfl rfl)
 have k0:=h0
 obtain ⟨fuel0,hf0⟩:=h0
 obtain ⟨l0,e0,w0,b0⟩:=open_list Tryz.underlying22 Tryz.underlying5 cU8 o0 hf0
 obtain ⟨s1,rfl,rfl,rfl,wf1⟩:=Go.ChangeMaps.open_string Tryz.underlying9 (hval 1 9 v1 rfl rfl) h1
 obtain ⟨x1,rfl⟩:∃ x,s1=bs x:=⟨_,bs_of s1⟩
 have b11:x1.length≤maxLen:=by rw [← bs_size (l:=x1)];exact wf1
 have lt2:∀ x∈p2,x.block<X.heap.size:=by obtain ⟨m,hm⟩:=h2;exact DataW.trod_lt m _ _ _ hm
 have o2:∃ a n c,v2=.slice a n c:=okWide_slice Tryz.underlying46 (hval 2 46 v2 rfl rfl)
 have k2:=h2
 obtain ⟨fuel2,hf2⟩:=h2
 obtain ⟨l2,e2,b2⟩:=open_cellsB o2 hf2 hb2
 have mx2:maxLen=9223372036854775807:=rfl
 rw [mx2] at b2
 obtain ⟨n3,rfl,rfl,rfl,wf3⟩:=open_int Tryz.underlying3 (hval 3 3 v3 rfl rfl) h3
 have b13:-9223372036854775808≤n3∧n3≤9223372036854775807:=by simp [Lit.wf,IntKind.min,IntKind.max,IntKind.bits,IntKind.signed] at wf3;omega
 clear hA0
 have hgl:=globOK7 (globOK6 (Lib.laidMet.reads hL (.tail _ (.tail _ (.tail _ (.tail _ (.tail _ (.tail _ (.head _)))))))) (Lib.laidMet.reads hL (.tail _ (.tail _ (.head _)))) (Lib.laidMet.reads hL (.tail _ (.tail _ (.tail _ (.tail _ (.tail _ (.head _))))))) (Lib.laidMet.reads hL (.tail _ (.tail _ (.tail _ (.tail _ (.head _))))))) (Lib.laidMet.reads hL (.tail _ (.tail _ (.tail _ (.tail _ (.tail _ (.tail _ (.tail _ (.head _)))))))))
 refine ((tsteps_law (G:=G7) hG7 hE7 hP7 hO7 l0 (list_u8 w0) (by unfold maxLen at b0;omega) x1 (bulk_str hb1) l2 b2 n3 b13.1 b13.2).law hgl (RL.four e0 (.d _ _ (.str _)) e2 (.d _ _ (.int _ _)))).mono fun e X' ⟨he,bel⟩=>?_
 subst he
 exact ⟨_,rfl,_,_,_,[],_,[],hW',trodAll_mk1 (shut_bool Tryz.underlying4 _),(trodAll_cons_mk (Below.trod laidOut (by kernel_rfl) (of_decide_eq_true (by kernel_rfl)) k0 bel lt0) (trodAll_cons_mk (Go.ChangeMaps.shut_string Tryz.underlying9 wf1) (trodAll_cons_mk (Below.trod laidOut (by kernel_rfl) (of_decide_eq_true (by kernel_rfl)) k2 bel lt2) (trodAll_cons_mk (shut_int Tryz.underlying3 wf3) trodAll_mk0)))),rfl,bel.frame _,fun h=>by cases h⟩
theorem reads (os:Os) {H:Type} (enc:TypeId × Value→H):∃ places,DataW.whole enc TP ((laidWorld_typesSteps os).forCall (fun _ _=>0) ⟨#[],#[.slice none 0 0,.string .empty,.slice none 0 0,.int .i64 0],[]⟩).memory Tryz.f6.params.toList Rows.typesStepsSpec.vars false (#[.slice none 0 0,.string .empty,.slice none 0 0,.int .i64 0]:Array Value).toList 8=some ([.nil,.lit (.string []),.nil,.lit (.int .i64 0)],[],places) :=
 ⟨[],by kernel_rfl⟩
theorem lifted (os:Os) (started:os.Started) (H:Type) (enc:TypeId × Value→H) (F:Stop.Interp) :
  ReturnsInHanded {} Tryz.checked os 6 .any ((Rows.OpenSpec.upto Rows.typesStepsSpec).preRow enc TP Tryz.f6 Rows.typesStepsUptoRow.domain false Rows.typesStepsUptoRow.laid) (((Rows.OpenSpec.upto Rows.typesStepsSpec).at F).post enc TP Tryz.f6 false true false false):=by
 obtain ⟨places,hx⟩:=reads os enc
 refine returnsInHanded_of_row (C:=Tryz.checked) (s:=Rows.OpenSpec.upto Rows.typesStepsSpec) own started (by kernel_rfl) Tryz.func6
  (witness_row_atRef (enc:=enc) (C:=Tryz.checked) false (laidWorld_typesSteps os) #[.slice none 0 0,.string .empty,.slice none 0 0,.int .i64 0] rfl (by kernel_rfl) (by kernel_rfl) (by kernel_rfl)
   (OpenSpec.preRow_of_cond 8 hx (by kernel_rfl) (fun k hk=>by cases hk;kernel_rfl) (by kernel_rfl) (laid_met_typesSteps os _))) ?_
 intro X base args ds gs before hval hW _ hcond _ hL _ _
 exact contract H enc X base args ds gs before hval hW hL (hcond _ rfl)
theorem said:Rows.TypesStepsUptoSaid :=
 OpenClaim.holds_of_cond 6 Tryz.f6 rfl rfl rfl rfl rfl rfl rfl ⟨rfl,rfl,rfl,rfl,rfl⟩ rfl rfl rfl rfl rfl (by kernel_rfl) Tryz.func6 (by kernel_rfl)
  (of_decide_eq_true (by kernel_rfl)) (by unfold Func.isWrapper;first | (rw [if_pos (by decide +kernel)];kernel_rfl) | (rw [if_neg (by decide +kernel)];exact ⟨rfl,rfl⟩))
  (fun os started H enc _ F=>by rw [OpenClaim.pre_eq_preRow];exact lifted os started H enc F)
theorem plain (f:FuncId) (fn:Func) (hf:Tryz.pinned.checked.prog.funcNamed "tablefinder/tablefinderlaw11.TypesSteps" = some f) (hfn:Tryz.pinned.checked.prog.funcs[f]? = some fn) :
  true=Tryz.pinned.checked.prog.looks []∧∀ (j:Nat) t,fn.params[j]? = some t→Tryz.pinned.checked.prog.wantsStandIn t=false:=by
 obtain rfl:f=6:=Option.some.inj ((show Tryz.prog.funcNamed "tablefinder/tablefinderlaw11.TypesSteps" = some 6 by kernel_rfl).symm.trans hf) |>.symm
 obtain rfl:fn=Tryz.f6:=(Option.some.inj (Tryz.func6.symm.trans hfn)).symm
 refine ⟨by kernel_rfl,fun j t ht=>?_⟩
 rw [Tryz.params6] at ht
 have hm:t∈[22,9,46,3]:=by simpa using Array.mem_of_getElem? ht
 have hall:([22,9,46,3].all fun u=>!Tryz.prog.wantsStandIn u)=true:=by kernel_rfl
 exact (show Tryz.prog.wantsStandIn t=false by simpa using List.all_eq_true.1 hall t hm)
theorem card:Rows.TypesStepsUptoCardSaid :=
 Claim7.holds_tied_plain_at .later [] _ _ _ _ said (fun _ h=>by cases h) (by kernel_rfl) (fun _ h=>by cases h) typesStepsUpto_row_tie rfl ⟨rfl,rfl⟩ (by kernel_rfl) rfl plain (by kernel_rfl)
#print axioms card
end typesSteps
end Go.Proofs.YtdpjcghiegggbaaGreatDoor
