/-
  A world that lays the variables of nestedSteps.
-/
import Derived.Test.YtmidaophnbdcdaaGreatDoorMb2
import Derived.Test.YtmidaophnbdcdaaGreatDoorChecked
import Derived.Tactics
import Derived.Tactics2
import Derived.Defers
import Derived.Laws.Pointers
import Derived.Laws.LoneSync
import Derived.RegionTactic
import Derived.RegionCalls
import Derived.ChangeAlike
import Derived.KernelRfl
import Derived.Shelf.Strings.Count
import Derived.Lib.Strings
import Derived.Lib.Slices
import Derived.Lib.Walk
import Derived.Lib.Bytealg
set_option linter.all false
open Go.Abs renaming Bc->HW,Dv->BW,Cx->SW,Ap->AW,BP->sA,Bw->kZ
open Go.Proofs.Tryz renaming prog->TP
set_option maxHeartbeats 8000000
set_option maxRecDepth 100000
open Go.Abs renaming DD->Qe
open Nat renaming reduceAdd->Qu,reduceSub->Qv,reduceMul->Qw,reducePow->Qx,reduceDiv->Qy,reduceMod->Qz,reduceEqDiff->QI,reduceBEq->QK
open Int renaming reduceAdd->QA,reduceSub->QB,reduceMul->QC,reducePow->QD,reduceNeg->QE,reduceToNat->QF,reduceLT->QG,reduceLE->QH
open List renaming getD_eq_getElem?_getD->AbY,getElem?_cons_zero->Aeq,length_take->Aer,nil_append->Aes,getElem?_eq_getElem->Aet,replicate->Aeu,take_length->Aev,map_cons->Aew,take_of_length_le->Aex,getElem?_cons_succ->AeA,range_zero->AeB,cons_append->AfI,range_succ->Af0,map_append->Af1,mem_of_mem_take->Aga,map_nil->Agp,length_append->Agq,getElem?_set_ne->Agu,length_cons->Agv,length_set->Agw,append_nil->Agy,getElem?_eq_none->Agz,take_zero->AgA,dropWhile_cons->AgC,getElem?_take->AgD,countP_le_length->AgF,countP_cons->AgH,drop_length->AgI,all_eq_true->AgJ,mem_cons->AgK,length_nil->AgL,getElem?_eq_some_iff->AgN,getElem?_set->AgO,take_add_one->AgP,getElem?_replicate->AgQ,not_mem_nil->AgR,all_reverse->AgT,length_drop->AgU,drop_eq_nil_of_le->AgV,mem_append->AgW,count_le_length->AgX,drop_zero->AgY,mem_cons_of_mem->AgZ,replicate_succ->Ag1,flatMap_append->Ag2,mem_singleton->Ag5,mem_cons_self->Ag6,flatMap_cons->Ag8,getElem?_map->Aha,range->Ahe,tail_cons->Ahf,take_take->Ahg,map_set->Ahn,drop->Ahq
open Nat renaming reduceMod->AbZ,reduceDiv->Aeg,lt_or_ge->Aen,zero_le->AfZ,lt_of_lt_of_le->Af2,le_refl->Af7,pow_le_pow_right->Agb,pow_lt_pow_right->AgB,pow_succ->AgM,pow_pos->Ag0,lt_irrefl->Ag4,mod_lt->Ag7,le_trans->Ag9,zero_add->Ahb,lt_succ_self->Ahc,add_assoc->Ahj,one_mul->Ahp
open Bool renaming and_eq_true->Agx,true_and->Ag3,false_and->Ahh,not_false->Ahi,or_false->Ahk,not_true->Ahl,false_or->Ahm,true_or->Aho
open Int renaming natAbs_natCast->AgE
open Array renaming eq_empty_of_size_eq_zero->AgG
open Option renaming getD_some->AgS,map_some->Ahd
namespace Go.Proofs.YtmidaophnbdcdaaGreatDoor
section
open Go Go.Proofs Go.Abs Go.RowKit Go.ChangeShapes Go.WideShapes Go.ChangeAt
noncomputable def C4 (os:Os):World :=
 {World.holding TP os ⟨#[.cells #[.int .u32 1] 187],#[],[]⟩ with heap:=(((((((World.holding TP os ⟨#[.cells #[.int .u32 1] 187],#[],[]⟩).heap.modify 5 fun
   | .cells _ t frozen=>.cells #[.int .u8 0,.int .u8 1,.int .u8 28,.int .u8 2,.int .u8 29,.int .u8 14,.int .u8 24,.int .u8 3,.int .u8 30,.int .u8 22,.int .u8 20,.int .u8 15,.int .u8 25,.int .u8 17,.int .u8 4,.int .u8 8,.int .u8 31,.int .u8 27,.int .u8 13,.int .u8 23,.int .u8 21,.int .u8 19,.int .u8 16,.int .u8 7,.int .u8 26,.int .u8 12,.int .u8 18,.int .u8 6,.int .u8 11,.int .u8 5,.int .u8 10,.int .u8 9] t frozen
   | o=>o).modify 6 fun
   | .cells _ t frozen=>.cells #[.int .u8 0,.int .u8 1,.int .u8 56,.int .u8 2,.int .u8 57,.int .u8 49,.int .u8 28,.int .u8 3,.int .u8 61,.int .u8 58,.int .u8 42,.int .u8 50,.int .u8 38,.int .u8 29,.int .u8 17,.int .u8 4,.int .u8 62,.int .u8 47,.int .u8 59,.int .u8 36,.int .u8 45,.int .u8 43,.int .u8 51,.int .u8 22,.int .u8 53,.int .u8 39,.int .u8 33,.int .u8 30,.int .u8 24,.int .u8 18,.int .u8 12,.int .u8 5,.int .u8 63,.int .u8 55,.int .u8 48,.int .u8 27,.int .u8 60,.int .u8 41,.int .u8 37,.int .u8 16,.int .u8 46,.int .u8 35,.int .u8 44,.int .u8 21,.int .u8 52,.int .u8 32,.int .u8 23,.int .u8 11,.int .u8 54,.int .u8 26,.int .u8 40,.int .u8 15,.int .u8 34,.int .u8 20,.int .u8 31,.int .u8 10,.int .u8 25,.int .u8 14,.int .u8 19,.int .u8 9,.int .u8 13,.int .u8 8,.int .u8 7,.int .u8 6] t frozen
   | o=>o).modify 3 fun
   | .cells _ t frozen=>.cells #[.int .u64 1,.int .u64 10,.int .u64 100,.int .u64 1000,.int .u64 10000,.int .u64 100000,.int .u64 1000000,.int .u64 10000000,.int .u64 100000000,.int .u64 1000000000,.int .u64 10000000000,.int .u64 100000000000,.int .u64 1000000000000,.int .u64 10000000000000,.int .u64 100000000000000,.int .u64 1000000000000000,.int .u64 10000000000000000,.int .u64 100000000000000000,.int .u64 1000000000000000000,.int .u64 10000000000000000000] t frozen
   | o=>o).modify 1 fun
   | .cells _ t frozen=>.cells #[.int .u8 128,.int .u8 191,.int .u8 160,.int .u8 191,.int .u8 128,.int .u8 159,.int .u8 144,.int .u8 191,.int .u8 128,.int .u8 143,.int .u8 0,.int .u8 0,.int .u8 0,.int .u8 0,.int .u8 0,.int .u8 0,.int .u8 0,.int .u8 0,.int .u8 0,.int .u8 0,.int .u8 0,.int .u8 0,.int .u8 0,.int .u8 0,.int .u8 0,.int .u8 0,.int .u8 0,.int .u8 0,.int .u8 0,.int .u8 0,.int .u8 0,.int .u8 0] t frozen
   | o=>o).modify 2 fun
   | .cells _ t frozen=>.cells #[.slice (some ⟨(World.settled TP os).heap.size,0,none⟩) 1 1] t frozen
   | o=>o).modify 0 fun
   | .cells _ t frozen=>.cells (Go.Pinned.utf8FirstZ.map fun (n:Nat)=>Value.int .u8 (n:Int)).toArray t frozen
   | o=>o)}
def Ik (os:Os) (args:Array Value):laidMet TP [("math/bits.deBruijn32tab",Rows.laid_math_bits_deBruijn32tab),("math/bits.deBruijn64tab",Rows.laid_math_bits_deBruijn64tab),("internal/strconv.uint64pow10",Rows.laid_internal_strconv_uint64pow10),("unicode/utf8.acceptRanges",Rows.laid_unicode_utf8_acceptRanges),("tablefinder/fraction.one",Rows.laid_tablefinder_fraction_one),("unicode/utf8.first",Rows.laid_unicode_utf8_first)] ((C4 os).forCall (fun _ _=>0) ⟨#[],args,[]⟩).memory :=
 laidMet_of_run' 8 (by kernel_rfl) (by kernel_rfl)
end
end Go.Proofs.YtmidaophnbdcdaaGreatDoor
namespace Go.Abs
open Go
variable {G:Ah} {h:Held} {ρ:Place} {w:World} {H:List Ae}
def Sim.boxAt (s:Sim G h ρ (hp H) w) {b:Nat} {cs:List AV} (hb:H[b]?=some (.box cs)):∃ g S c E fr,ρ b=some (g,S)/\w.heap[g]?=some (.cells c E fr)/\c.size=S/\HV S fr/\cs.length<=S /\
  (∀ (j:Nat) x v,cs[j]?=some x->c[j]?=some v->R h ρ v x)/\∀ j,h g j=none:=s.blk b (.box cs) hb
def Sim.boxCell (s:Sim G h ρ (hp H) w) {b g S j:Nat} {cs:List AV} {x:AV} (hb:H[b]?=some (.box cs)) (hρ:ρ b=some (g,S)) (hx:cs[j]?=some x) :
  ∃ v,w.cell? ⟨g,j,none⟩=some v/\R h ρ v x:=by
 obtain ⟨g',S',c,E,fr,e1,e2,e3,e4,e5,e6,e7⟩:=s.boxAt hb;rw[hρ] at e1;cases e1;have hj:j<c.size:=by have:=(AgN.1 hx).1;omega
 refine ⟨c[j],?_,e6 j x _ hx (Array.getElem?_eq_getElem hj)⟩;simp[World.cell?,e2]
def Sim.boxFree (s:Sim G h ρ (hp H) w) {b g S j:Nat} {cs:List AV} (hb:H[b]?=some (.box cs)) (hρ:ρ b=some (g,S)) (hj:j<cs.length):w.frozen? ⟨g,j,none⟩=false:=by
 obtain ⟨g',S',c,E,fr,e1,e2,e3,e4,e5,e6,e7⟩:=s.boxAt hb;rw[hρ] at e1;cases e1;have:=e4 j lA;obtain ⟨lo,hi⟩:=fr;simp only[World.frozen?,e2];simp only at this;rcases Aen j lo with q | q
 ·simp;omega
 simp;omega
def Sim.boxSet (s:Sim G h ρ (hp H) w) {b g S j:Nat} {cs:List AV} {x:AV} {v:Value} (hb:H[b]?=some (.box cs)) (hρ:ρ b=some (g,S)) (hj:j<cs.length) (hv:R h ρ v x) :
  Sim G h ρ (hp (H.set b (.box (cs.set j x)))) (w.setCell ⟨g,j,none⟩ v)/\A6 h ρ w h ρ (w.setCell ⟨g,j,none⟩ v):=by
 obtain ⟨g',S',c,E,fr,e1,e2,e3,e4,e5,e6,e7⟩:=s.boxAt hb;rw[hρ] at e1;cases e1;have hbl:b<H.length:=(AgN.1 hb).1;have hl:BC (hp H) b:=⟨_,hb,lC⟩;rw[setCell_eq_setRow w g j c E fr v e2];have hset:hp (H.set b (.box (cs.set j x)))=Am (hp H) [(b,.box (cs.set j x))]:=by
  funext i;by_cases e:i=b;·subst e;simp[hp,Am,hbl]
  have e':¬b=i:=fun q=>e q.symm;simp[hp,Am,e,e']
 rw[hset];refine s.change b hl g S hρ (.box (cs.set j x)) h (w.setRow g (c.setIfInBounds j v)) (Held.le_refl _) (fun k hk=>⟨fun _=>rfl,setRow_other w g k _ hk⟩) lC rfl rfl rfl
  (fun o v e=>by rw[e7 o] at e;cases e)
  ⟨g,S,c.setIfInBounds j v,E,fr,hρ,setRow_heap w g c _ E fr e2,by simpa using e3,e4,by simpa using e5,fun i y u hy hu=>?_,e7⟩
 rw[AgO] at hy;rw[Array.getElem?_setIfInBounds] at hu;by_cases e:j=i;·subst e;rw[if_pos rfl,if_pos hj] at hy;rw[if_pos rfl,if_pos lA] at hu;cases hy;cases hu;exact hv
 rw[if_neg e] at hy hu;exact e6 i y u hy hu
end Go.Abs
namespace Go.Proofs.YtmidaophnbdcdaaGreatDoor
section
open Go Go.Proofs
def LX (w:World):(callFunc 236 #[]).run TP w=.ok (.value (.tuple #[])) w:=run_call_mark0 Tryz.func236 (by kernel_rfl) (by kernel_rfl) (by kernel_rfl) .disable (by kernel_rfl) w
def NH (w:World):(callFunc 238 #[]).run TP w=.ok (.value (.tuple #[])) w:=run_call_mark0 Tryz.func238 (by kernel_rfl) (by kernel_rfl) (by kernel_rfl) .enable (by kernel_rfl) w
def TX (a:Addr) (w:World):(callFunc 239 #[.pointer (some a)]).run TP w=.ok (.value (.tuple #[])) w:=run_call_marked Tryz.func239 (by kernel_rfl) (by kernel_rfl) (by kernel_rfl) .acquire (by kernel_rfl) a w
def Lg (a:Addr) (w:World):(callFunc 241 #[.pointer (some a)]).run TP w=.ok (.value (.tuple #[])) w:=run_call_marked Tryz.func241 (by kernel_rfl) (by kernel_rfl) (by kernel_rfl) .releaseMerge (by kernel_rfl) a w
def Np (a:Addr) (x:Value) (u:FrameMode) (w:World) (hc:w.cell? a=some x) (hz:w.frozen? a=false) :
  CallsD TP 198 #[.pointer (some a),.bool true] u w fun e u' w'=>u'=u/\(e=.returned (.tuple #[])/\w'=w.drew.setCell a (.int .u32 1)):=by
 have hc':w.drew.cell? a=some x:=by go_simp
 have hz':w.drew.frozen? a=false:=by go_simp
 have hst:=run_call_store (P:=TP) Tryz.func216 (by kernel_rfl) (by kernel_rfl) (by kernel_rfl) (by kernel_rfl) (k:=.u32) (y:=1) hc' hz';go_enter_d Tryz.func198,Tryz.ntmps198;go_wp2;go_region_calls;all_goals (go_end0;exact ⟨rfl,rfl⟩)
def Mm (a:Addr) (u:FrameMode) (w:World) (hc:w.cell? a=some (.int .i32 1)) (hz:w.frozen? a=false) :
  CallsD TP 197 #[.pointer (some a)] u w fun e u' w'=>u'=u/\(e=.returned (.tuple #[])/\w'=w.setCell a (.int .i32 0)):=by
 have hd:=LX;have he:=NH;have hr:=Lg;have hadd:=run_call_add (P:=TP) Tryz.func242 (by kernel_rfl) (by kernel_rfl) (by kernel_rfl) .i32 (by kernel_rfl) (y:=-1) (s:=0) hc hz (by simp[go_sem];rfl);have hcv:=run_convert_to_unsafe (P:=TP) (src:=300) (dst:=182) Tryz.underlying300 Tryz.underlying182 (by kernel_rfl) hc;go_enter_d Tryz.func197,Tryz.ntmps197;go_wp2;go_end0;go_wp2;go_end0;exact qI
def YO (a:Addr) (w:World) (hc:w.cell? a=some (.int .i32 0)) (hz:w.frozen? a=false) :
  Calls TP 196 #[.pointer (some a)] w fun e w'=>e=.returned (.tuple #[])/\w'=w.setCell a (.int .i32 1):=by
 have hd:=LX;have he:=NH;have ha:=TX;have hcas:=run_call_cas_hit (P:=TP) Tryz.func237 (by kernel_rfl) (by kernel_rfl) (by kernel_rfl) .i32 (by kernel_rfl) (y:=1) hc hz;have hc':(w.setCell a (.int .i32 1)).cell? a=some (.int .i32 1):=World.cell?_setCell_same w a _ hc;have hcv:=run_convert_to_unsafe (P:=TP) (src:=300) (dst:=182) Tryz.underlying300 Tryz.underlying182 (by kernel_rfl) hc';go_enter Tryz.func196,Tryz.ntmps196;go_wp2;first | go_end0 | (simp only[Exit.inBlock,Exit.then];refine bodyPost_ret (results_none rfl _ _ _) rfl ?_) | refine bodyPost_ret (results_none rfl _ _ _) rfl ?_
 go_wp2;go_end0;exact qI
def Z4 (b:Nat) (w:World) (Q:World->Prop) (h0:w.cell? ⟨b,0,none⟩=some (.int .u32 0)) (h1:w.cell? ⟨b,1,none⟩=some (.int .i32 0)) (f1:w.frozen? ⟨b,1,none⟩=false)
  (hF:Calls TP 130 #[.pointer (some ⟨b,0,none⟩)] (w.setCell ⟨b,1,none⟩ (.int .i32 1)) fun e w'=>e=.returned (.tuple #[])/\Q w')
  (hQ:∀ w',Q w'->w'.cell? ⟨b,0,none⟩=some (.int .u32 0)/\w'.cell? ⟨b,1,none⟩=some (.int .i32 1)/\w'.frozen? ⟨b,0,none⟩=false/\w'.frozen? ⟨b,1,none⟩=false) :
  Calls TP 166 #[.pointer (some ⟨b,0,none⟩),.func (.func 130) #[.pointer (some ⟨b,0,none⟩)] #[]] w fun e w'=>e=.returned (.tuple #[]) /\
   ∃ w1,Q w1/\w'=(w1.drew.setCell ⟨b,0,none⟩ (.int .u32 1)).setCell ⟨b,1,none⟩ (.int .i32 0):=by
 have hl:=run_call_load (P:=TP) Tryz.func195 (by kernel_rfl) (by kernel_rfl) (by kernel_rfl) .u32 (by kernel_rfl) (w:=w.setCell ⟨b,1,none⟩ (.int .i32 1)) (a:=⟨b,0,none⟩) (x:=0) ((World.cell?_setCell_other _ ⟨b,1,none⟩ ⟨b,0,none⟩ _ lC).trans h0);have hnot:∀ (x:Bool) (w:World),(Op.unary .not (.bool x)).run TP w=.ok (.bool (!x)) w:=fun _ _=>rfl;go_enter_defers Tryz.func166,Tryz.ntmps166;go_wp2_with (go_at_call 196;refine (YO ⟨b,1,none⟩ _ (by go_simp) (by go_simp)).mono ?_;rintro e w' ⟨rfl,rfl⟩);go_wp2_with (first | (go_at_call 130;refine hF.mono ?_;rintro e w1 ⟨rfl,hq⟩) | (go_at_call 165;go_in));obtain ⟨q0,q1,q2,q3⟩:=hQ _ hq;refine leaves_cons (f:=198) (args:=#[.pointer (some ⟨b,0,none⟩),.bool true]) lC (by simp[go_sem]) ?_;refine (Np ⟨b,0,none⟩ (.int .u32 0) .returning _ q0 kM).mono ?_;rintro e u' w'' ⟨rfl,rfl,rfl⟩;refine leaves_cons (f:=197) (args:=#[.pointer (some ⟨b,1,none⟩)]) (by simp[settle]) (by simp[go_sem]) ?_;refine (Mm ⟨b,1,none⟩ _ _ ?_ (by simp[q3])).mono ?_
 ·refine (World.cell?_setCell_other _ ⟨b,0,none⟩ ⟨b,1,none⟩ _ lC).trans ?_;rw[World.cell?_drew];exact q1
 rintro e u' w'' ⟨rfl,rfl,rfl⟩;simp only[Leaves,settle,results,Tryz.results166];exact ⟨.tuple #[],by first | rfl | simp,rfl,_,hq,rfl⟩
def Abn (b:Nat) (w:World) (Q:World->Prop) (h0:w.cell? ⟨b,0,none⟩=some (.int .u32 0)) (h1:w.cell? ⟨b,1,none⟩=some (.int .i32 0)) (f1:w.frozen? ⟨b,1,none⟩=false)
  (hF:Calls TP 130 #[.pointer (some ⟨b,0,none⟩)] (w.setCell ⟨b,1,none⟩ (.int .i32 1)) fun e w'=>e=.returned (.tuple #[])/\Q w')
  (hQ:∀ w',Q w'->w'.cell? ⟨b,0,none⟩=some (.int .u32 0)/\w'.cell? ⟨b,1,none⟩=some (.int .i32 1)/\w'.frozen? ⟨b,0,none⟩=false/\w'.frozen? ⟨b,1,none⟩=false) :
  Calls TP 129 #[.pointer (some ⟨b,0,none⟩),.func (.func 130) #[.pointer (some ⟨b,0,none⟩)] #[]] w fun e w'=>e=.returned (.tuple #[]) /\
   ∃ w1,Q w1/\w'=(w1.drew.setCell ⟨b,0,none⟩ (.int .u32 1)).setCell ⟨b,1,none⟩ (.int .i32 0):=by
 have hl:=run_call_load (P:=TP) Tryz.func195 (by kernel_rfl) (by kernel_rfl) (by kernel_rfl) .u32 (by kernel_rfl) h0;have hnot:∀ (x:Bool) (w:World),(Op.unary .not (.bool x)).run TP w=.ok (.bool (!x)) w:=fun _ _=>rfl;go_enter Tryz.func129,Tryz.ntmps129;go_wp2_with (first | (go_at_call 166;refine (Z4 b w Q h0 h1 f1 hF hQ).mono ?_;rintro e w' ⟨rfl,hq⟩) | (go_at_call 165;go_in));go_end0;exact ⟨rfl,hq⟩
end
section
open Go Go.Proofs Go.Abs
variable {G:Ah}
def Ad1 {H H':List Ae} {cs cs':List AV}
  (hf:Ctr TP G 130 [.ptr 0 0] (.box (.d (.int .u32 0)::.d (.int .i32 1)::cs)::H) (.d (.tup [])) (.box (.d (.int .u32 0)::.d (.int .i32 1)::cs')::H')) :
  Ctr TP G 129 [.ptr 0 0,.fn (.func 130) [.ptr 0 0] []] (.box (.d (.int .u32 0)::.d (.int .i32 0)::cs)::H) (.d (.tup []))
   (.box (.d (.int .u32 1)::.d (.int .i32 0)::cs')::H'):=by
 refine ⟨AfA,fun h ρ w vs s r=>?_⟩;obtain ⟨v,u,rfl,hv,hu⟩:=r.inv2;obtain ⟨g,S,rfl,hρ⟩:=hv.ptr_inv;cases hu with
 | fn _ vs us _ _ hl hl' hr hr' =>
 obtain rfl:us=#[]:=AgG hl';obtain rfl:vs=#[.pointer (some ⟨g,0,none⟩)]:=by
  match vs,hl with
  | ⟨[x]⟩,_ =>obtain ⟨g',S',e,hρ'⟩:=(hr 0 x _ rfl rfl).ptr_inv;rw[hρ] at hρ';cases hρ';rw[e]
 have intOf:∀ {h:Abs.Held} {ρ:Abs.Place} {v:Value} {k:IntKind} {n:Int},R h ρ v (.d (.int k n))->v=.int k n:=fun r=>by cases r with | d _ _ hd=>cases hd;rfl
 obtain ⟨v0,c0,r0⟩:=s.boxCell (j:=0) (x:=.d (.int .u32 0)) rfl hρ rfl;obtain ⟨v1,c1,r1⟩:=s.boxCell (j:=1) (x:=.d (.int .i32 0)) rfl hρ rfl;have f1:=s.boxFree (j:=1) rfl hρ lC;obtain ⟨s1,st1⟩:=s.boxSet (j:=1) (x:=.d (.int .i32 1)) (v:=.int .i32 1) rfl hρ lC (.d _ _ (.int _ _));rw[intOf r0] at c0;rw[intOf r1] at c1;refine (Abn g w (fun w'=>∃ h' ρ',Sim G h' ρ' (hp (.box (.d (.int .u32 0)::.d (.int .i32 1)::cs')::H')) w'/\A6 h ρ (w.setCell ⟨g,1,none⟩ (.int .i32 1)) h' ρ' w') c0 c1 f1 ?_ ?_).mono ?_
 ·refine (hf.2 h ρ _ #[.pointer (some ⟨g,0,none⟩)] s1 ⟨rfl,fun i x y hx hy=>?_⟩).mono ?_
  ·match i,hx,hy with
   | 0,hx,hy=>cases hx;cases hy;exact .ptr _ _ g S hρ
   | i+1,hx,hy=>simp at hy
  rintro e w' ⟨v,h',ρ',rfl,q1,q2,q3⟩;refine ⟨?_,h',ρ',q1,q3⟩;cases q2 with
  | d _ _ hd=>cases hd with
    | tup us _ hl _=>rw[AgG hl]
 ·rintro w' ⟨h',ρ',q1,q3⟩;have hρ':=q3.rmono _ _ hρ;obtain ⟨v0,c0,r0⟩:=q1.boxCell (j:=0) (x:=.d (.int .u32 0)) rfl hρ' rfl;obtain ⟨v1,c1,r1⟩:=q1.boxCell (j:=1) (x:=.d (.int .i32 1)) rfl hρ' rfl;rw[intOf r0] at c0;rw[intOf r1] at c1;exact ⟨c0,c1,q1.boxFree (j:=0) rfl hρ' lC,q1.boxFree (j:=1) rfl hρ' lC⟩
 rintro e w' ⟨rfl,w1,⟨h',ρ',q1,q3⟩,rfl⟩;have hρ':=q3.rmono _ _ hρ;obtain ⟨s2,st2⟩:=q1.drew.boxSet (j:=0) (x:=.d (.int .u32 1)) (v:=.int .u32 1) rfl hρ' lC (.d _ _ (.int _ _));obtain ⟨s3,st3⟩:=s2.boxSet (j:=1) (x:=.d (.int .i32 0)) (v:=.int .i32 0) rfl hρ' lC (.d _ _ (.int _ _));exact ⟨_,h',ρ',rfl,s3,.d _ _ (.tup #[] [] rfl (fun i v x hv=>by simp at hv)),st1.trans (q3.trans (A6.drew.trans (st2.trans st3)))⟩
end
section
open Go Go.Proofs Go.Abs Go.RowKit Go.Shelf
variable {G:Ah}
def Tryz.laysCount_ren:Go.Shelf.Ren:=⟨fun | 138=>293 | 195=>294 | 218=>295 | 143=>296 | 219=>201 | 217=>211 | 225=>189 | 224=>188 | 267=>220 | 266=>235 | 314=>245 | n=>n,fun | 9=>9 | 3=>3 | 4=>4 | 5=>5 | 0=>0 | 46=>155 | 146=>236 | 51=>187 | n=>n,fun | 1=>4 | n=>n⟩
def Tryz.laysCount:Go.Proofs.Lays.n138 TP Tryz.laysCount_ren where
 mixed:=by kernel_rfl
 f138:=Tryz.func293.trans (congrArg some (by kernel_rfl))
 f143:=Tryz.func296.trans (congrArg some (by kernel_rfl))
 f195:=Tryz.func294.trans (congrArg some (by kernel_rfl))
 f217:=Tryz.func211.trans (congrArg some (by kernel_rfl))
 f218:=Tryz.func295.trans (congrArg some (by kernel_rfl))
 f219:=Tryz.func201.trans (congrArg some (by kernel_rfl))
 f224:=Tryz.func188.trans (congrArg some (by kernel_rfl))
 f225:=Tryz.func189.trans (congrArg some (by kernel_rfl))
 f266:=Tryz.func235.trans (congrArg some (by kernel_rfl))
 f267:=Tryz.func220.trans (congrArg some (by kernel_rfl))
 f314:=Tryz.func245.trans (congrArg some (by kernel_rfl))
 t0:=Tryz.underlying0
 a0:=Tryz.isAgg0
 z0:=Tryz.sizeOf0
 v0:=Tryz.zeroValue0
 t3:=Tryz.underlying3
 a3:=Tryz.isAgg3
 z3:=Tryz.sizeOf3
 v3:=Tryz.zeroValue3
 t4:=Tryz.underlying4
 a4:=Tryz.isAgg4
 z4:=Tryz.sizeOf4
 v4:=Tryz.zeroValue4
 t5:=Tryz.underlying5
 a5:=Tryz.isAgg5
 z5:=Tryz.sizeOf5
 v5:=Tryz.zeroValue5
 t9:=Tryz.underlying9
 a9:=Tryz.isAgg9
 z9:=Tryz.sizeOf9
 v9:=Tryz.zeroValue9
 t46:=Tryz.underlying155
 a46:=Tryz.isAgg155
 z46:=Tryz.sizeOf155
 v46:=Tryz.zeroValue155
 t51:=Tryz.underlying187
 a51:=Tryz.isAgg187
 z51:=Tryz.sizeOf187
 v51:=Tryz.zeroValue187
 t146:=Tryz.underlying236
 a146:=Tryz.isAgg236
 z146:=Tryz.sizeOf236
 v146:=Tryz.zeroValue236
 g1:=by kernel_rfl
def Wz (l:List UInt8) (c:UInt8):Ctr TP G 293 [.d (S l),.d (S [c])] [] (.d (.int .i64 (Lib.countByte l c:Nat))) [] :=
 Ctr.of_calls_ss Aey fun h w=>(Any.strings_Count_one Tryz.laysCount (bs l) c w).mono (by rintro e w' ⟨rfl,rfl⟩;exact ⟨_,rfl,.int _ _,.refl _ _⟩)
def FN:List D:=[S [92],S [92,92],S [34],S [92,34],S [10],S [92,110],S [13],S [92,114],S [9],S [92,116]]
def Lp (full:Bool):Ctr TP G 100 [.d (.sl 10 full FN)] [] (.ptr 1 0)
  [.row false FN,.box [.d (.int .u32 0),.d (.int .i32 0),.d (.int .u32 0),.d .nili,.lsl 0 1 0 10]]:=by
 refine Ctr.body (M:=M0) Ak Tryz.func100 rfl AfY ?_;have l0:FN.length=10:=rfl;have l1:¬(((10:Nat):Int).tmod 2=1):=lz
 simp(disch:=try exact aa)only[Tryz.f100,l0,↓Ab,Ad,↓reduceIte,Qu,Qv,Qw];first
 | exact ⟨[some 0,some 1],rfl,lC,gU,.inl kP⟩
end
section
open Go Go.Proofs Go.Abs
variable {G:Ah}
abbrev z0:AV:=.d (.val (.slice none 0 0))
def MB8:B8:=fun k=>Nat.beq k 2000095
def Agh:MB8 2000095=true:=rfl
def Jo {k:Nat} (h:¬k=2000095):MB8 k=false:=by
 cases e:MB8 k with
 | false=>rfl
 | true=>exact absurd (Nat.eq_of_beq_eq_true e) h
def Mo (r:AV):List AV:=(Aeu 257 z0).set 256 r
def oB:List UInt8:=[92,34,10,13,9]
def nB:List UInt8:=[92,34,110,114,116]
def Abj {k:Nat} (h:k<5):FN.getD (2*k) .nilp=S [oB.getD k 0]:=by
 match k,h with
 | 0,_=>rfl
 | 1,_=>rfl
 | 2,_=>rfl
 | 3,_=>rfl
 | 4,_=>rfl
def AcQ {k:Nat} (h:k<5):FN.getD (2*k+1) .nilp=S [92,nB.getD k 0]:=by
 match k,h with
 | 0,_=>rfl
 | 1,_=>rfl
 | 2,_=>rfl
 | 3,_=>rfl
 | 4,_=>rfl
def Ch:Nat->AV->List AV
 | 0,r=>Mo r
 | k+1,r=>(Ch k r).set (oB.getD (4-k) 0).toNat (.lsl (3+k) 1 0 2)
def D5 (k:Nat) (r:AV):(Ch k r).length=257:=by
 induction k with
 | zero=>rfl
 | succ k ih=>simp[Ch,ih]
def Aej {k:Nat}:¬(oB.getD (4-k) 0).toNat=256:=by have:=(oB.getD (4-k) 0).toNat_lt;omega
def KZ (k:Nat) (r r2:AV):(Ch k r).set 256 r2=Ch k r2:=by
 induction k with
 | zero=>rw[Ch,Ch,Mo,Mo,List.set_set]
 | succ k ih=>rw[Ch,Ch,List.set_comm _ _ Aej,ih]
def J4 {k:Nat} {r:AV}:(Ch k r).getD 256 .undef=r:=by rw[<-KZ k r r];simp[AbY,D5]
def Fk {r:AV} {j:Nat} (h:j<256):(Mo r)[j]?=some z0:=by rw[Mo,Agu lA,AgQ,if_pos lA]
def HX {k:Nat} {r:AV} (h:k<5):(Ch k r).getD (oB.getD (4-k) 0).toNat .undef=z0:=by
 have e:∀ (l:List AV) (i j:Nat) (x:AV),¬i=j->(l.set i x)[j]?=l[j]?:=fun l i j x h=>Agu h;rw[AbY];have hc:k=0\/k=1\/k=2\/k=3\/k=4:=lA
 rcases hc with rfl | rfl | rfl | rfl | rfl
 ·rw[Ch,Fk lz];rfl
 ·rw[Ch,Ch,e _ _ _ _ lz,Fk lz];rfl
 ·rw[Ch,Ch,Ch,e _ _ _ _ lz,e _ _ _ _ lz,Fk lz];rfl
 ·rw[Ch,Ch,Ch,Ch,e _ _ _ _ lz,e _ _ _ _ lz,e _ _ _ _ lz,Fk lz];rfl
 rw[Ch,Ch,Ch,Ch,Ch,e _ _ _ _ lz,e _ _ _ _ lz,e _ _ _ _ lz,e _ _ _ _ lz,Fk lz];rfl
def B2 {fl:List (Option Nat)}:∀ {l l':List AV} {i:Nat} {x y:AV},SW fl l l'->AW fl x y->SW fl (l.set i x) (l'.set i y)
 | [],[],_,_,_,_,_=>by simp[SW]
 | a::l,b::l',0,x,y,h,hx=>by simp only[SW] at h;simp only[List.set_cons_zero,SW];exact ⟨hx,h.2⟩
 | a::l,b::l',i+1,x,y,h,hx=>by simp only[SW] at h;simp only[List.set_cons_succ,SW];exact ⟨h.1,B2 h.2 hx⟩
 | [],_::_,_,_,_,h,_=>by simp[SW] at h
 | _::_,[],_,_,_,h,_=>by simp[SW] at h
def Jb {fl:List (Option Nat)}:∀ n:Nat,SW fl (Aeu n z0) (Aeu n z0)
 | 0=>by simp[SW]
 | n+1=>by rw[Ag1];simp only[SW];exact ⟨kP,Jb n⟩
def El {fl:List (Option Nat)} {k:Nat} {r r':AV} (hr:AW fl r r') (hf:∀ i,i<k->fl[3+i]?=some (some (3+i))):SW fl (Ch k r) (Ch k r'):=by
 induction k with
 | zero=>exact B2 (Jb _) hr
 | succ k ih =>refine B2 (ih fun i hi=>hf i lA) ?_;simp[AW,hf k lA]
def toR (k:Nat):List D:=(Ahe k).map fun i=>S [oB.getD (4-i) 0]
def Jt (k:Nat):List Ae:=(Ahe k).map fun i=>.row false (Ar .u8 (AB [92,nB.getD (4-i) 0]))
def Hf (a0 a1 a2 a3:D) (k:Nat):List Ae:=[.box [.d a0,.d a1,.d a2,.d a3,.d (.sl 10 false FN)],.row false (toR k),.box (Ch k (.lsl 1 1 0 k))]++Jt k
def WB (a0 a1 a2 a3:D):Ctr TP G 167 [.ptr 0 0] [.box [.d a0,.d a1,.d a2,.d a3,.d (.sl 10 false FN)]] (.ifp 265 2)
  (Hf a0 a1 a2 a3 5):=by
 refine Ctr.body (M:=MB8) Ak Tryz.func167 rfl Ae6 ?_;have l0:FN.length=10:=rfl;simp(disch:=try exact aa)only[Tryz.f167,Jo,↓Ab,Ad,↓reduceIte,Qu,Qv];refine Al.fx 8 (α:=Nat) (β:=Unit) (fun k=>5-k) (fun k=>[(4,.d (.bool (k == 0))),(5,.d (.int .i64 (2*k:Nat)))]) (fun _=>[.box [.d a0,.d a1,.d a2,.d a3,.d (.sl 10 false FN)]]) (fun k=>k<=5)
  8 (fun _=>[(4,.d (.bool false))]) (fun _=>[.box [.d a0,.d a1,.d a2,.d a3,.d (.sl 10 false FN)]]) (fun _=>True) 0 lA ?_ ?_ ?_
 ·exact nr
 ·intro k hk;simp only[Bm,AbZ,Aeg];rcases Aen k 5 with h | h
  ·have g0:=Abj h;have g1:=AcQ h;generalize oB.getD k 0=c at g0;generalize nB.getD k 0=d at g1;have lc:∀ x:UInt8,([x]:List UInt8).length=1:=fun _=>rfl;simp(disch:=try exact aa)only[Af,Jo,l0,g0,g1,↓Ab,Ad,↓reduceIte,Qu];have e2:(((2*k:Nat):Int)+2)=((2*(k+1):Nat):Int):=lA
   rw[e2];exact ⟨k+1,iz,iz,nu⟩
  obtain rfl:k=5:=lA
  simp(disch:=try exact aa)only[Jo,AA,↓Ab,Ad,Qw,QK];exact ⟨(),trivial,nu⟩
 rintro _ _;simp only[Bm,AbZ,Aeg];have w5:IntKind.i64.wrap (((10:Nat):Int).tdiv 2)=5:=lz
 simp(disch:=try exact aa)only[Jo,show DH MB8 (some 95)=true from rfl,w5,↓Ab,Ad,↓reduceIte,Qu];refine Al.fr 2056 (α:=Nat) (fun k=>5-k) (fun k=>[(12,.d (.int .i64 (8-2*k)))]) (fun k=>Hf a0 a1 a2 a3 k) (fun k=>k<=5) 0 lA ?_ ?_
 ·refine ⟨[some 0,some 1,some 2],rfl,lC,gV,?_⟩;simp only[Hf,Jt,toR,AeB,Agp,Agy,HW,BW,Aeq,AeA,and_true]
  and_intros
  all_goals first | exact B2 (Jb 257) kP | simp[SW,AW,AQ]
 intro k hk;simp only[Bm,AbZ,Aeg];rcases Aen k 5 with h | h
 ·have hc:k=0\/k=1\/k=2\/k=3\/k=4:=by omega
  rcases hc with rfl | rfl | rfl | rfl | rfl
  ·have tf:(Ch 0 (.lsl 1 1 0 0)).getD 9 .undef=z0:=HX (k:=0) lA;have tr:(Ch 0 (.lsl 1 1 0 0)).getD 256 .undef=.lsl 1 1 0 0:=J4;have hi:(8-2*((0:Nat):Int))=8:=rfl;have g0:FN.getD 8 .nilp=S [9]:=rfl;have g1:FN.getD 9 .nilp=S [92,116]:=rfl;have nb:(9:UInt8).toNat=9:=rfl;have nd:(116:UInt8).toNat=116:=rfl;have n92:(92:UInt8).toNat=92:=rfl;have b1:([9]:List UInt8).length=1:=rfl;have b2:([92,116]:List UInt8).length=2:=rfl;simp only[Hf,Jt,toR,Af0,AeB,Aes,Aew,Agp,AfI];simp(disch:=try exact aa)only[Af,Jo,l0,tf,tr,D5,g0,g1,nb,nd,n92,b1,b2,KZ,AA,↓Ab,Ad,↓reduceIte,Qu,Qv,Qw,QA,QB,QC,QF];refine ⟨1,lC,lC,[some 0,some 5,some 2,some 6],rfl,lC,jR,?_⟩;simp only[Af0,AeB,Aes,Aew,Agp,HW,BW,Aeq,AeA,and_true]
   and_intros
   all_goals first | exact B2 (El kP (fun i hi=>ai)) kP | (simp[SW,AW];done) | rfl | (simp[SW,AW];rfl)
  ·have tf:(Ch 1 (.lsl 1 1 0 1)).getD 13 .undef=z0:=HX (k:=1) lA;have tr:(Ch 1 (.lsl 1 1 0 1)).getD 256 .undef=.lsl 1 1 0 1:=J4;have hi:(8-2*((1:Nat):Int))=6:=rfl;have g0:FN.getD 6 .nilp=S [13]:=rfl;have g1:FN.getD 7 .nilp=S [92,114]:=rfl;have nb:(13:UInt8).toNat=13:=rfl;have nd:(114:UInt8).toNat=114:=rfl;have n92:(92:UInt8).toNat=92:=rfl;have b1:([13]:List UInt8).length=1:=rfl;have b2:([92,114]:List UInt8).length=2:=rfl;simp only[Hf,Jt,toR,Af0,AeB,Aes,Aew,Agp,AfI];simp(disch:=try exact aa)only[Af,Jo,l0,hi,tf,tr,D5,g0,g1,nb,nd,n92,b1,b2,KZ,AA,↓Ab,Ad,↓reduceIte,Qu,Qv,Qw,QA,QB,QF];refine ⟨2,lC,lC,[some 0,some 6,some 2,some 3,some 7],rfl,lC,jR,?_⟩;simp only[Af0,AeB,Aes,Aew,Agp,AfI,HW,BW,Aeq,AeA,and_true]
   and_intros
   all_goals first | exact B2 (El kP (fun i hi=>ai)) kP | (simp[SW,AW];done) | rfl | (simp[SW,AW];rfl)
  ·have tf:(Ch 2 (.lsl 1 1 0 2)).getD 10 .undef=z0:=HX (k:=2) lA;have tr:(Ch 2 (.lsl 1 1 0 2)).getD 256 .undef=.lsl 1 1 0 2:=J4;have hi:(8-2*((2:Nat):Int))=4:=rfl;have g0:FN.getD 4 .nilp=S [10]:=rfl;have g1:FN.getD 5 .nilp=S [92,110]:=rfl;have nb:(10:UInt8).toNat=10:=rfl;have nd:(110:UInt8).toNat=110:=rfl;have n92:(92:UInt8).toNat=92:=rfl;have b1:([10]:List UInt8).length=1:=rfl;have b2:([92,110]:List UInt8).length=2:=rfl;simp only[Hf,Jt,toR,Af0,AeB,Aes,Aew,Agp,AfI];simp(disch:=try exact aa)only[Af,Jo,l0,hi,tf,tr,D5,g0,g1,nb,nd,n92,b1,b2,KZ,AA,↓Ab,Ad,↓reduceIte,Qu,Qv,Qw,QA,QB,QF];refine ⟨3,lC,lC,[some 0,some 7,some 2,some 3,some 4,some 8],rfl,lC,jR,?_⟩;simp only[Af0,AeB,Aes,Aew,Agp,AfI,HW,BW,Aeq,AeA,and_true]
   and_intros
   all_goals first | exact B2 (El kP (fun i hi=>ai)) kP | (simp[SW,AW];done) | rfl | (simp[SW,AW];rfl)
  ·have tf:(Ch 3 (.lsl 1 1 0 3)).getD 34 .undef=z0:=HX (k:=3) lA;have tr:(Ch 3 (.lsl 1 1 0 3)).getD 256 .undef=.lsl 1 1 0 3:=J4;have hi:(8-2*((3:Nat):Int))=2:=rfl;have g0:FN.getD 2 .nilp=S [34]:=rfl;have g1:FN.getD 3 .nilp=S [92,34]:=rfl;have nb:(34:UInt8).toNat=34:=rfl;have nd:(34:UInt8).toNat=34:=rfl;have n92:(92:UInt8).toNat=92:=rfl;have b1:([34]:List UInt8).length=1:=rfl;have b2:([92,34]:List UInt8).length=2:=rfl;simp only[Hf,Jt,toR,Af0,AeB,Aes,Aew,Agp,AfI];simp(disch:=try exact aa)only[Af,Jo,l0,hi,tf,tr,D5,g0,g1,nb,n92,b1,b2,KZ,AA,↓Ab,Ad,↓reduceIte,Qu,Qv,Qw,QA,QB,QF];refine ⟨4,lC,lC,[some 0,some 8,some 2,some 3,some 4,some 5,some 9],rfl,lC,jR,?_⟩;simp only[Af0,AeB,Aes,Aew,Agp,AfI,HW,BW,Aeq,AeA,and_true]
   and_intros
   all_goals first | exact B2 (El kP (fun i hi=>ai)) kP | (simp[SW,AW];done) | rfl | (simp[SW,AW];rfl)
  have tf:(Ch 4 (.lsl 1 1 0 4)).getD 92 .undef=z0:=HX (k:=4) lA;have tr:(Ch 4 (.lsl 1 1 0 4)).getD 256 .undef=.lsl 1 1 0 4:=J4;have hi:(8-2*((4:Nat):Int))=0:=rfl;have g0:FN.getD 0 .nilp=S [92]:=rfl;have g1:FN.getD 1 .nilp=S [92,92]:=rfl;have nb:(92:UInt8).toNat=92:=rfl;have nd:(92:UInt8).toNat=92:=rfl;have n92:(92:UInt8).toNat=92:=rfl;have b1:([92]:List UInt8).length=1:=rfl;have b2:([92,92]:List UInt8).length=2:=rfl;simp only[Hf,Jt,toR,Af0,AeB,Aes,Aew,Agp,AfI];simp(disch:=try exact aa)only[Af,Jo,l0,hi,tf,tr,D5,g0,g1,nb,b1,b2,KZ,AA,↓Ab,Ad,↓reduceIte,Qu,Qv,Qw,QA,QB,QE,QF];refine ⟨5,lC,lC,[some 0,some 9,some 2,some 3,some 4,some 5,some 6,some 10],rfl,lC,jR,?_⟩;simp only[Af0,AeB,Aes,Aew,Agp,AfI,HW,BW,Aeq,AeA,and_true]
  and_intros
  all_goals first | exact B2 (El kP (fun i hi=>ai)) kP | (simp[SW,AW];done) | rfl | (simp[SW,AW];rfl)
 obtain rfl:k=5:=lA
 simp(disch:=try exact aa)only[Jo,AA,↓Ab,Ad];refine ⟨[some 0,some 1,some 2,some 3,some 4,some 5,some 6,some 7],rfl,lC,?_,.inl kP⟩;simp only[Hf,Jt,Af0,AeB,Aes,Aew,Agp,AfI,HW,BW,Aeq,AeA,and_true];have hf:∀ i,i<5->([some 0,some 1,some 2,some 3,some 4,some 5,some 6,some 7]:List (Option Nat))[3+i]?=some (some (3+i)):=by
  intro i hi;have hc:i=0\/i=1\/i=2\/i=3\/i=4:=lA
  rcases hc with rfl | rfl | rfl | rfl | rfl<;>rfl
 and_intros
 all_goals first | exact El kP hf | simp[SW,AW]
def Ty {f:Nat->Nat} {k:Nat} {r:AV} (hf:∀ i,i<k->f (3+i)=3+i):renL f (Ch k r)=Ch k (renA f r):=by
 induction k with
 | zero=>rw[Dp,Ch,Ch,Mo,Mo,Ahn,List.map_replicate];rfl
 | succ k ih =>rw[Dp,Ch,Ahn,<-Dp,ih fun i hi=>hf i lA,Ch];simp[renA,hf k lA]
def OJ (a0 a1 a2:D):Ctr TP G 130 [.ptr 0 0] [.box [.d a0,.d a1,.d a2,.d .nili,.d (.sl 10 false FN)]] (.d (.tup []))
  (.box [.d a0,.d a1,.d a2,.ifp 265 2,.d (.sl 0 true [])]::(Hf a0 a1 a2 .nili 5).tail):=by
 refine Ctr.body (M:=M0) Ak Tryz.func130 rfl Afz ?_;simp only[Tryz.f130,↓Ab,Ad,↓reduceIte,Qv];refine Aa.by (WB a0 a1 a2 .nili) lD lD (by simp[Hf]) ?_;simp only[Hf,Jt,toR,Af0,AeB,Aes,Aew,Agp,AfI,Ahf];simp(disch:=try exact aa)only[AA,↓Ab,Ad,↓reduceIte,Qu,Qv];have hr:renA (outN [0] 1) (.lsl 1 1 0 5)=.lsl 1 1 0 5:=rfl;have hg:∀ i,i<5->outN [0] 1 (3+i)=3+i:=by
  intro i hi;have hc:i=0\/i=1\/i=2\/i=3\/i=4:=lA
  rcases hc with rfl | rfl | rfl | rfl | rfl<;>rfl
 rw[Ty hg,hr];refine ⟨[some 0,some 1,some 2,some 3,some 4,some 5,some 6,some 7],rfl,lC,?_,.inr ⟨.tup [],rfl,rfl,rfl⟩⟩;simp only[HW,BW,Aeq,AeA,and_true];have hf:∀ i,i<5->([some 0,some 1,some 2,some 3,some 4,some 5,some 6,some 7]:List (Option Nat))[3+i]?=some (some (3+i)):=by
  intro i hi;have hc:i=0\/i=1\/i=2\/i=3\/i=4:=lA
  rcases hc with rfl | rfl | rfl | rfl | rfl<;>rfl
 and_intros
 all_goals first | exact El kP hf | simp[SW,AW]
end
section
open Go Go.Proofs Go.Abs
def rpN (b:UInt8):Option UInt8:=if b=92 then some 92 else if b=34 then some 34 else if b=10 then some 110 else if b=13 then some 114 else if b=9 then some 116 else none
def rpO (b:UInt8):List UInt8:=match rpN b with
 | some n=>[92,n]
 | none=>[b]
def rpL (s:List UInt8):List UInt8:=s.flatMap rpO
def rpC (s:List UInt8):Nat:=s.countP fun b=>(rpN b).isSome
def Xl (b:UInt8):(rpO b).length=1+(if (rpN b).isSome then 1 else 0):=by unfold rpO;split<;>rename_i h<;>simp[h]
def Sa:∀ s:List UInt8,(rpL s).length=s.length+rpC s
 | []=>rfl
 | b::s=>by have ih:=Sa s;unfold rpL rpC at ih ⊢;rw[Ag8,Agq,ih,AgH,Xl,Agv];split<;>simp_all<;>omega
def TN:∀ s:List UInt8,rpC s=0->rpL s=s
 | [],_=>rfl
 | b::s,h=>by
   unfold rpC at h;rw[AgH] at h;have h1:s.countP (fun b=>(rpN b).isSome)=0:=lA
   have h2:(rpN b).isSome=false:=by
    cases e:(rpN b).isSome;·rfl
    rw[e] at h;simp at h
   have h3:rpN b=none:=iS;show (b::s).flatMap rpO=b::s
   rw[Ag8,show s.flatMap rpO=s from TN s h1];simp[rpO,h3]
def TM {s:List UInt8} {i:Nat} (h:i<s.length):rpL (s.take (i+1))=rpL (s.take i)++rpO (s.getD i 0):=by rw[rpL,rpL,AgP,Aet h,Ag2,AbY,Aet h];simp
def Aab {s:List UInt8} {i:Nat} (h:i<s.length):rpC (s.take (i+1))=rpC (s.take i)+(if (rpN (s.getD i 0)).isSome then 1 else 0):=by rw[rpC,rpC,AgP,Aet h,List.countP_append,AbY,Aet h];simp[AgH]
def Aaa (s:List UInt8) (i:Nat):(rpL (s.take i)).length+(rpL (s.drop i)).length=(rpL s).length:=by rw[<-Agq];congr 1;rw[rpL,rpL,rpL,<-Ag2,List.take_append_drop]
def Acn (s:List UInt8):rpC s=s.count 9+s.count 13+s.count 10+s.count 34+s.count 92:=by
 induction s with
 | nil=>rfl
 | cons b s ih =>
  unfold rpC at ih ⊢;rw[AgH,ih];simp only[List.count_cons];by_cases h1:b=92;·subst h1;simp[rpN];omega
  by_cases h2:b=34;·subst h2;simp[rpN];omega
  by_cases h3:b=10;·subst h3;simp[rpN];omega
  by_cases h4:b=13;·subst h4;simp[rpN];omega
  by_cases h5:b=9;·subst h5;simp[rpN];omega
  simp[rpN,h1,h2,h3,h4,h5]
def VO (n:UInt8):List D:=Ar .u8 (AB [92,n])
def Gq:List AV:=(((((Mo (.d (.sl 5 false (toR 5)))).set 9 (.d (.sl 2 false (VO 116)))).set 13 (.d (.sl 2 false (VO 114)))).set 10 (.d (.sl 2 false (VO 110)))).set 34 (.d (.sl 2 false (VO 34)))).set 92 (.d (.sl 2 false (VO 92)))
def EK:Gq.length=257:=by rw[Gq,Agw,Agw,Agw,Agw,Agw];exact D5 0 _
def Nn (b:UInt8):Gq.getD b.toNat .undef=match rpN b with
  | some n=>.d (.sl 2 false (VO n))
  | none=>z0:=by
 have hl:b.toNat<256:=b.toNat_lt;have ne:∀ c:UInt8,¬b=c->¬c.toNat=b.toNat:=fun c h e=>h (UInt8.toNat_inj.1 e.symm);have t0:(Mo (.d (.sl 5 false (toR 5))))[b.toNat]?=some z0:=Fk hl;have ln:(Mo (.d (.sl 5 false (toR 5)))).length=257:=D5 0 _;rw[AbY,Gq];simp only[AgO,Agw,ln];by_cases h1:b=92;·subst h1;rfl
 by_cases h2:b=34;·subst h2;rfl
 by_cases h3:b=10;·subst h3;rfl
 by_cases h4:b=13;·subst h4;rfl
 by_cases h5:b=9;·subst h5;rfl
 have e1:¬92=b.toNat:=ne 92 h1;have e2:¬34=b.toNat:=ne 34 h2;have e3:¬10=b.toNat:=ne 10 h3;have e4:¬13=b.toNat:=ne 13 h4;have e5:¬9=b.toNat:=ne 9 h5;rw[if_neg e1,if_neg e2,if_neg e3,if_neg e4,if_neg e5,t0];simp[rpN,h1,h2,h3,h4,h5]
def Tz:Gq.getD 256 .undef=.d (.sl 5 false (toR 5)):=by have ln:(Mo (.d (.sl 5 false (toR 5)))).length=257:=D5 0 _;rw[AbY,Gq,Agu lz,Agu lz,Agu lz,Agu lz,Agu lz,Mo,List.getElem?_set_self (by rw[List.length_replicate];decide)];rfl
end
section
open Go Go.Proofs Go.Abs
variable {G:Ah}
def K8 {fl:List (Option Nat)}:SW fl Gq Gq:=by
 have a:∀ d:D,AW fl (.d d) (.d d):=fun d=>kP
 exact B2 (B2 (B2 (B2 (B2 (B2 (Jb 257) (a _)) (a _)) (a _)) (a _)) (a _)) (a _)
def Dm:HW [some 0] [.box Gq] [some 0] [.box Gq]:=by simp only[HW,BW,Aeq,and_true];exact K8
def MB (s:List UInt8):Nat->Nat
 | 0=>0
 | j+1=>MB s j+Lib.countByte s (oB.getD (4-j) 0)
def Abx (s:List UInt8):MB s 5=rpC s:=by
 rw[Acn];show 0+s.count 9+s.count 13+s.count 10+s.count 34+s.count 92=_
 omega
def XR (s:List UInt8):∀ j,MB s j<=j*s.length
 | 0=>by simp[MB]
 | j+1=>by have ih:=XR s j;have:=AgX (a:=oB.getD (4-j) 0) (l:=s);rw[MB,Nat.add_mul,Ahp];unfold Lib.countByte;omega
def AdG {j:Nat} (h:j<5):rpN (oB.getD (4-j) 0)=some (nB.getD (4-j) 0):=by
 match j,h with
 | 0,_=>rfl
 | 1,_=>rfl
 | 2,_=>rfl
 | 3,_=>rfl
 | 4,_=>rfl
def Ab6 {j:Nat} (h:j<5):(toR 5).getD j .nilp=S [oB.getD (4-j) 0]:=by
 match j,h with
 | 0,_=>rfl
 | 1,_=>rfl
 | 2,_=>rfl
 | 3,_=>rfl
 | 4,_=>rfl
def ZX {X Y:List D} (e:X=Y):HW [some 0,some 1] [.box Gq,.row false X] [some 0,some 1] [.box Gq,.row false Y]:=by subst e;simp only[HW,BW,Aeq,AeA,and_true,true_and];exact ⟨K8,fun h=>h⟩
def YL (n:Nat):AR .u8 (Aeu n 0)=Ar .u8 (AB (Aeu n 0)):=by simp[AR,Ar,AB]
def Aco {A:List UInt8} {n:Nat} {b:UInt8}:(AB (A++Aeu (n+1) 0)).set A.length b.toNat=AB ((A++[b])++Aeu n 0):=by simp[AB,Ag1]
def Acp {A:List UInt8} {n:Nat} {y:UInt8}:Ar .u8 ((AB (A++Aeu (n+2) 0)).take A.length)++(.int .u8 92::.int .u8 y.toNat::(Ar .u8 (AB (A++Aeu (n+2) 0))).drop (A.length+2)) =
  Ar .u8 (AB ((A++[92,y])++Aeu n 0)):=by
 have e1:(AB (A++Aeu (n+2) 0)).take A.length=AB A:=by simp[AB]
 have e2:(Ar .u8 (AB (A++Aeu (n+2) 0))).drop (A.length+2)=Ar .u8 (AB (Aeu n 0)):=by simp[Ar,AB,List.drop_append]
 rw[e1,e2];simp[Ar,AB]
def Abz (s:List UInt8) (hs:s.length<=1000000000):Ctr TP G 291 [.ptr 0 0,.d (S s)] [.box Gq] (.d (S (rpL s))) [.box Gq]:=by
 refine Ctr.body (M:=M0) Ak Tryz.func291 rfl Aez ?_;have cle:rpC s<=s.length:=AgF;have rest:∀ (Q:Prop),True:=fun _=>trivial;rcases Aen s.length 40 with h40 | h40
 case' inl =>
  simp(disch:=try exact aa)only[Af,Tryz.f291,Tz,EK,↓Ab,Ad,↓reduceIte,Qu,Qv];refine Al.fx 3 (α:=Nat) (β:=Unit) (fun i=>s.length-i) (fun i=>[(5,.d (.int .i64 (s.length+rpC (s.take i):Nat))),(6,.d (.bool (decide (rpC (s.take i)≠0)))),(10,.d (.int .i64 i))]) (fun _=>[.box Gq]) (fun i=>i<=s.length)
   3 (fun _=>[(5,.d (.int .i64 (s.length+rpC s:Nat))),(6,.d (.bool (decide (rpC s≠0))))]) (fun _=>[.box Gq]) (fun _=>True) 0 (AfZ _) ?_ ?_ ?_
  ·exact ⟨[some 0],rfl,lC,by simp[sA,kZ,SW,AW,rpC],Dm⟩
  ·intro i hi;simp only[Bm,AbZ,Aeg];rcases Aen i s.length with h | h
   ·have tg:=Nn (s.getD i 0);have ct:=Aab h;have bl:(s.getD i 0).toNat<256:=UInt8.toNat_lt _;have cl:rpC (s.take i)<=i:=Ag9 AgF jW;cases hr:rpN (s.getD i 0) with
    | none =>rw[hr] at tg ct;simp(disch:=try exact aa)only[Af,tg,EK,↓Ab,Ad,↓reduceIte];exact ⟨i+1,iz,iz,[some 0],rfl,lC,by simp[SW,AW,ct],Dm⟩
    | some n =>rw[hr] at tg ct;simp(disch:=try exact aa)only[Af,tg,EK,↓Ab,Ad,↓reduceIte];exact ⟨i+1,iz,iz,[some 0],rfl,lC,by simp[SW,AW,ct,Ahj],Dm⟩
   obtain rfl:i=s.length:=lA
   simp(disch:=try exact aa)only[Af,AA,↓Ab,Ad];exact ⟨(),trivial,[some 0],rfl,lC,jR,Dm⟩
  rintro _ _;simp only[Bm,AbZ,Aeg]
 case' inr =>
  simp(disch:=try exact aa)only[Af,Tryz.f291,Tz,EK,↓Ab,Ad,↓reduceIte,Qu,Qv];refine Al.fx 3221225475 (α:=Nat) (β:=Unit) (fun i=>5-i) (fun i=>[(5,.d (.int .i64 (s.length+MB s i:Nat))),(6,.d (.bool (decide (MB s i≠0)))),(32,.d (.int .i64 i))]) (fun _=>[.box Gq]) (fun i=>i<=5)
   3 (fun _=>[(5,.d (.int .i64 (s.length+rpC s:Nat))),(6,.d (.bool (decide (rpC s≠0))))]) (fun _=>[.box Gq]) (fun _=>True) 0 (AfZ _) ?_ ?_ ?_
  ·exact ⟨[some 0],rfl,lC,by simp[sA,kZ,SW,AW,MB],Dm⟩
  ·intro i hi;simp only[Bm,AbZ,Aeg];rcases Aen i 5 with h | h
   ·have bl:(oB.getD (4-i) 0).toNat<256:=UInt8.toNat_lt _;have ge:=Ab6 h;have tg:=Nn (oB.getD (4-i) 0);rw[AdG h] at tg;have l1:∀ x:UInt8,([x]:List UInt8).length=1:=fun _=>rfl;have rl:(toR 5).length=5:=rfl;have cj:MB s (i+1)=MB s i+Lib.countByte s (oB.getD (4-i) 0):=rfl;have cb:MB s i<=5*1000000000:=Ag9 (XR s i) (Nat.mul_le_mul lA hs);have cc:Lib.countByte s (oB.getD (4-i) 0)<=s.length:=AgX;simp(disch:=try exact aa)only[ge,rl,↓Ab,Ad,↓reduceIte];refine Aa.of (Wz s (oB.getD (4-i) 0)) lD ?_;generalize hcv:Lib.countByte s (oB.getD (4-i) 0)=c at *;simp(disch:=try exact aa)only[Af,tg,l1,EK,↓Ab,Ad,↓reduceIte];refine ⟨fun hz=>⟨lD,i+1,iz,iz,[some 0],rfl,lC,?_,Dm⟩,fun hz=>⟨i+1,iz,iz,[some 0],rfl,lC,?_,Dm⟩⟩
    ·have hz':¬c=0:=lA;simp[SW,AW,cj,Ahj,hz']
    have hz':c=0:=lA;subst hz';simp[SW,AW,cj]
   obtain rfl:i=5:=lA
   have e5:MB s 5=rpC s:=Abx s;simp(disch:=try exact aa)only[AA,↓Ab,Ad];exact ⟨(),trivial,[some 0],rfl,lC,by simp[SW,AW,e5],Dm⟩
  rintro _ _;simp only[Bm,AbZ,Aeg]
 all_goals
  by_cases h0:rpC s=0;·have hd:decide (rpC s≠0)=false:=(by simp[h0]);have e1:=TN s h0;rw[hd,e1];simp only[↓Ab,Ad];exact ⟨[some 0],rfl,lC,Dm,.inl kP⟩
  have hd:decide (rpC s≠0)=true:=by simp[h0]
  rw[hd];simp(disch:=try exact aa)only[↓Ab,Ad,↓reduceIte,Qu];have rl0:=Sa s;refine Al.fr 4099 (α:=Nat) (fun i=>s.length-i) (fun i=>[(13,.d (.int .i64 ((rpL (s.take i)).length:Nat))),(14,.d (.int .i64 i))]) (fun i=>[.box Gq,.row false (Ar .u8 (AB (rpL (s.take i)++Aeu (rpL (s.drop i)).length 0)))]) (fun i=>i<=s.length) 0 (AfZ _) ?_ ?_
  ·refine ⟨[some 0,some 1],rfl,lC,by simp[sA,kZ,SW,AW,rpL],ZX ?_⟩;rw[YL,AgA,AgY,rl0];rfl
  intro i hi;simp only[Bm,AbZ,Aeg];rcases Aen i s.length with h | h
  ·have tg:=Nn (s.getD i 0);have bl:(s.getD i 0).toNat<256:=UInt8.toNat_lt _;have tk:=TM h;have le:=Aaa s i;have le2:=Aaa s (i+1);have ol:=Xl (s.getD i 0);have tl:(rpL (s.take (i+1))).length=(rpL (s.take i)).length+(rpO (s.getD i 0)).length:=(by rw[tk,Agq])
   cases hr:rpN (s.getD i 0) with
   | none =>
    rw[hr] at tg ol;replace ol:(rpO (s.getD i 0)).length=1:=ol;have or:rpO (s.getD i 0)=[s.getD i 0]:=(by simp only[rpO,hr])
    have dl:(rpL (s.drop i)).length=(rpL (s.drop (i+1))).length+1:=lA;have tl1:(rpL (s.take (i+1))).length=(rpL (s.take i)).length+1:=(by rw[tl,ol]);simp(disch:=try exact aa)only[Af,tg,EK,↓Ab,Ad,↓reduceIte,Qu];refine ⟨i+1,iz,iz,[some 0,some 1],rfl,lC,by simp[SW,AW,tl1],ZX ?_⟩;rw[tk,or,dl,Aco]
   | some n =>
    rw[hr] at tg ol;replace ol:(rpO (s.getD i 0)).length=2:=ol;have or:rpO (s.getD i 0)=[92,n]:=(by simp only[rpO,hr])
    have dl:(rpL (s.drop i)).length=(rpL (s.drop (i+1))).length+2:=lA;have tl2:(rpL (s.take (i+1))).length=(rpL (s.take i)).length+2:=(by rw[tl,ol]);have rb:VO n=[.int .u8 92,.int .u8 n.toNat]:=rfl;simp(disch:=try exact aa)only[Af,tg,rb,EK,AA,↓Ab,Ad,↓reduceIte,Qu];refine ⟨lD,i+1,iz,iz,[some 0,some 1],rfl,lC,by simp[SW,AW,tl2],ZX ?_⟩;rw[tk,or,dl];exact Acp
  obtain rfl:i=s.length:=lA
  have tkk:List.take (s.length+rpC s) (AB (rpL s++Aeu (rpL (s.drop s.length)).length 0))=AB (rpL s):=by rw[AgI,<-rl0,show (rpL ([]:List UInt8)).length=0 from rfl,List.replicate_zero,Agy];exact Aex (by rw[Bh];exact Af7 _)
  simp(disch:=try exact aa)only[Af,AA,↓Ab,Ad,Qu];rw[tkk,Cl];simp only[BK];refine ⟨[some 0],rfl,lC,?_,.inl kP⟩;simp only[HW,BW,Aeq,and_true];exact K8
def rH (a2:D):List Ae:=[.box [.d (.int .u32 1),.d (.int .i32 0),.d a2,.ifp 265 2,.d (.sl 0 true [])],.row false [S [oB.getD 4 0],S [oB.getD 3 0],S [oB.getD 2 0],S [oB.getD 1 0],S [oB.getD 0 0]],.box (Ch 5 (.lsl 1 1 0 5)),
 .row false (Ar .u8 (AB [92,nB.getD 4 0])),.row false (Ar .u8 (AB [92,nB.getD 3 0])),.row false (Ar .u8 (AB [92,nB.getD 2 0])),.row false (Ar .u8 (AB [92,nB.getD 1 0])),.row false (Ar .u8 (AB [92,nB.getD 0 0]))]
def ZV:refsL (Ch 5 (.lsl 1 1 0 5))=[]:=lD
def ZW (a2:D):passL (rH a2) [2] (Ch 5 (.lsl 1 1 0 5))=some Gq:=lD
def ZU (a2:D):sidsL (rH a2) [2] (Ch 5 (.lsl 1 1 0 5))=[3,5,4,6,7,1]:=lD
def Wi:OW TP 265 "Replace" 291:=fun _ _=>by kernel_rfl
def Se (s:List UInt8) (hs:s.length<=1000000000) (a2:D):Ctr TP G 101 [.ptr 0 0,.d (S s)] [.box [.d (.int .u32 0),.d (.int .i32 0),.d a2,.d .nili,.d (.sl 10 false FN)]] (.d (S (rpL s))) [.dead]:=by
 refine Ctr.body (M:=M0) Ak Tryz.func101 rfl AfX ?_;simp(disch:=try exact aa)only[Tryz.f101,↓Ab,Ad,↓reduceIte,Qu,Qv];refine Aa.by (Ad1 (H:=[]) (OJ (.int .u32 0) (.int .i32 1) a2)) lD lD (by simp[Hf]) ?_;have hr:renA (outN [0] 1) (.lsl 1 1 0 5)=.lsl 1 1 0 5:=rfl;have hg:∀ i,i<5->outN [0] 1 (3+i)=3+i:=by
  intro i hi;have hc:i=0\/i=1\/i=2\/i=3\/i=4:=lA
  rcases hc with rfl | rfl | rfl | rfl | rfl<;>rfl
 have ht:=Ty (r:=.lsl 1 1 0 5) hg;rw[hr] at ht;simp only[Hf,Jt,toR,Af0,AeB,Aes,Aew,Agp,AfI,Ahf];have tp:=ZW a2;have ts:=ZU a2;have tr:=ZV;simp only[rH] at tp ts;simp(disch:=try exact aa)only[ht,tr,AA,↓Ab,Ad,↓reduceIte,Qu,Qv];refine ⟨_,Wi,?_⟩;simp only[tp,ts,Ad,QK];refine Aa.by (Abz s hs) lD lD lC ?_;simp(disch:=try exact aa)only[↓Ab,Ad,↓reduceIte,Qu];first
 | exact m4
def VU (s:List UInt8) (hs:s.length<=1000000000):Ctr TP G 69 [.d (S s)] [] (.d (S (34::(rpL s++[34])))) []:=by
 refine Ctr.body (M:=M0) Ak Tryz.func69 rfl go69 ?_;have rl0:=Sa s;have cle:rpC s<=s.length:=AgF;simp(disch:=try exact aa)only[Tryz.f69,↓Ab,Ad,↓reduceIte,Qu,Qv,Qz];refine Aa.by (Lp false) lD lD lC ?_;simp(disch:=try exact aa)only[AA,↓Ab,Ad,↓reduceIte,Qu,QK];refine Aa.by (Se s hs (.int .u32 0)) lD lD lC ?_;simp(disch:=try exact aa)only[Af,↓Ab,Ad,↓reduceIte,Qu];first
 | exact ny
 | exact ⟨lA,lA,[],rfl,lC,kQ,.inl kP⟩
def KG (k:Int):Ctr TP G 71 [.d (.int .i64 k)] [] (.d (.int .u8 (if k=5 then 93 else 125))) []:=by
 refine Ctr.body (M:=M0) Ak Tryz.func71 rfl go71 ?_;by_cases h:k=5;·subst h;simp only[Tryz.f71,↓Ab,Ad,↓reduceIte,Qv];exact ny
 rw[if_neg h];simp only[Tryz.f71,h,↓Ab,Ad,Qv];exact ny
def nots (q:List Bool):List Bool:=q.map not
end
section
open Go Go.Proofs Go.Abs
def DX:∀ s:List UInt8,(∀ c∈s,c.toNat<128)->Lib.validD s=true
 | [],_=>rfl
 | c::r,h=>by rw[Lib.validD_cons _ _ (h c lC)];exact DX r fun x hx=>h x kI
def B1 (s:List UInt8):Prop:=∀ c∈s,c.toNat<128
def BO {a b:List UInt8} (ha:B1 a) (hb:B1 b):B1 (a++b):=fun c hc=>by
 rcases AgW.1 hc with h | h
 ·exact ha c h
 exact hb c h
def EF {P:List UInt8->Prop} {l:List (List UInt8)} (h0:P []) (h:∀ s∈l,P s) (i:Nat):P (l.getD i []):=by
 rcases Aen i l.length with h1 | h1
 ·exact h _ (Ds h1)
 rw[AbY,Agz h1];exact h0
def D0:B1 []:=fun c h=>lx
def JL {c:UInt8} {r:List UInt8} (hc:c.toNat<128) (hr:B1 r):B1 (c::r):=fun x hx=>by
 rcases AgK.1 hx with rfl | h
 ·exact hc
 exact hr x h
def WI {n:Nat} (h:n<100):B1 (CQ n):=by
 unfold CQ;split;·intro c hc;rw[Ag5.1 hc];simp;omega
 intro c hc;rcases AgK.1 hc with rfl | hc
 ·simp;omega
 rw[Ag5.1 hc];simp;omega
def Rz (t:List Int) (k:Nat):B1 (Jw t k):=by
 have h1:B1 (Ih t k):=by obtain ⟨b,hb,hb2⟩:=pk_nat t (k+1) 40 lz;unfold Ih;rw[hb];exact BO (EF D0 ib _) (WI jW)
 have h2:B1 (Kp t k):=by
  unfold Kp;split
  ·split;·exact h1
   exact JL lz h1
  exact h1
 unfold Jw;split;·exact BO h2 (JL lz (EF D0 ib _))
 exact h2
def OM (t:List Int) (k:Nat):B1 (Mf t k)/\(Mf t k).length<=10:=by
 have a1:B1 (Ej.getD (pk t k 6).toNat []):=EF D0 ib _;have a2:B1 (Dr.getD (pk t (k+1) 5).toNat []):=EF D0 ib _;have a3:B1 (GI.getD (pk t (k+2) 5).toNat []):=EF D0 ib _;have l1:=Cj (l:=Ej) (m:=4) lz (pk t k 6).toNat;have l2:=Cj (l:=Dr) (m:=2) lz (pk t (k+1) 5).toNat;have l3:=Cj (l:=GI) (m:=2) lz (pk t (k+2) 5).toNat;have one:∀ n:UInt8,n.toNat<128->B1 [n]:=fun n h=>JL h D0;unfold Mf;simp only;split;·exact l9
 split;·exact l9
 exact ⟨BO (BO (BO (BO a3 (one _ lz)) a2) (one _ lz)) a1,eS⟩
def okT (s:List UInt8):Prop:=Lib.validD s=true/\s.length<=30
instance (s:List UInt8):Decidable (okT s):=by unfold okT;exact inferInstance
def MU:okT []:=lz
def YG:∀ s∈wordsL,okT s:=lz
def YI:∀ s∈IA,okT s:=lz
def YH:∀ s∈Ii,okT s:=lz
def Aav:∀ s∈L8,okT s:=lz
def Y1 (t:List Int) (k c:Nat):okT (FF t k c):=by
 unfold FF;repeat' split
 ·exact EF MU YG _
 ·exact ⟨DX _ (Rz t k),by have:=(Ig t k).2;omega⟩
 ·exact ⟨DX _ (OM t k).1,by have:=(OM t k).2;omega⟩
 ·exact EF MU YI _
 ·have:=(Ig t k).2;have l2:=Cj (l:=Gb) (m:=4) lz (pk t (Pa t k) 7).toNat;exact ⟨DX _ (BO (Rz t k) (EF D0 ib _)),by rw[Agq];omega⟩
 ·exact EF MU YH _
 exact EF MU Aav _
end
section
open Go Go.Proofs Go.Abs
variable {G:Ah}
def OkS (t:List Int):Prop:=∀ i,0<=t.getD i 0/\t.getD i 0<=255
def OkS.take {t:List Int} (h:OkS t):OkM (t.take 300):=by
 refine ⟨jv,fun i=>?_⟩;rcases Aen i 300 with h1 | h1
 ·have:=h i;rw[AbY,AgD,if_pos h1,<-AbY];exact this
 rw[AbY,AgD,if_neg lA];decide
end
namespace Num
open Go Go.Proofs Go.Abs
variable {G:Ah}
abbrev S (l:List UInt8):D:=.str (bs l)
def hasP (s p:List UInt8):Bool:=decide (s.take p.length=p)
def hasP_le {s p:List UInt8} (h:hasP s p=true):p.length<=s.length:=aC
def hasPrefix_spec (s p:List UInt8):Ctr TP G 184 [.d (S s),.d (S p)] [] (.d (.bool (hasP s p))) []:=ac
def Mz (s p:List UInt8):Ctr TP G 168 [.d (S s),.d (S p)] [] (.d (.tup [S (if hasP s p then s.drop p.length else s),.bool (hasP s p)])) []:=by
 refine Ctr.pure (M:=M0) Ak Tryz.func168 rfl Ae5 ?_;simp only[Tryz.f168,↓Ab,Ad,↓reduceIte,Qu,Qv];refine Aa.pure (hasPrefix_spec s p) ?_;cases h:hasP s p;·simp only[↓Ab,Ad,↓reduceIte,↓Qe]
 have:=hasP_le h;exact ph
def cutPrefix_spec (s p:List UInt8):Ctr TP G 131 [.d (S s),.d (S p)] [] (.d (.tup [S (if hasP s p then s.drop p.length else s),.bool (hasP s p)])) []:=by refine Ctr.pure (M:=M0) Ak Tryz.func131 rfl Afy ?_;simp only[Tryz.f131,↓Ab,Ad,↓reduceIte,Qu,Qv];refine Aa.pure (Mz s p) ?_;exact pH
def KX (s p:List UInt8):Ctr TP G 169 [.d (S s),.d (S p)] [] (.d (S (if hasP s p then s.drop p.length else s))) []:=by
 refine Ctr.pure (M:=M0) Ak Tryz.func169 rfl Ae4 ?_;simp only[Tryz.f169,↓Ab,Ad,↓reduceIte,Qu,Qv];refine Aa.pure (hasPrefix_spec s p) ?_;cases h:hasP s p;·simp only[↓Ab,Ad,↓reduceIte,↓Qe]
 have:=hasP_le h;exact ph
def Mn (s p:List UInt8):Ctr TP G 132 [.d (S s),.d (S p)] [] (.d (S (if hasP s p then s.drop p.length else s))) []:=by refine Ctr.pure (M:=M0) Ak Tryz.func132 rfl Afx ?_;simp only[Tryz.f132,↓Ab,Ad,↓reduceIte,Qu,Qv];refine Aa.pure (KX s p) ?_;exact qD
def indexByte_calls (s:ByteArray) (c:Int) (w:World) :
  Calls TP 211 #[.string s,.int .u8 c] w fun e w'=>e=.returned (.int .i64 (Lib.indexByte s.data.toList c.toNat.toUInt8))/\w'=w:=by
 go_enter Tryz.func211,Tryz.ntmps211;go_wp2;rw[run_callFunc_extern Tryz.func235 (by kernel_rfl) (by kernel_rfl) (by kernel_rfl) (e:=Extern.BytealgIndexByte.indexByte) (by kernel_rfl),Lib.run_indexByteString];simp only[Result.andThen];rw[Oper.upon_value];go_wp2;go_ret;exact qI
def indexByte_spec (s:List UInt8) (c:UInt8):Ctr TP G 211 [.d (S s),.d (.int .u8 c.toNat)] [] (.d (.int .i64 (Lib.indexByte s c))) []:=by
 refine Ctr.of_calls Adn fun h ρ w vs q r=>?_;obtain ⟨v,u,rfl,hv,hu⟩:=r.inv2;rw[hv.str_inv,hu.int_inv];refine (indexByte_calls (bs s) c.toNat w).mono ?_;rintro e w' ⟨rfl,rfl⟩;refine ⟨_,rfl,?_,.refl _ _⟩;have:((c.toNat:Int)).toNat.toUInt8=c:=lC
 rw[this];exact .int _ _
def cutL (c:UInt8):List UInt8->List UInt8
 | []=>[]
 | b::l=>if b=c then [] else b::cutL c l
def cutR (c:UInt8):List UInt8->List UInt8
 | []=>[]
 | b::l=>if b=c then l else cutR c l
def cut_index (c:UInt8):∀ s:List UInt8,(c∈s->∃ k:Nat,Lib.indexByte s c=k/\k<s.length/\s.take k=cutL c s/\s.drop (k+1)=cutR c s)/\(c∉s->Lib.indexByte s c=-1/\cutL c s=s/\cutR c s=[])
 | []=>⟨fun h=>absurd h AgR,fun _=>⟨rfl,rfl,rfl⟩⟩
 | b::l=>by
   obtain ⟨i1,i2⟩:=cut_index c l;by_cases e:b=c;·subst e;refine ⟨fun _=>⟨0,?_,lC,by simp[cutL],by simp[cutR]⟩,fun h=>absurd (Ag6 ..) h⟩;simp[Lib.indexByte]
   have e2:¬c=b:=fun h=>e h.symm;refine ⟨fun h=>?_,fun h=>?_⟩;·obtain ⟨k,h1,h2,h3,h4⟩:=i1 ((AgK.1 h).resolve_left e2);refine ⟨k+1,?_,iS,by simp[cutL,e,h3],by simp[cutR,e,h4]⟩;simp only[Lib.indexByte,h1];rw[if_neg jw,if_neg lC];omega
   obtain ⟨h1,h2,h3⟩:=i2 (fun h2=>h (AgZ _ h2));refine ⟨?_,by simp[cutL,e,h2],by simp[cutR,e,h3]⟩;simp only[Lib.indexByte,h1];rw[if_neg jw,if_pos lz]
def index1_spec (s:List UInt8) (c:UInt8) (hs:s.length<=9223372036854775807):Ctr TP G 201 [.d (S s),.d (S [c])] [] (.d (.int .i64 (Lib.indexByte s c))) []:=by
 refine Ctr.pure (M:=M0) Ak Tryz.func201 rfl Ado ?_;simp(disch:=try exact aa)only[Af,Tryz.f201,↓Ab,Ad,↓reduceIte,↓Qe,Qu,Qv,QE];refine ⟨fun h=>?_,fun h=>?_⟩;·rw[<-h];simp[Lib.indexByte]
 refine Aa.pure (indexByte_spec s c) ?_;simp only[↓Ab,Ad,↓Qe,QE]
def cutS_spec (s:List UInt8) (c:UInt8) (hs:s.length<=9223372036854775807):Ctr TP G 170 [.d (S s),.d (S [c])] [] (.d (.tup [S (cutL c s),S (cutR c s),.bool (decide (c∈s))])) []:=by
 refine Ctr.pure (M:=M0) Ak Tryz.func170 rfl Adr ?_;simp only[Tryz.f170,↓Ab,Ad,↓reduceIte,Qu,Qv];refine Aa.pure (index1_spec s c hs) ?_;obtain ⟨i1,i2⟩:=cut_index c s;by_cases h:c∈s;·obtain ⟨k,h1,h2,h3,h4⟩:=i1 h;rw[h1,decide_eq_true h,<-h3,<-h4];simp(disch:=try exact aa)only[Af,↓Ab,Ad,↓Qe];rfl
 obtain ⟨h1,h3,h4⟩:=i2 h;rw[h1,decide_eq_false h,h3,h4];simp(disch:=try exact aa)only[↓Ab,Ad,↓Qe,QE]
def cut_spec (s:List UInt8) (c:UInt8) (hs:s.length<=9223372036854775807):Ctr TP G 133 [.d (S s),.d (S [c])] [] (.d (.tup [S (cutL c s),S (cutR c s),.bool (decide (c∈s))])) []:=by refine Ctr.pure (M:=M0) Ak Tryz.func133 rfl Ads ?_;simp only[Tryz.f133,↓Ab,Ad,↓reduceIte,Qu,Qv];refine Aa.pure (cutS_spec s c hs) ?_;exact pH
def setD (l:List UInt8):List D:=(Ahe 256).map fun i=>.bool (l.any fun b=>b.toNat == i)
def setB (l:List UInt8):List AV:=(setD l).map .d
def setB_length {l:List UInt8}:(setB l).length=256:=by simp[setB,setD]
def setD_length {l:List UInt8}:(setD l).length=256:=by simp[setD]
def setB_nil:setB []=Aeu 256 (.d (.bool false)):=lD
def setD_get {l:List UInt8} {c:UInt8} {d:D}:(setD l).getD c.toNat d=.bool (l.contains c):=by
 have hc:=c.toNat_lt;simp only[setD,AbY,Aha,List.getElem?_range (show c.toNat<256 by omega),Ahd,AgS];rw[List.contains_eq_any_beq];refine congrArg (fun f=>D.bool (l.any f)) ?_;funext b;show (b.toNat == c.toNat)=_
 by_cases h:b=c;·subst h;simp
 have:¬b.toNat=c.toNat:=fun e=>h (UInt8.toNat_inj.1 e);have h':¬c=b:=fun e=>h e.symm;rw[beq_eq_false_iff_ne.2 this];exact (beq_eq_false_iff_ne.2 h').symm
def setB_get {l:List UInt8} {c:UInt8} {d:AV}:(setB l).getD c.toNat d=.d (.bool (l.contains c)):=by have hc:=c.toNat_lt;have:=@setD_get l c .nilp;rw[AbY,Aet gA] at this;rw[setB,AbY,Aha,Aet gA];simp only[AgS] at this;rw[Ahd,AgS,this]
def setB_set {l:List UInt8} {c:UInt8}:(setB l).set c.toNat (.d (.bool true))=setB (l++[c]):=by
 have hc:=c.toNat_lt;apply List.ext_getElem;·rw[Agw,setB_length,setB_length]
 intro i h1 h2;rw[Agw,setB_length] at h1;rw[List.getElem_set];simp only[setB,setD,List.getElem_map,List.getElem_range,List.any_append,List.any_cons,List.any_nil,Ahk];split;·rename_i e;subst e;simp
 rename_i e;have:(c.toNat == i)=false:=jw
 rw[this,Ahk]
def SWeak_map {fl:List (Option Nat)}:∀ l:List D,SW fl (l.map .d) (l.map .d)
 | []=>by simp[SW]
 | x::l=>by simp only[Aew,SW];exact ⟨kP,SWeak_map l⟩
def setB_weak {fl:List (Option Nat)} {l:List UInt8}:SW fl (setB l) (setB l)=True:=eq_true (SWeak_map _)
def mem_getDU {α:Type} {l:List α} {i:Nat} {d:α} (h:i<l.length):l.getD i d∈l:=by rw[AbY,Aet h];exact List.getElem_mem h
def setB_two (l:List UInt8):∃ a b cs,setB l=a::b::cs:=by
 have:=@setB_length l
 match h:setB l with
 | []=>rw[h] at this;cases this
 | [_]=>rw[h] at this;cases this
 | a::b::cs=>exact ⟨a,b,cs,rfl⟩
def setB_one {l:List UInt8}:(setB l).all AV.one=true:=by simp[setB,setD,AV.one,D.one]
def setB_seal {H:List Ae} {l:List UInt8}:sealL H (setB l)=some (setD l):=by
 have:∀ m:List D,sealL H (m.map .d)=some m:=fun m=>by
  induction m with
  | nil=>rfl
  | cons x m ih=>simp only[Aew,sealL,sealA,ih]
 exact this _
def setB_refs {l:List UInt8}:refsL (setB l)=[]:=by
 have:∀ m:List D,refsL (m.map .d)=[]:=fun m=>by
  induction m with
  | nil=>rfl
  | cons x m ih=>simp only[Aew,refsL,Fx,ih,Agy]
 exact this _
def setB_pass {H:List Ae} {L:List Nat} {l:List UInt8}:passL H L (setB l)=some (setB l):=by
 have:∀ m:List D,passL H L (m.map .d)=some (m.map .d):=fun m=>by
  induction m with
  | nil=>rfl
  | cons x m ih=>simp only[Aew,passL,passA,ih]
 exact this _
def setB_sids {H:List Ae} {L:List Nat} {l:List UInt8}:sidsL H L (setB l)=[]:=by
 have:∀ m:List D,sidsL H L (m.map .d)=[]:=fun m=>by
  induction m with
  | nil=>rfl
  | cons x m ih=>simp only[Aew,sidsL,sidsA,ih,Agy]
 exact this _
def setB_ren {f:Nat->Nat} {l:List UInt8}:renL f (setB l)=setB l:=by
 have:∀ m:List D,renL f (m.map .d)=m.map .d:=fun m=>by
  induction m with
  | nil=>rfl
  | cons x m ih=>simp only[Aew,renL,renA,ih]
 exact this _
def take_succ_getD {s:List UInt8} {i:Nat} (h:i<s.length):s.take i++[s.getD i 0]=s.take (i+1):=by rw[AgP,Aet h,AbY,Aet h];rfl
def contains_spec (l:List UInt8) (c:UInt8):Ctr TP G 116 [.ptr 0 0,.d (.int .u8 c.toNat)] [.box (setB l)] (.d (.bool (l.contains c))) [.box (setB l)]:=by have hc:=c.toNat_lt;have hl:=@setB_length l;refine Ctr.body (M:=M0) Ak Tryz.func116 rfl Adu ?_;simp(disch:=try exact aa)only[hl,setB_get,Tryz.f116,↓Ab,Ad,↓reduceIte,Qu,Qv];exact m7
def makeSet_spec (l:List UInt8) (hl:l.length<2^62) (ha:∀ b∈l,b.toNat<128):Ctr TP G 85 [.d (S l)] [] (.d (.tup [.agg (setD l),.bool true])) []:=by
 refine Ctr.pure (M:=M0) Ak Tryz.func85 rfl go85 ?_;simp only[Tryz.f85,↓Ab,Ad,↓reduceIte,Qv];refine Al.fr 5 (α:=Nat) (fun i=>l.length-i) (fun i=>[(4,.d (.int .i64 i))]) (fun i=>[.box (setB (l.take i))]) (fun i=>i<=l.length) 0 (AfZ _) ?_ ?_;·refine ⟨[some 0],rfl,lC,gV,?_⟩;rw[AgA,setB_nil];simp only[HW,BW,Aeq];refine ⟨SWeak_map (Aeu 256 (.bool false)),trivial⟩
 intro i hi;have sl:=@setB_length (l.take i);simp only[Bm,AbZ,Aeg];rcases Aen i l.length with h1 | h1
 ·have hb:=ha _ (mem_getDU (d:=0) h1);have hs:=take_succ_getD h1;simp(disch:=try exact aa)only[Af,sl,↓Ab,Ad,↓reduceIte];exact ⟨i+1,h1,iz,[some 0],rfl,lC,jR,by simp only[HW,BW,Aeq];rw[setB_set,hs];exact ⟨by rw[setB_weak];trivial,trivial⟩⟩
 have sl:=@setB_length l;have tk:(setB l).take 256=setB l:=Aex lA;obtain ⟨a,b,cs,e⟩:=setB_two l;have lc:cs.length=254:=by rw[e] at sl;simpa using sl
 have tc:cs.take 254=cs:=Aex lA;have dc:cs.drop cs.length=[]:=AgI;simp(disch:=try exact aa)only[Af,sl,tk,↓Ab,Ad,↓reduceIte,↓Qe];refine ⟨setB_one,?_⟩;have pm:C2 (setB l) 0 (setB l)=setB l:=by rw[e];simp only[C2,C2,AgA,Aes,Ahb,Agv,List.drop_succ_cons,dc,Agy]
 first
 | rw[pm,sl,tk]
 | (simp only[C2,C2,AgA,Aes,Ahb] at pm;rw[pm,sl,tk])
 simp only[Af7,if_true];rfl
def trimL (l s:List UInt8):List UInt8:=s.dropWhile l.contains
def trimR (l s:List UInt8):List UInt8:=(s.reverse.dropWhile l.contains).reverse
def Wu {s:List UInt8} {k:Nat} (h:k<s.length):s.drop k=s.getD k 0::s.drop (k+1):=by rw[List.drop_eq_getElem_cons h,AbY,Aet h];rfl
def Y8 {s:List UInt8} {k:Nat}:(s.drop k).getD 0 0=s.getD k 0:=by simp[AbY]
def take_snoc {s:List UInt8} {k:Nat} (h:k<s.length):s.take (k+1)=s.take k++[s.getD k 0]:=(take_succ_getD h).symm
def trimR_snoc {l s:List UInt8} {c:UInt8}:trimR l (s++[c])=if l.contains c then trimR l s else s++[c]:=by simp only[trimR,List.reverse_append,List.reverse_cons,List.reverse_nil,Aes,List.singleton_append,AgC];split<;>simp
def LN (l s:List UInt8) (hs:s.length<=9223372036854775807):Ctr TP G 86 [.d (S s),.ptr 0 0] [.box (setB l)] (.d (S (trimL l s))) [.box (setB l)]:=by
 refine Ctr.body (M:=M0) Ak Tryz.func86 rfl go86 ?_;simp only[Tryz.f86,↓Ab,Ad,Qu,Qv];refine Al.fr 2 (α:=Nat) (fun k=>s.length-k) (fun k=>[(0,.d (S (s.drop k)))]) (fun _=>[.box (setB l)]) (fun k=>k<=s.length/\trimL l (s.drop k)=trimL l s) 0 ⟨AfZ _,by rw[AgY]⟩ ?_ ?_;·exact ⟨[some 0],rfl,lC,gV,gB⟩
 rintro k ⟨hk,ht⟩;simp only[Bm,AbZ,Aeg];rcases Aen k s.length with h1 | h1
 ·have hd:=Wu h1;simp(disch:=try exact aa)only[Af,setB_refs,setB_pass,setB_sids,Y8,↓Ab,Ad,↓reduceIte];refine Aa.by (contains_spec l (s.getD k 0)) lD lD (Af7 _) ?_;cases hc:l.contains (s.getD k 0);·simp(disch:=try exact aa)only[setB_ren,↓Ab,Ad,↓reduceIte];rw[<-ht,trimL,hd,AgC,hc];exact m7
  simp(disch:=try exact aa)only[Af,setB_ren,↓Ab,Ad,↓reduceIte,QF];exact ⟨k+1,⟨h1,by rw[<-ht,trimL,trimL,hd,AgC,hc];rfl⟩,iz,[some 0],rfl,lC,jR,gB⟩
 simp(disch:=try exact aa)only[Af,↓Ab,Ad];have:s.drop k=[]:=AgV h1;rw[<-ht,this];exact ⟨[some 0],rfl,lC,gB,.inl (by simp[AW,trimL])⟩
def Tr (l s:List UInt8) (hs:s.length<=9223372036854775807):Ctr TP G 87 [.d (S s),.ptr 0 0] [.box (setB l)] (.d (S (trimR l s))) [.box (setB l)]:=by
 refine Ctr.body (M:=M0) Ak Tryz.func87 rfl go87 ?_;simp only[Tryz.f87,↓Ab,Ad,Qu,Qv];refine Al.fr 2 (α:=Nat) (fun k=>k) (fun k=>[(0,.d (S (s.take k)))]) (fun _=>[.box (setB l)]) (fun k=>k<=s.length/\trimR l (s.take k)=trimR l s) s.length ⟨Af7 _,by rw[Aev]⟩ ?_ ?_;·exact ⟨[some 0],rfl,lC,gV,gB⟩
 rintro k ⟨hk,ht⟩;have lk:(s.take k).length=k:=jv
 simp only[Bm,AbZ,Aeg];rcases k with _ | k
 ·rw[AgA] at *;simp(disch:=try exact aa)only[Af,↓Ab,Ad];rw[<-ht];exact ⟨[some 0],rfl,lC,gB,.inl (by simp[AW,trimR])⟩
 have hd:=take_snoc (show k<s.length by omega);have hg:(s.take (k+1)).getD k 0=s.getD k 0:=cT
 have hx:(s.take (k+1)).take k=s.take k:=by rw[Ahg];congr 1;omega
 simp(disch:=try exact aa)only[Af,setB_refs,setB_pass,setB_sids,lk,hg,↓Ab,Ad,↓reduceIte];refine Aa.by (contains_spec l (s.getD k 0)) lD lD (Af7 _) ?_;cases hc:l.contains (s.getD k 0);·simp(disch:=try exact aa)only[setB_ren,↓Ab,Ad,↓reduceIte];rw[<-ht,hd,trimR_snoc,hc];exact m7
 simp(disch:=try exact aa)only[Af,setB_ren,lk,hx,↓Ab,Ad,↓reduceIte];exact ⟨k,⟨lA,by rw[<-ht,hd,trimR_snoc,hc];rfl⟩,iz,[some 0],rfl,lC,jR,gB⟩
def setB_fold {l:List UInt8}:(setD l).map AV.d=setB l:=rfl
def setB_putL {L:List AV} {l:List UInt8} (h:L.length=256):C2 L 0 ((setD l).map AV.d)=setB l:=by rw[setB_fold];obtain ⟨a,b,cs,e⟩:=setB_two l;have q:=@setB_length l;rw[e] at q ⊢;have hd:L.drop (0+(a::b::cs).length)=[]:=AgV lA;simp only[C2,hd,AgA,Aes,Agy]
abbrev fb4 (l:List AV):List AV:=.d (.bool false)::.d (.bool false)::.d (.bool false)::.d (.bool false)::l
abbrev fb16 (l:List AV):List AV:=fb4 (fb4 (fb4 (fb4 l)))
abbrev fb64 (l:List AV):List AV:=fb16 (fb16 (fb16 (fb16 l)))
def setB_putL' {l:List UInt8}:C2 (fb64 (fb64 (fb64 (fb64 [])))) 0 (setB l)=setB l:=setB_putL rfl
def trim_spec (s l:List UInt8) (hs:s.length<=9223372036854775807) (hl:l.length<2^62) (h2:2<=l.length) (ha:∀ b∈l,b.toNat<128):Ctr TP G 48 [.d (S s),.d (S l)] [] (.d (S (trimL l (trimR l s)))) []:=by
 refine Ctr.pure (M:=M0) Ak Tryz.func48 rfl go48 ?_;have q:=@setB_length l;have tr:(trimR l s).length<=s.length:=by simp only[trimR,List.length_reverse];exact Ag9 (List.dropWhile_sublist _).length_le lC
 simp(disch:=try exact aa)only[Af,Tryz.f48,↓Ab,Ad,↓reduceIte,↓Qe,Qu,Qv];refine ⟨fun h=>⟨fun h3=>?_,fun h3=>?_⟩,fun h=>?_⟩;·subst h3;simp at h2
 ·refine Aa.pure (makeSet_spec l hl ha) ?_;have tk:(setD l).take 256=setD l:=Aex gA;simp(disch:=try exact aa)only[↓ setB_putL',setB_putL',setB_fold,q,setB_refs,setB_pass,setB_sids,↓Ab,Ad,↓reduceIte,Qu];refine ⟨setB_one,?_⟩;refine Aa.by (Tr l s hs) lD lD (Af7 _) ?_;simp(disch:=try exact aa)only[setB_refs,setB_pass,setB_sids,setB_ren,↓Ab,Ad,↓reduceIte];refine Aa.by (LN l (trimR l s) lA) lD lD (Af7 _) ?_;exact o9
 subst h;rfl
def Gj {l:List UInt8} {p:UInt8->Bool}:l.dropWhile p=[]↔l.all p=true:=by
 induction l with
 | nil=>simp
 | cons b l ih =>rw[AgC,List.all_cons];cases h:p b<;>simp[ih]
def Tp {l s:List UInt8}:trimL l (trimR l s)=[]↔s.all l.contains=true:=by
 rw[trimL,Gj,trimR];rw[AgT];constructor
 ·intro h;by_cases e:s.reverse.dropWhile l.contains=[];·have:=Gj.1 e;rwa[AgT] at this
  exfalso;have h1:=List.head_dropWhile_not l.contains e;have h2:=AgJ.1 h _ (List.head_mem e);rw[h1] at h2;cases h2
 intro h;have:s.reverse.dropWhile l.contains=[]:=Gj.2 (by rwa[AgT]);rw[this];rfl
abbrev Iu:List UInt8:=[48,49,50,51,52,53,54,55,56,57]
def digB (s:List UInt8) (m:Int):Bool:=decide (1<=s.length/\(s.length:Int)<=m) && s.all Iu.contains
def F4 (s:List UInt8) (m:Int) (hs:s.length<=9223372036854775807):Ctr TP G 134 [.d (S s),.d (.int .i64 m)] [] (.d (.bool (digB s m))) []:=by
 refine Ctr.pure (M:=M0) Ak Tryz.func134 rfl Afw ?_;simp(disch:=try exact aa)only[Af,Tryz.f134,↓Ab,Ad,↓reduceIte,↓Qe,Qu,Qv];refine ⟨fun h1=>⟨fun h2=>?_,fun h2=>?_⟩,fun h1=>?_⟩
 ·refine Aa.pure (trim_spec s Iu hs lz lz lz) ?_;simp only[Af,↓Ab,Ad,↓reduceIte,↓Qe];rw[digB,decide_eq_true (show 1<=s.length/\(s.length:Int)<=m by omega),Ag3];cases h:s.all Iu.contains;·rw[decide_eq_false fun e=>by rw[Tp,h] at e;cases e]
  rw[decide_eq_true (Tp.2 h)]
 ·rw[digB,decide_eq_false lA];rfl
 rw[digB,decide_eq_false lA];rfl
def FI (s:List UInt8):Bool:=hasP s [45]
def decBody (s:List UInt8):List UInt8:=if hasP s [45] then s.drop 1 else if hasP s [43] then s.drop 1 else s
def decF (s:List UInt8):List UInt8:=cutL 46 (decBody s)
def decB (s:List UInt8):List UInt8:=cutR 46 (decBody s)
def decOk (s:List UInt8):Bool:=digB (decF s) 15 && (!decide (46∈decBody s) || digB (decB s) 9)
def As (l:List UInt8):Nat:=l.foldl (fun v b=>v*10+(b.toNat-48)) 0
def decVal (s:List UInt8):Rat:=Rat.divInt (if FI s then -(As (decF s++decB s):Int) else (As (decF s++decB s):Int)) ((10^(decB s).length:Nat):Int)
def EP {l:List UInt8} {i:Nat} (h:i<l.length):As (l.take i)*10+((l.getD i 0).toNat-48)=As (l.take (i+1)):=by rw[take_snoc h,As,As,List.foldl_append];rfl
def UQ {c:UInt8}:∀ s:List UInt8,(cutL c s).length<=s.length
 | []=>Af7 _
 | b::l=>by have:=UQ (c:=c) l;rw[cutL];split<;>simp;exact this
def Rd {c:UInt8} {s:List UInt8} (h:c∉s):cutR c s=[]:=((cut_index c s).2 h).2.2
def UO {c:UInt8}:∀ s:List UInt8,(cutR c s).length<=s.length
 | []=>Af7 _
 | b::l=>by have:=UO (c:=c) l;rw[cutR];split<;>simp;omega
def dig_range {b:UInt8} (h:Iu.contains b=true):48<=b.toNat/\b.toNat<=57:=by
 have:b∈Iu:=ji
 simp only[Iu,AgK,AgR,or_false] at this;rcases this with rfl | rfl | rfl | rfl | rfl | rfl | rfl | rfl | rfl | rfl<;>decide
def C1 {l:List UInt8} (h:∀ b∈l,Iu.contains b=true):As l<10^l.length:=by
 have key:∀ (l:List UInt8) (v:Nat),(∀ b∈l,Iu.contains b=true)->l.foldl (fun v b=>v*10+(b.toNat-48)) v<(v+1)*10^l.length:=by
  intro l;induction l with
  | nil=>intro v _;simp
  | cons b l ih =>intro v hl;have hb:=dig_range (hl b (Ag6 ..));have:=ih (v*10+(b.toNat-48)) (fun c hc=>hl c (AgZ _ hc));rw[List.foldl_cons,Agv,AgM];refine Af2 this ?_;rw[Nat.mul_comm (10^l.length) 10,<-Nat.mul_assoc];exact Nat.mul_le_mul_right _ lA
 have:=key l 0 h;rw[Ahb,Ahp] at this;exact this
def cells_nums {l:List UInt8}:(l.map fun b=>D.int .u8 (b.toNat:Int))=Ar .u8 (AB l):=jQ
def EO {s:List UInt8} (h:decOk s=true):(∀ b∈decF s++decB s,Iu.contains b=true)/\(decF s++decB s).length<=24/\(decB s).length<=9:=by
 unfold decOk at h;rw[Agx,Bool.or_eq_true] at h;obtain ⟨h1,h2⟩:=h;unfold digB at h1;rw[Agx,decide_eq_true_eq] at h1;have hb:(decB s).length<=9/\∀ b∈decB s,Iu.contains b=true:=by
  rcases h2 with h2 | h2
  ·have e:decB s=[]:=Rd iS;rw[e];exact ⟨lC,fun b hb=>kU⟩
  unfold digB at h2;rw[Agx,decide_eq_true_eq] at h2;exact ⟨lA,fun b hb=>AgJ.1 h2.2 b hb⟩
 refine ⟨fun b hb'=>?_,by rw[Agq];omega,hb.1⟩;rcases AgW.1 hb' with h | h
 ·exact AgJ.1 h1.2 b h
 exact hb.2 b h
def Dw:toW 10=[10]:=by rw[E9 lz,show 10 / B=0 from rfl,A5];rfl
def Bz {n k:Nat} (h:n<10^k):(toW n).length<=k:=Cy (Af2 h (Nat.pow_le_pow_left lz _))
def XO (c:UInt8):∀ s:List UInt8,(cutL c s).length+(cutR c s).length<=s.length
 | []=>by simp[cutL,cutR]
 | b::l=>by
   have ih:=XO c l;rw[cutL,cutR];by_cases e:b=c;·rw[if_pos e,if_pos e,Agv,AgL];omega
   rw[if_neg e,if_neg e,Agv,Agv];omega
def decimalF_spec (hG:HG G) (s:List UInt8) (hs:s.length<=9223372036854775807):Ctr TP G 102 [.d (S s)] [] (.d (.tup [if decOk s=true then Frac (decVal s) else Zf,.bool (decOk s)])) []:=by
 have hG':=hG;unfold HG at hG;refine Ctr.pure (M:=M0) Ak Tryz.func102 rfl AfW ?_;simp only[Tryz.f102,↓Ab,Ad,↓reduceIte,Qv];refine Aa.pure (cutPrefix_spec s [45]) ?_;have hbody:(decBody s).length<=s.length:=by
  unfold decBody;split;·simp
  split<;>simp
 have lsum:=XO 46 (decBody s);have l1:=UQ (c:=46) (decBody s);have l2:=UO (c:=46) (decBody s);have hno:decide (46∈decBody s)=false->decB s=[]:=fun h=>Rd (of_decide_eq_false h);have hok:decOk s=(digB (decF s) 15 && (!decide (46∈decBody s) || digB (decB s) 9)):=rfl;have hdv:decVal s=Rat.divInt (if FI s then -(As (decF s++decB s):Int) else (As (decF s++decB s):Int)) ((10^(decB s).length:Nat):Int):=rfl;have f1:cutL 46 (decBody s)=decF s:=rfl;have f2:cutR 46 (decBody s)=decB s:=rfl;rw[f1] at l1;rw[f2] at l2;rw[f1,f2] at lsum;cases h45:hasP s [45]
 ·simp(disch:=try exact aa)only[↓Ab,Ad,↓reduceIte,Qu];refine Aa.pure (Mn s [43]) ?_;have eb:(if hasP s [43] then s.drop ([43]:List UInt8).length else s)=decBody s:=by rw[decBody,h45];rfl
  have en:FI s=false:=h45;rw[eb];rw[en] at hdv;simp only[↓Ab,Ad,↓reduceIte];refine Aa.pure (cut_spec (decBody s) 46 lA) ?_;rw[f1,f2];simp(disch:=try exact aa)only[↓Ab,Ad,↓reduceIte,Qu];refine Aa.pure (F4 (decF s) 15 lA) ?_;cases d1:digB (decF s) 15;·rw[hok,d1,Ahh];simp(disch:=try exact aa)only[↓Ab,Ad,↓reduceIte,↓Qe,Qu];first | done | rfl
  rw[d1,Ag3] at hok;cases dp:decide (46∈decBody s)
  ·rw[dp,Ahi,Aho] at hok;obtain ⟨hall,hlen,hlb⟩:=EO hok;have hsm:∀ i,i<=(decF s++decB s).length->(toW (As ((decF s++decB s).take i))).length<=30:=fun i hi=>by
    have h:=C1 (l:=(decF s++decB s).take i) fun b hb=>hall b (Aga hb);exact Bz (Af2 h (Agb lz jv))
   have hlt:∀ i,i<=(decF s++decB s).length->As ((decF s++decB s).take i)*10<10^30:=fun i hi=>ae
   rw[if_pos hok,hok];generalize hL:decF s++decB s=L at *;simp(disch:=try exact aa)only[hG,↓Ab,Ad,↓reduceIte,Qu];refine Aa.of (FK [1] lz) lD ?_;simp(disch:=try exact aa)only[Af,hL,cells_nums,↓Ab,Ad,↓reduceIte,Qu];refine Al.fr 422212465069220 (α:=Nat) (fun i=>L.length-i) (fun i=>[(9,.d (W (toW (As (L.take i))))),(49,.d (.int .i64 i))])
    (fun _=>[.box [.d (.bool false),.d (.sl 0 true []),.d (.bool false),.d (.sl 0 true [])],.row true (AR .u32 [10]),.row false (Ar .u8 (AB L))]) (fun i=>i<=L.length) 0 (AfZ _) ?_ ?_
   ·exact mq
   intro i hi;have lt:=hsm i hi;have nl:=@Bh L;simp only[Bm,AbZ,Aeg];rcases Aen i L.length with h1 | h1
   ·have hb:=dig_range (hall _ (mem_getDU (d:=0) h1));have hp:=EP h1;have ls:=Bz (n:=(L.getD i 0).toNat-48) (k:=2) lA;have e48:((L.getD i 0).toNat:Int)-48=(((L.getD i 0).toNat-48:Nat):Int):=lA
    have lm:(toW (As (L.take i)*10)).length<=40:=Bz (Af2 (hlt i hi) lz);exact nK
   obtain rfl:i=L.length:=lA
   rw[Aev] at *;simp(disch:=try exact aa)only[Af,↓Ab,Ad,Qu];refine Al.fr 9223372036854777380 (α:=Nat) (fun j=>(decB s).length-j) (fun j=>[(11,.d (W (toW (10^j)))),(64,.d (.int .i64 j))])
    (fun _=>[.box [.d (.bool false),.d (.sl 0 true []),.d (.bool false),.d (.sl 0 true [])],.row true (AR .u32 [10]),.row false (Ar .u8 (AB L))]) (fun j=>j<=(decB s).length) 0 (AfZ _) ?_ ?_
   ·exact mz
   intro j hj;have lj:(toW (10^j)).length<=10:=Bz (AgB lz lA);simp only[Bm,AbZ,Aeg];rcases Aen j (decB s).length with h2 | h2
   ·exact nR
   obtain rfl:j=(decB s).length:=lA
   have hd0:((10^(decB s).length:Nat):Int)≠0:=bK;simp(disch:=try exact aa)only[↓Ab,Ad,↓reduceIte,Qu];exact nM
  rw[dp,Ahl,Ahm] at hok;simp only[↓Ab,Ad,↓reduceIte];refine Aa.pure (F4 (decB s) 9 lA) ?_;cases d2:digB (decB s) 9;·rw[hok,d2];simp(disch:=try exact aa)only[↓Ab,Ad,↓reduceIte,↓Qe,Qu];first | done | rfl
  rw[d2] at hok;obtain ⟨hall,hlen,hlb⟩:=EO hok;have hsm:∀ i,i<=(decF s++decB s).length->(toW (As ((decF s++decB s).take i))).length<=30:=fun i hi=>am
  have hlt:∀ i,i<=(decF s++decB s).length->As ((decF s++decB s).take i)*10<10^30:=fun i hi=>ae
  rw[if_pos hok,hok];generalize hL:decF s++decB s=L at *;simp(disch:=try exact aa)only[hG,↓Ab,Ad,↓reduceIte,Qu];refine Aa.of (FK [1] lz) lD ?_;simp(disch:=try exact aa)only[Af,hL,cells_nums,↓Ab,Ad,↓reduceIte,Qu];refine Al.fr 422212465069220 (α:=Nat) (fun i=>L.length-i) (fun i=>[(9,.d (W (toW (As (L.take i))))),(49,.d (.int .i64 i))])
   (fun _=>[.box [.d (.bool false),.d (.sl 0 true []),.d (.bool false),.d (.sl 0 true [])],.row true (AR .u32 [10]),.row false (Ar .u8 (AB L))]) (fun i=>i<=L.length) 0 (AfZ _) ?_ ?_
  ·exact mq
  intro i hi;have lt:=hsm i hi;have nl:=@Bh L;simp only[Bm,AbZ,Aeg];rcases Aen i L.length with h1 | h1
  ·have hb:=dig_range (hall _ (mem_getDU (d:=0) h1));have hp:=EP h1;have ls:=Bz (n:=(L.getD i 0).toNat-48) (k:=2) lA;have e48:((L.getD i 0).toNat:Int)-48=(((L.getD i 0).toNat-48:Nat):Int):=lA
   have lm:(toW (As (L.take i)*10)).length<=40:=Bz (Af2 (hlt i hi) lz);exact nK
  obtain rfl:i=L.length:=lA
  rw[Aev] at *;simp(disch:=try exact aa)only[Af,↓Ab,Ad,Qu];refine Al.fr 9223372036854777380 (α:=Nat) (fun j=>(decB s).length-j) (fun j=>[(11,.d (W (toW (10^j)))),(64,.d (.int .i64 j))])
   (fun _=>[.box [.d (.bool false),.d (.sl 0 true []),.d (.bool false),.d (.sl 0 true [])],.row true (AR .u32 [10]),.row false (Ar .u8 (AB L))]) (fun j=>j<=(decB s).length) 0 (AfZ _) ?_ ?_
  ·exact mz
  intro j hj;have lj:(toW (10^j)).length<=10:=Bz (AgB lz lA);simp only[Bm,AbZ,Aeg];rcases Aen j (decB s).length with h2 | h2
  ·exact nR
  obtain rfl:j=(decB s).length:=lA
  have hd0:((10^(decB s).length:Nat):Int)≠0:=bK
  simp(disch:=try exact aa)only[↓Ab,Ad,↓reduceIte,Qu];exact nM
 have eb:s.drop 1=decBody s:=by rw[decBody,h45];rfl
 have en:FI s=true:=h45;rw[en] at hdv;simp(disch:=try exact aa)only[eb,↓Ab,Ad,↓reduceIte,Qu];refine Aa.pure (cut_spec (decBody s) 46 lA) ?_;rw[f1,f2];simp(disch:=try exact aa)only[↓Ab,Ad,↓reduceIte,Qu];refine Aa.pure (F4 (decF s) 15 lA) ?_;cases d1:digB (decF s) 15;·rw[hok,d1,Ahh];simp(disch:=try exact aa)only[↓Ab,Ad,↓reduceIte,↓Qe,Qu];first | done | rfl
 rw[d1,Ag3] at hok;cases dp:decide (46∈decBody s)
 ·rw[dp,Ahi,Aho] at hok;obtain ⟨hall,hlen,hlb⟩:=EO hok;have hsm:∀ i,i<=(decF s++decB s).length->(toW (As ((decF s++decB s).take i))).length<=30:=fun i hi=>by
   have h:=C1 (l:=(decF s++decB s).take i) fun b hb=>hall b (Aga hb);exact Bz (Af2 h (Agb lz jv))
  have hlt:∀ i,i<=(decF s++decB s).length->As ((decF s++decB s).take i)*10<10^30:=fun i hi=>ae
  rw[if_pos hok,hok];generalize hL:decF s++decB s=L at *;simp(disch:=try exact aa)only[hG,↓Ab,Ad,↓reduceIte,Qu];refine Aa.of (FK [1] lz) lD ?_;simp(disch:=try exact aa)only[Af,hL,cells_nums,↓Ab,Ad,↓reduceIte,Qu];refine Al.fr 422212465069220 (α:=Nat) (fun i=>L.length-i) (fun i=>[(9,.d (W (toW (As (L.take i))))),(49,.d (.int .i64 i))])
   (fun _=>[.box [.d (.bool false),.d (.sl 0 true []),.d (.bool false),.d (.sl 0 true [])],.row true (AR .u32 [10]),.row false (Ar .u8 (AB L))]) (fun i=>i<=L.length) 0 (AfZ _) ?_ ?_
  ·exact mq
  intro i hi;have lt:=hsm i hi;have nl:=@Bh L;simp only[Bm,AbZ,Aeg];rcases Aen i L.length with h1 | h1
  ·have hb:=dig_range (hall _ (mem_getDU (d:=0) h1));have hp:=EP h1;have ls:=Bz (n:=(L.getD i 0).toNat-48) (k:=2) lA;have e48:((L.getD i 0).toNat:Int)-48=(((L.getD i 0).toNat-48:Nat):Int):=lA
   have lm:(toW (As (L.take i)*10)).length<=40:=Bz (Af2 (hlt i hi) lz);exact nK
  obtain rfl:i=L.length:=lA
  rw[Aev] at *;simp(disch:=try exact aa)only[Af,↓Ab,Ad,Qu];refine Al.fr 9223372036854777380 (α:=Nat) (fun j=>(decB s).length-j) (fun j=>[(11,.d (W (toW (10^j)))),(64,.d (.int .i64 j))])
   (fun _=>[.box [.d (.bool false),.d (.sl 0 true []),.d (.bool false),.d (.sl 0 true [])],.row true (AR .u32 [10]),.row false (Ar .u8 (AB L))]) (fun j=>j<=(decB s).length) 0 (AfZ _) ?_ ?_
  ·exact mz
  intro j hj;have lj:(toW (10^j)).length<=10:=Bz (AgB lz lA);simp only[Bm,AbZ,Aeg];rcases Aen j (decB s).length with h2 | h2
  ·exact nR
  obtain rfl:j=(decB s).length:=lA
  have hd0:((10^(decB s).length:Nat):Int)≠0:=bK
  simp(disch:=try exact aa)only[↓Ab,Ad,↓reduceIte,Qu];exact nN
 rw[dp,Ahl,Ahm] at hok;simp only[↓Ab,Ad,↓reduceIte];refine Aa.pure (F4 (decB s) 9 lA) ?_;cases d2:digB (decB s) 9;·rw[hok,d2];simp(disch:=try exact aa)only[↓Ab,Ad,↓reduceIte,↓Qe,Qu];first | done | rfl
 rw[d2] at hok;obtain ⟨hall,hlen,hlb⟩:=EO hok;have hsm:∀ i,i<=(decF s++decB s).length->(toW (As ((decF s++decB s).take i))).length<=30:=fun i hi=>am
 have hlt:∀ i,i<=(decF s++decB s).length->As ((decF s++decB s).take i)*10<10^30:=fun i hi=>ae
 rw[if_pos hok,hok];generalize hL:decF s++decB s=L at *;simp(disch:=try exact aa)only[hG,↓Ab,Ad,↓reduceIte,Qu];refine Aa.of (FK [1] lz) lD ?_;simp(disch:=try exact aa)only[Af,hL,cells_nums,↓Ab,Ad,↓reduceIte,Qu];refine Al.fr 422212465069220 (α:=Nat) (fun i=>L.length-i) (fun i=>[(9,.d (W (toW (As (L.take i))))),(49,.d (.int .i64 i))])
  (fun _=>[.box [.d (.bool false),.d (.sl 0 true []),.d (.bool false),.d (.sl 0 true [])],.row true (AR .u32 [10]),.row false (Ar .u8 (AB L))]) (fun i=>i<=L.length) 0 (AfZ _) ?_ ?_
 ·exact mq
 intro i hi;have lt:=hsm i hi;have nl:=@Bh L;simp only[Bm,AbZ,Aeg];rcases Aen i L.length with h1 | h1
 ·have hb:=dig_range (hall _ (mem_getDU (d:=0) h1));have hp:=EP h1;have ls:=Bz (n:=(L.getD i 0).toNat-48) (k:=2) lA;have e48:((L.getD i 0).toNat:Int)-48=(((L.getD i 0).toNat-48:Nat):Int):=by omega
  have lm:(toW (As (L.take i)*10)).length<=40:=Bz (Af2 (hlt i hi) lz);exact nK
 obtain rfl:i=L.length:=lA
 rw[Aev] at *;simp(disch:=try exact aa)only[Af,↓Ab,Ad,Qu];refine Al.fr 9223372036854777380 (α:=Nat) (fun j=>(decB s).length-j) (fun j=>[(11,.d (W (toW (10^j)))),(64,.d (.int .i64 j))])
  (fun _=>[.box [.d (.bool false),.d (.sl 0 true []),.d (.bool false),.d (.sl 0 true [])],.row true (AR .u32 [10]),.row false (Ar .u8 (AB L))]) (fun j=>j<=(decB s).length) 0 (AfZ _) ?_ ?_
 ·exact mz
 intro j hj;have lj:(toW (10^j)).length<=10:=Bz (AgB lz lA);simp only[Bm,AbZ,Aeg];rcases Aen j (decB s).length with h2 | h2
 ·exact nR
 obtain rfl:j=(decB s).length:=lA
 have hd0:((10^(decB s).length:Nat):Int)≠0:=bK
 simp(disch:=try exact aa)only[↓Ab,Ad,↓reduceIte,Qu];exact nN
def isD (c:UInt8):Prop:=48<=c.toNat/\c.toNat<=57
def isD_iff {c:UInt8}:Iu.contains c=true↔isD c:=by
 constructor;·exact dig_range
 intro h;have hc:c=UInt8.ofNat c.toNat:=lC
 rw[hc];obtain ⟨h1,h2⟩:=h;generalize c.toNat=n at *;rcases (by omega:n=48\/n=49\/n=50\/n=51\/n=52\/n=53\/n=54\/n=55\/n=56\/n=57) with rfl | rfl | rfl | rfl | rfl | rfl | rfl | rfl | rfl | rfl<;>rfl
def digB_iff {l:List UInt8} {m:Int}:digB l m=true↔1<=l.length/\(l.length:Int)<=m/\∀ c∈l,isD c:=by
 unfold digB;rw[Agx,decide_eq_true_eq,AgJ,and_assoc];constructor;·rintro ⟨h1,h2,h3⟩;exact ⟨h1,h2,fun c hc=>isD_iff.1 (h3 c hc)⟩
 rintro ⟨h1,h2,h3⟩;exact ⟨h1,h2,fun c hc=>isD_iff.2 (h3 c hc)⟩
def LA {c:UInt8}:∀ {b:List UInt8} {k:Nat},(∀ d∈b.take k,d≠c)->k<b.length->b.getD k 0=c->c∈b/\cutL c b=b.take k/\cutR c b=b.drop (k+1)
 | [],k,_,h,_=>lx
 | d::l,0,_,_,e=>by
   obtain rfl:d=c:=jw
   simp[cutL,cutR]
 | d::l,k+1,h,hk,e=>by have hd:d≠c:=h d lC;obtain ⟨h1,h2,h3⟩:=LA (b:=l) (k:=k) (fun x hx=>h x kI) iP jw;simp[cutL,cutR,hd,h1,h2,h3]
def G5 {c:UInt8} (h:isD c):c≠46:=fun e=>by subst e;obtain ⟨h1,_⟩:=h;exact absurd h1 lz
def cut_all:∀ {b:List UInt8},(∀ d∈b,isD d)->(46:UInt8)∉b/\cutL 46 b=b/\cutR 46 b=[]
 | b,h=>by have hm:(46:UInt8)∉b:=fun hm=>G5 (h _ hm) rfl;exact ⟨hm,((cut_index 46 b).2 hm).2⟩
def SL:∀ {b:List UInt8} {k:Nat},(∀ d∈b.take k,isD d)->k<b.length->¬isD (b.getD k 0)->b.getD k 0≠46->∃ c∈cutL 46 b,¬isD c
 | [],k,_,h,_,_=>lx
 | d::l,0,_,_,e,e2=>by have e2:d≠46:=iH;exact ⟨d,by simp[cutL,e2],jw⟩
 | d::l,k+1,h,hk,e,e2=>by have hd:d≠46:=G5 (h d lC);obtain ⟨c,h1,h2⟩:=SL (b:=l) (k:=k) (fun x hx=>h x kI) iP jw iH;exact ⟨c,by simp[cutL,hd,h1],h2⟩
def okB (b:List UInt8):Bool:=digB (cutL 46 b) 15 && (!decide (46∈b) || digB (cutR 46 b) 9)
def NU {b:List UInt8} {k:Nat} (hk:k<=b.length) (h1:∀ c∈b.take k,isD c) (h2:k<b.length->¬isD (b.getD k 0)) (h:k<1\/15<k):okB b=false:=by
 cases e:okB b with
 | false=>rfl
 | true =>
  exfalso;unfold okB at e;rw[Agx] at e;obtain ⟨q1,q2,q3⟩:=digB_iff.1 e.1;rcases Aen k b.length with hl | hl
  ·by_cases h46:b.getD k 0=46;·obtain ⟨_,e1,_⟩:=LA (c:=46) (fun d hd=>G5 (h1 d hd)) hl h46;rw[e1,Aer] at q1 q2;omega
   obtain ⟨c,c1,c2⟩:=SL h1 hl (h2 hl) h46;exact c2 (q3 c c1)
  obtain rfl:k=b.length:=lA
  rw[Aev] at h1;obtain ⟨_,e1,_⟩:=cut_all h1;rw[e1] at q1 q2;omega
def NS {b:List UInt8} (h1:∀ c∈b,isD c) (h3:1<=b.length) (h4:b.length<=15):okB b=true/\cutL 46 b=b/\cutR 46 b=[]:=by obtain ⟨e1,e2,e3⟩:=cut_all h1;refine ⟨?_,e2,e3⟩;unfold okB;rw[e2,digB_iff.2 ⟨h3,lA,h1⟩,decide_eq_false e1];rfl
def VZ {b:List UInt8} {k:Nat} (h1:∀ c∈b.take k,isD c) (hl:k<b.length) (h2:¬isD (b.getD k 0)) (h46:b.getD k 0≠46):okB b=false:=by
 cases e:okB b with
 | false=>rfl
 | true =>unfold okB at e;rw[Agx] at e;obtain ⟨c,c1,c2⟩:=SL h1 hl h2 h46;exact absurd ((digB_iff.1 e.1).2.2 c c1) c2
def NT {b:List UInt8} {k:Nat} (h1:∀ c∈b.take k,isD c) (hl:k<b.length) (h46:b.getD k 0=46) (h3:1<=k) (h4:k<=15) :
  okB b=digB (b.drop (k+1)) 9/\cutL 46 b=b.take k/\cutR 46 b=b.drop (k+1):=by
 obtain ⟨e0,e1,e2⟩:=LA (c:=46) (fun d hd=>G5 (h1 d hd)) hl h46;refine ⟨?_,e1,e2⟩;unfold okB;rw[e1,e2,digB_iff.2 ⟨jv,jv,h1⟩,decide_eq_true e0];simp
def Fi {b:List UInt8} {k:Nat} {p:UInt8->Prop} (h:∀ c∈b.take k,p c) (hk:k<b.length) (hp:p (b.getD k 0)):∀ c∈b.take (k+1),p c:=by
 rw[take_snoc hk];intro c hc;rcases AgW.1 hc with h' | h'
 ·exact h c h'
 simp at h';subst h';simpa using hp
def Bq (neg:Bool) (b:List UInt8):D:=.tup [.bool (okB b && neg),S (if okB b=true then cutL 46 b else []),S (if okB b=true then cutR 46 b else []),.bool (okB b)]
def rparts_spec (s:List UInt8) (hs:s.length<=9223372036854775807):Ctr TP G 107 [.d (S s)] [] (.d (Bq (FI s) (decBody s))) []:=by
 refine Ctr.pure (M:=M0) Ak Tryz.func107 rfl AfR ?_;have hb:(decBody s).length<=s.length:=by
  unfold decBody;split;·simp
  split<;>simp
 have hcase:(s=[]/\decBody s=s/\FI s=false)\/(0<s.length/\(s.getD 0 0).toNat=45/\decBody s=s.drop 1/\FI s=true)\/(0<s.length/\(s.getD 0 0).toNat=43/\decBody s=s.drop 1/\FI s=false)\/(0<s.length/\(s.getD 0 0).toNat≠45/\(s.getD 0 0).toNat≠43/\decBody s=s/\FI s=false):=by
  rcases s with _ | ⟨c,r⟩
  ·exact .inl ⟨rfl,rfl,rfl⟩
  by_cases e1:c=45;·subst e1;exact .inr (.inl ⟨lC,rfl,rfl,rfl⟩)
  by_cases e2:c=43;·subst e2;exact .inr (.inr (.inl ⟨lC,rfl,rfl,rfl⟩))
  have n1:hasP (c::r) [45]=false:=by simp[hasP,e1]
  have n2:hasP (c::r) [43]=false:=by simp[hasP,e2]
  refine .inr (.inr (.inr ⟨lC,fun h=>e1 (UInt8.toNat_inj.1 h),fun h=>e2 (UInt8.toNat_inj.1 h),by simp[decBody,n1,n2],n1⟩))
 rcases hcase with ⟨c1,c2,c3⟩ | ⟨c0,c1,c2,c3⟩ | ⟨c0,c1,c2,c3⟩ | ⟨c0,c1,c1',c2,c3⟩
 ·subst c1;simp(disch:=try exact aa)only[Af,Tryz.f107,↓Ab,Ad,↓reduceIte,Qv];have hb:([]:List UInt8).length<=0:=Af7 _;rw[c2,c3];refine Al.fr 4642343326489650161095016453 (α:=Nat) (fun k=>0-k) (fun k=>[(6,.d (.int .i64 k))]) (fun _=>[]) (fun k=>k=0) 0 rfl ?_ ?_;·exact nD
  rintro k rfl;simp only[Bm,AbZ,Aeg];have e0:okB []=false:=rfl;unfold Bq;rw[e0];exact oM
 ·simp(disch:=try exact aa)only[Af,Tryz.f107,↓Ab,Ad,↓reduceIte,Qv,QF];refine ⟨lD,?_⟩;rw[c2] at hb;generalize hB:Ahq 1 s=b at *;rw[c2,c3];refine Al.fr 4642343326489650161095016453 (α:=Nat) (fun k=>b.length-k) (fun k=>[(6,.d (.int .i64 k))]) (fun _=>[]) (fun k=>k<=b.length/\∀ c∈b.take k,isD c) 0 ⟨AfZ _,lC⟩ ?_ ?_;·exact nD
  rintro k ⟨hk,hd⟩;simp only[Bm,AbZ,Aeg]
  have fin:(k<b.length->¬isD (b.getD k 0))->∀ K:Prop,((k<1\/15<k->okB b=false->K)/\(1<=k->k<=15->k=b.length->okB b=true/\cutL 46 b=b/\cutR 46 b=[]->K)/\(1<=k->k<=15->k<b.length->(b.getD k 0).toNat≠46->okB b=false->K) /\
    (1<=k->k<=15->k<b.length->(b.getD k 0).toNat=46->okB b=digB (b.drop (k+1)) 9->cutL 46 b=b.take k->cutR 46 b=b.drop (k+1)->K))->K:=by
   rintro hn K ⟨k1,k2,k3,k4⟩;by_cases q:k<1\/15<k;·exact k1 q (NU hk hd hn q)
   rcases Aen k b.length with hl | hl
   ·by_cases h46:b.getD k 0=46;·obtain ⟨x1,x2,x3⟩:=NT hd hl h46 lA lA;exact k4 lA lA hl (by rw[h46];rfl) x1 x2 x3
    exact k3 lA lA hl (fun e=>h46 (UInt8.toNat_inj.1 e)) (VZ hd hl (hn hl) h46)
   obtain rfl:k=b.length:=lA
   rw[Aev] at hd;exact qp
  rcases Aen k b.length with hl | hl
  ·by_cases hg:isD (b.getD k 0);·have hg1:=hg.1;have hg2:=hg.2;simp(disch:=try exact aa)only[Af,↓Ab,Ad,↓reduceIte];exact mf
   have hg':(b.getD k 0).toNat<48\/57<(b.getD k 0).toNat:=gr;rcases hg' with hg' | hg'
   ·refine fin (fun _=>hg) _ ⟨fun q1 q2=>?_,fun q1 q2 q3=>lA,fun q1 q2 q3 q4 q5=>?_,fun q1 q2 q3 q4 q5 q6 q7=>?_⟩
    ·rcases q1 with q1 | q1
     ·exact ov
     unfold Bq;exact oF
    ·exact ow
    skip
    have hp3:(b.drop (k+1)).length=b.length-(k+1):=AgU ..;have hlk:(b.take k).length=k:=jv
    unfold Bq;rw[q5,q6,q7];generalize hP:b.drop (k+1)=p at *;by_cases hp1:p.length<1
    ·have e0:digB p 9=false:=by
      cases e:digB p 9 with
      | false=>rfl
      | true=>have:=(digB_iff.1 e).1;omega
     rw[e0];exact oH
    by_cases hp2:9<p.length
    ·have e0:digB p 9=false:=by
      cases e:digB p 9 with
      | false=>rfl
      | true=>have:=(digB_iff.1 e).2.1;omega
     rw[e0];exact oH
    simp(disch:=try exact aa)only[Af,hP,↓Ab,Ad,↓reduceIte];refine Al.fr 0 (α:=Nat) (fun i=>p.length-i) (fun i=>[(2,.d (.bool true)),(3,.d (S (b.take k))),(4,.d (S p)),(7,.d (.int .i64 i))]) (fun _=>[]) (fun i=>i<=p.length/\∀ c∈p.take i,isD c) 0 ⟨AfZ _,lC⟩ ?_ ?_;·exact nD
    rintro i ⟨hi,hdi⟩;simp only[Bm,Aeg];rcases Aen i p.length with hil | hil
    ·by_cases hgi:isD (p.getD i 0);·have hg1:=hgi.1;have hg2:=hgi.2;simp(disch:=try exact aa)only[Af,↓Ab,Ad,↓reduceIte];exact me
     have e0:digB p 9=false:=by
      cases e:digB p 9 with
      | false=>rfl
      | true=>exact absurd ((digB_iff.1 e).2.2 _ (mem_getDU hil)) hgi
     have hg':(p.getD i 0).toNat<48\/57<(p.getD i 0).toNat:=gm;rw[e0];rcases hg' with hg' | hg'
     ·exact oM
     simp(disch:=try exact aa)only[Af,↓Ab,Ad,↓reduceIte,↓Qe];first | done | rfl
    obtain rfl:i=p.length:=lA
    rw[Aev] at hdi;exact nW
   refine fin (fun _=>hg) _ ⟨fun q1 q2=>?_,fun q1 q2 q3=>lA,fun q1 q2 q3 q4 q5=>?_,fun q1 q2 q3 q4 q5 q6 q7=>?_⟩
   ·rcases q1 with q1 | q1
    ·exact ov
    unfold Bq;exact oF
   ·exact ow
   omega
  obtain rfl:k=b.length:=lA
  refine fin (fun h=>absurd h (Ag4 _)) _ ⟨fun q1 q2=>?_,fun q1 q2 q3 q4=>?_,fun q1 q2 q3=>lA,fun q1 q2 q3=>lA⟩
  ·rcases q1 with q1 | q1
   ·exact ov
   unfold Bq;exact oF
  obtain ⟨x1,x2,x3⟩:=q4;exact oo
 ·simp(disch:=try exact aa)only[Af,Tryz.f107,↓Ab,Ad,↓reduceIte,Qv,QF];refine ⟨lD,?_⟩;rw[c2] at hb;generalize hB:Ahq 1 s=b at *;rw[c2,c3];refine Al.fr 4642343326489650161095016453 (α:=Nat) (fun k=>b.length-k) (fun k=>[(6,.d (.int .i64 k))]) (fun _=>[]) (fun k=>k<=b.length/\∀ c∈b.take k,isD c) 0 ⟨AfZ _,lC⟩ ?_ ?_;·exact nD
  rintro k ⟨hk,hd⟩;simp only[Bm,AbZ,Aeg]
  have fin:(k<b.length->¬isD (b.getD k 0))->∀ K:Prop,((k<1\/15<k->okB b=false->K)/\(1<=k->k<=15->k=b.length->okB b=true/\cutL 46 b=b/\cutR 46 b=[]->K)/\(1<=k->k<=15->k<b.length->(b.getD k 0).toNat≠46->okB b=false->K) /\
    (1<=k->k<=15->k<b.length->(b.getD k 0).toNat=46->okB b=digB (b.drop (k+1)) 9->cutL 46 b=b.take k->cutR 46 b=b.drop (k+1)->K))->K:=by
   rintro hn K ⟨k1,k2,k3,k4⟩;by_cases q:k<1\/15<k;·exact k1 q (NU hk hd hn q)
   rcases Aen k b.length with hl | hl
   ·by_cases h46:b.getD k 0=46;·obtain ⟨x1,x2,x3⟩:=NT hd hl h46 lA lA;exact k4 lA lA hl (by rw[h46];rfl) x1 x2 x3
    exact k3 lA lA hl (fun e=>h46 (UInt8.toNat_inj.1 e)) (VZ hd hl (hn hl) h46)
   obtain rfl:k=b.length:=lA
   rw[Aev] at hd;exact qp
  rcases Aen k b.length with hl | hl
  ·by_cases hg:isD (b.getD k 0);·have hg1:=hg.1;have hg2:=hg.2;simp(disch:=try exact aa)only[Af,↓Ab,Ad,↓reduceIte];exact mf
   have hg':(b.getD k 0).toNat<48\/57<(b.getD k 0).toNat:=gr;rcases hg' with hg' | hg'
   ·refine fin (fun _=>hg) _ ⟨fun q1 q2=>?_,fun q1 q2 q3=>lA,fun q1 q2 q3 q4 q5=>?_,fun q1 q2 q3 q4 q5 q6 q7=>?_⟩
    ·rcases q1 with q1 | q1
     ·exact ov
     unfold Bq;exact oF
    ·exact ow
    skip
    have hp3:(b.drop (k+1)).length=b.length-(k+1):=AgU ..;have hlk:(b.take k).length=k:=jv
    unfold Bq;rw[q5,q6,q7];generalize hP:b.drop (k+1)=p at *;by_cases hp1:p.length<1
    ·have e0:digB p 9=false:=by
      cases e:digB p 9 with
      | false=>rfl
      | true=>have:=(digB_iff.1 e).1;omega
     rw[e0];exact oH
    by_cases hp2:9<p.length
    ·have e0:digB p 9=false:=by
      cases e:digB p 9 with
      | false=>rfl
      | true=>have:=(digB_iff.1 e).2.1;omega
     rw[e0];exact oH
    simp(disch:=try exact aa)only[Af,hP,↓Ab,Ad,↓reduceIte];refine Al.fr 0 (α:=Nat) (fun i=>p.length-i) (fun i=>[(2,.d (.bool false)),(3,.d (S (b.take k))),(4,.d (S p)),(7,.d (.int .i64 i))]) (fun _=>[]) (fun i=>i<=p.length/\∀ c∈p.take i,isD c) 0 ⟨AfZ _,lC⟩ ?_ ?_;·exact nD
    rintro i ⟨hi,hdi⟩;simp only[Bm,Aeg];rcases Aen i p.length with hil | hil
    ·by_cases hgi:isD (p.getD i 0);·have hg1:=hgi.1;have hg2:=hgi.2;simp(disch:=try exact aa)only[Af,↓Ab,Ad,↓reduceIte];exact me
     have e0:digB p 9=false:=by
      cases e:digB p 9 with
      | false=>rfl
      | true=>exact absurd ((digB_iff.1 e).2.2 _ (mem_getDU hil)) hgi
     have hg':(p.getD i 0).toNat<48\/57<(p.getD i 0).toNat:=gm;rw[e0];rcases hg' with hg' | hg'
     ·exact oM
     simp(disch:=try exact aa)only[Af,↓Ab,Ad,↓reduceIte,↓Qe];first | done | rfl
    obtain rfl:i=p.length:=lA
    rw[Aev] at hdi;exact nW
   refine fin (fun _=>hg) _ ⟨fun q1 q2=>?_,fun q1 q2 q3=>lA,fun q1 q2 q3 q4 q5=>?_,fun q1 q2 q3 q4 q5 q6 q7=>?_⟩
   ·rcases q1 with q1 | q1
    ·exact ov
    unfold Bq;exact oF
   ·exact ow
   omega
  obtain rfl:k=b.length:=lA
  refine fin (fun h=>absurd h (Ag4 _)) _ ⟨fun q1 q2=>?_,fun q1 q2 q3 q4=>?_,fun q1 q2 q3=>lA,fun q1 q2 q3=>lA⟩
  ·rcases q1 with q1 | q1
   ·exact ov
   unfold Bq;exact oF
  obtain ⟨x1,x2,x3⟩:=q4;exact oo
 simp(disch:=try exact aa)only[Af,Tryz.f107,↓Ab,Ad,↓reduceIte,Qv];rw[c2,c3];refine Al.fr 4642343326489650161095016453 (α:=Nat) (fun k=>s.length-k) (fun k=>[(6,.d (.int .i64 k))]) (fun _=>[]) (fun k=>k<=s.length/\∀ c∈s.take k,isD c) 0 ⟨AfZ _,lC⟩ ?_ ?_;·exact nD
 rintro k ⟨hk,hd⟩;simp only[Bm,AbZ,Aeg]
 have fin:(k<s.length->¬isD (s.getD k 0))->∀ K:Prop,((k<1\/15<k->okB s=false->K)/\(1<=k->k<=15->k=s.length->okB s=true/\cutL 46 s=s/\cutR 46 s=[]->K)/\(1<=k->k<=15->k<s.length->(s.getD k 0).toNat≠46->okB s=false->K) /\
   (1<=k->k<=15->k<s.length->(s.getD k 0).toNat=46->okB s=digB (s.drop (k+1)) 9->cutL 46 s=s.take k->cutR 46 s=s.drop (k+1)->K))->K:=by
  rintro hn K ⟨k1,k2,k3,k4⟩;by_cases q:k<1\/15<k;·exact k1 q (NU hk hd hn q)
  rcases Aen k s.length with hl | hl
  ·by_cases h46:s.getD k 0=46;·obtain ⟨x1,x2,x3⟩:=NT hd hl h46 lA lA;exact k4 lA lA hl (by rw[h46];rfl) x1 x2 x3
   exact k3 lA lA hl (fun e=>h46 (UInt8.toNat_inj.1 e)) (VZ hd hl (hn hl) h46)
  obtain rfl:k=s.length:=lA
  rw[Aev] at hd;exact qp
 rcases Aen k s.length with hl | hl
 ·by_cases hg:isD (s.getD k 0);·have hg1:=hg.1;have hg2:=hg.2;simp(disch:=try exact aa)only[Af,↓Ab,Ad,↓reduceIte];exact mf
  have hg':(s.getD k 0).toNat<48\/57<(s.getD k 0).toNat:=gr
  rcases hg' with hg' | hg'
  ·refine fin (fun _=>hg) _ ⟨fun q1 q2=>?_,fun q1 q2 q3=>lA,fun q1 q2 q3 q4 q5=>?_,fun q1 q2 q3 q4 q5 q6 q7=>?_⟩
   ·rcases q1 with q1 | q1
    ·exact ov
    unfold Bq;exact oF
   ·exact ow
   skip
   have hp3:(s.drop (k+1)).length=s.length-(k+1):=AgU ..;have hlk:(s.take k).length=k:=jv
   unfold Bq;rw[q5,q6,q7];generalize hP:s.drop (k+1)=p at *;by_cases hp1:p.length<1
   ·have e0:digB p 9=false:=by
     cases e:digB p 9 with
     | false=>rfl
     | true=>have:=(digB_iff.1 e).1;omega
    rw[e0];exact oH
   by_cases hp2:9<p.length
   ·have e0:digB p 9=false:=by
     cases e:digB p 9 with
     | false=>rfl
     | true=>have:=(digB_iff.1 e).2.1;omega
    rw[e0];exact oH
   simp(disch:=try exact aa)only[Af,hP,↓Ab,Ad,↓reduceIte];refine Al.fr 0 (α:=Nat) (fun i=>p.length-i) (fun i=>[(2,.d (.bool false)),(3,.d (S (s.take k))),(4,.d (S p)),(7,.d (.int .i64 i))]) (fun _=>[]) (fun i=>i<=p.length/\∀ c∈p.take i,isD c) 0 ⟨AfZ _,lC⟩ ?_ ?_;·exact nD
   rintro i ⟨hi,hdi⟩;simp only[Bm,Aeg];rcases Aen i p.length with hil | hil
   ·by_cases hgi:isD (p.getD i 0);·have hg1:=hgi.1;have hg2:=hgi.2;simp(disch:=try exact aa)only[Af,↓Ab,Ad,↓reduceIte];exact me
    have e0:digB p 9=false:=by
     cases e:digB p 9 with
     | false=>rfl
     | true=>exact absurd ((digB_iff.1 e).2.2 _ (mem_getDU hil)) hgi
    have hg':(p.getD i 0).toNat<48\/57<(p.getD i 0).toNat:=gm;rw[e0];rcases hg' with hg' | hg'
    ·exact oM
    simp(disch:=try exact aa)only[Af,↓Ab,Ad,↓reduceIte,↓Qe];first | done | rfl
   obtain rfl:i=p.length:=lA
   rw[Aev] at hdi;exact nW
  refine fin (fun _=>hg) _ ⟨fun q1 q2=>?_,fun q1 q2 q3=>lA,fun q1 q2 q3 q4 q5=>?_,fun q1 q2 q3 q4 q5 q6 q7=>?_⟩
  ·rcases q1 with q1 | q1
   ·exact ov
   unfold Bq;exact oF
  ·exact ow
  omega
 obtain rfl:k=s.length:=lA
 refine fin (fun h=>absurd h (Ag4 _)) _ ⟨fun q1 q2=>?_,fun q1 q2 q3 q4=>?_,fun q1 q2 q3=>lA,fun q1 q2 q3=>lA⟩
 ·rcases q1 with q1 | q1
  ·exfalso;omega
  unfold Bq;exact oF
 obtain ⟨x1,x2,x3⟩:=q4;exact oo
def Er (l:List Nat) (hd:Dig l) (hl:l.length<2^60):Ctr TP G 180 [.d (W l)] [] (.d (W (toW (val l)))) []:=by
 refine Ctr.pure (M:=M0) Ak Tryz.func180 rfl AeV ?_;simp only[Tryz.f180,↓Ab,Ad,Qv];refine Al.fr 0 (α:=Nat) (fun k=>k) (fun k=>[(0,.d (.sl k false (AR .u32 (l.take k))))]) (fun _=>[]) (fun k=>k<=l.length/\val (l.take k)=val l) l.length ⟨Af7 _,lC⟩ ?_ ?_;·exact nD
 rintro k ⟨hk,hv⟩;simp only[Bm,Aeg];rcases k with _ | k
 ·simp(disch:=try exact aa)only[↓Ab,Ad,↓reduceIte,↓Qe];have:toW (val l)=[]:=by rw[<-hv];exact A5
  rw[this];rfl
 have eg:(l.take (k+1)).getD k 0=l.getD k 0:=cT
 have et:(l.take (k+1)).take k=l.take k:=by rw[Ahg];congr 1;omega
 simp(disch:=try exact aa)only[eg,et,↓Ab,Ad,↓reduceIte,↓Qe];refine ⟨fun h=>⟨k,⟨lA,?_⟩,Ahc _,nE⟩,fun h=>?_⟩;·rw[<-hv,Bo l k,show l.getD k 0=0 by omega];simp
 have:=Ts hd (k:=k+1) lA (.inr ji);rw[hv] at this;rw[this];simp[W];omega
def Dq (neg:Bool) (l:List Nat) (hd:Dig l) (hl:l.length<2^40):Ctr TP G 147 [.d (.bool neg),.d (W l)] [] (.d (Big (if neg then -(val l:Int) else val l))) []:=by
 refine Ctr.pure (M:=M0) Ak Tryz.func147 rfl Afj ?_;have hlt:=JY hd;simp only[Tryz.f147,↓Ab,Ad,↓reduceIte,Qu,Qv];refine Aa.pure (Er l hd lA) ?_;have:=@HY (val l);cases neg
 ·simp(disch:=try exact aa)only[↓Ab,Ad,↓reduceIte,↓Qe,Qu];simp[Big,S8,W]
 simp(disch:=try exact aa)only[↓Ab,Ad,↓reduceIte,↓Qe,Qu];simp[Big,S8,W];omega
def Lf (a b:Nat) (ha:(toW a).length<2^40) (hb:(toW b).length<2^40) :
  Ctr TP G 149 [.d (W (toW a)),.d (W (toW b))] [] (.d (.int .i64 (cmpI a b))) []:=by
 have da:=Bg a;have db:=Bg b;have va:=Bf a;have vb:=Bf b;have la:=@Ek a b;have lb:=@Ek b a;generalize toW a=l at *;generalize toW b=m at *;refine Ctr.pure (M:=M0) Ak Tryz.func149 rfl Afh ?_;simp(disch:=try exact aa)only[Tryz.f149,↓Ab,Ad,↓Qe,Qu,Qv,QE];refine ⟨fun h=>⟨fun h'=>?_,fun h'=>?_⟩,fun h=>?_⟩;·exact (F6 (by have:=la lA;omega)).symm
 ·exact (F7 (by have:=lb lA;omega)).symm
 have e:l.length=m.length:=lA
 refine Al.fr 3 (α:=Nat) (fun k=>k) (fun k=>[(5,.d (.int .i64 ((k:Int)-1)))]) (fun _=>[]) (fun k=>k<=l.length/\l.drop k=m.drop k) l.length ⟨Af7 _,by rw[AgI,e,AgI]⟩ ?_ ?_;·exact ⟨[],rfl,lC,by simp[sA,kZ,SW,AW,e],kQ⟩
 rintro k ⟨hk,hv⟩;simp only[Bm,AbZ,Aeg];rcases k with _ | k
 ·simp(disch:=try exact aa)only[↓Ab,Ad,↓Qe,QB,QE];simp only[AgY] at hv;rw[<-va,<-vb,hv];exact (Fh rfl).symm
 simp(disch:=try exact aa)only[↓Ab,Ad,↓reduceIte,↓Qe,QE];refine ⟨lD,fun h1=>?_,fun h1=>⟨lD,fun h2=>?_,fun h2=>?_⟩⟩;·have:=IK (k:=k) da lA lA hv lA;rw[<-va,<-vb];exact (F6 lA).symm
 ·have:=IK (k:=k) db lA lA hv.symm lA;rw[<-va,<-vb];exact (F7 lA).symm
 exact ⟨k,⟨lA,XM lA lA hv lA⟩,Ahc _,nE⟩
def Yt (a b:Nat) (ha:(toW a).length<2^40) (hb:(toW b).length<2^40) :
  Ctr TP G 151 [.d (W (toW a)),.d (W (toW b))] [] (.d (W (toW (a*b)))) []:=by
 have da:=Bg a;have db:=Bg b;have va:=Bf a;have vb:=Bf b;generalize toW a=l at *;generalize toW b=m at *;refine Ctr.pure (M:=M0) Ak Tryz.func151 rfl Aff ?_;simp(disch:=try exact aa)only[Tryz.f151,↓Ab,Ad,↓reduceIte,Qu,Qv];refine Al.fr 35 (α:=Nat × List Nat) (fun x=>l.length-x.1) (fun x=>[(6,.d (.int .i64 x.1))])
  (fun x=>[.row false (AR .u32 x.2)]) (fun x=>x.1<=l.length/\x.2.length=l.length+m.length/\Dig x.2/\val x.2=val (l.take x.1)*b/\∀ p,x.1+m.length<=p->x.2.getD p 0=0) (0,Aeu (l.length+m.length) 0)
  ⟨lC,lC,Dig.zeros _,by simp[KW,val],fun p _=>by simp only[AbY,AgQ];split<;>rfl⟩ ?_ ?_
 ·exact nj
 rintro ⟨i,o⟩ ⟨hi,ho,hd,hv,hz⟩;simp only at hi ho hd hv hz;simp only[Bm,AbZ,Aeg];simp(disch:=try exact aa)only[↓Ab,Ad,↓reduceIte];refine ⟨fun h=>?_,fun h=>?_⟩
 ·refine Al.fr 99 (α:=Nat × List Nat × Nat) (fun x=>m.length-x.1) (fun x=>[(7,.d (.int .u64 x.2.2)),(8,.d (.int .i64 x.1))])
   (fun x=>[.row false (AR .u32 x.2.1)]) (fun x=>x.1<=m.length/\x.2.1.length=l.length+m.length/\Dig x.2.1/\x.2.2<B/\val x.2.1+B^(i+x.1)*x.2.2=val o+B^i*(l.getD i 0*val (m.take x.1))/\∀ p,i+m.length<=p->x.2.1.getD p 0=0) (0,o,0)
   ⟨lC,ho,hd,by simp[B],kD,hz⟩ ?_ ?_
  ·exact nj
  rintro ⟨j,q,c⟩ ⟨hj,hq,hdq,hc,hvq,hzq⟩;simp only at hj hq hdq hc hvq hzq;simp only[Bm,AbZ,Aeg];replace hv:=Hid.mk hv;replace hvq:=Hid.mk hvq;have p1:=I1 (da.getD i) (db.getD j);have p2:=hdq.getD (i+j);have p3:c<4294967296:=hc;have p4:q.getD (i+j) 0<4294967296:=p2;have p5:l.getD i 0<4294967296:=da.getD i;have p6:m.getD j 0<4294967296:=db.getD j;simp(disch:=try exact aa)only[↓Ab,Ad,↓reduceIte,QD,QF];refine ⟨fun h1=>⟨lD,?_⟩,fun h1=>?_⟩
  ·simp only[DW,nats_set];have hsl:c+(l.getD i 0*m.getD j 0+q.getD (i+j) 0)<B*B:=gR
   generalize hg:c+(l.getD i 0*m.getD j 0+q.getD (i+j) 0)=s at hsl ⊢;refine ⟨(j+1,q.set (i+j) (s % B),s / B),⟨iz,kS,hdq.set (Ag7 _ lz),(Nat.div_lt_iff_lt_mul lz).2 hsl,Nk lA hg.symm hvq.out,fun p hp=>?_⟩,
    iz,[some 0],rfl,lC,js,jt⟩
   rw[FZ lA];exact hzq p hp
  have ej:j=m.length:=lA
  have hvq:=hvq.out;rw[ej,Aex (Af7 _),vb] at hvq;refine ⟨(i+1,q.set (i+m.length) c),⟨iz,kS,hdq.set hc,Ps lA (hzq _ (Af7 _)) hvq hv.out,fun p hp=>?_⟩,
   iz,[some 0],rfl,lC,jR,jT⟩
  rw[FZ lA];exact hzq p lA
 have e:(D.sl (l.length+m.length) false (AR .u32 o))=W o:=kf
 have ei:i=l.length:=lA
 rw[e];refine Aa.frozen (Er _ hd ?_) ?_;·omega
 rw[hv,ei,Aex (Af7 _),va];exact pq
def B5 (n:Int) (h1:-9223372036854775808<=n) (h2:n<=9223372036854775807):Ctr TP G 108 [.d (.int .i64 n)] [] (.d (Big n)) []:=by
 refine Ctr.pure (M:=M0) Ak Tryz.func108 rfl AfQ ?_;have hN:n.natAbs<18446744073709551616:=lA
 have dg:Dig [n.natAbs % B,n.natAbs / B]:=by
  intro x hx;simp only[AgK,AgR,or_false] at hx;rcases hx with rfl | rfl
  ·exact Ag7 _ lz
  simp only[B];omega
 have vv:val [n.natAbs % B,n.natAbs / B]=n.natAbs:=by simp only[val,Nat.mul_zero,Nat.add_zero];exact Nat.mod_add_div _ B
 by_cases hn:n<0
 ·have e:IntKind.u64.wrap (0-IntKind.u64.wrap n)=((n.natAbs:Nat):Int):=by simp[IntKind.wrap,IntKind.bits,IntKind.signed];omega
  simp(disch:=try exact aa)only[Tryz.f108,e,DW,↓Ab,Ad,↓reduceIte,Qu,Qv,Qz,QD,QF];refine Aa.frozenE (Dq true [n.natAbs % B,n.natAbs / B] dg lC) lD ?_;rw[vv,if_pos rfl,show -((n.natAbs:Nat):Int)=n by omega];exact oY
 have e:IntKind.u64.wrap n=((n.natAbs:Nat):Int):=bt
 have e2:n=((n.natAbs:Nat):Int):=lA
 simp(disch:=try exact aa)only[Tryz.f108,e,DW,↓Ab,Ad,↓reduceIte,Qu,Qv,Qz,QD,QF];refine Aa.frozenE (Dq false [n.natAbs % B,n.natAbs / B] dg lC) ?_ ?_;·rfl
 rw[vv,if_neg lz,<-e2];exact oY
def Yw (a b:Nat) (ha:(toW a).length<2^40) (hb:(toW b).length<2^40) :
  Ctr TP G 148 [.d (W (toW a)),.d (W (toW b))] [] (.d (W (Be (max (toW a).length (toW b).length+1) (a+b)))) []:=by
 have da:=Bg a;have db:=Bg b;have va:=Bf a;have vb:=Bf b;generalize toW a=l at *;generalize toW b=m at *;refine Ctr.pure (M:=M0) Ak Tryz.func148 rfl Afi ?_;simp only[Tryz.f148,↓Ab,Ad,Qu,Qv];refine Al.fr 3 (α:=Nat × List Nat × Nat) (fun x=>max l.length m.length-x.1) (fun x=>[(5,.lsl 0 1 0 x.1),(6,.d (.int .u64 x.2.2)),(7,.d (.int .i64 x.1))])
  (fun x=>[.row false (AR .u32 x.2.1)]) (fun x=>x.1<=max l.length m.length/\x.2.1.length=x.1/\Dig x.2.1/\x.2.2<=1/\val x.2.1+B^x.1*x.2.2=val (l.take x.1)+val (m.take x.1)) (0,[],0) nF ?_ ?_
 ·exact mM
 rintro ⟨k,out,c⟩ ⟨hk,ho,hd,hc,hv⟩;simp only at hk ho hd hc hv;simp only[Bm,AbZ,Aeg];have p1:l.getD k 0<4294967296:=da.getD k;have p2:m.getD k 0<4294967296:=db.getD k;replace hv:=Hid.mk hv;have fin:∀ s,s=l.getD k 0+m.getD k 0+c->k<max l.length m.length->k+1<=max l.length m.length/\(out++[s % B]).length=k+1/\Dig (out++[s % B])/\s / B<=1/\val (out++[s % B])+B^(k+1)*(s / B)=val (l.take (k+1))+val (m.take (k+1)):=fun s hs hk2 =>⟨hk2,kR,hd.append (by intro x hx;simp at hx;subst hx;exact Ag7 _ lz),gR,XX ho hs hv.out⟩
 have z1:l.length<=k->l.getD k 0=0:=fun h=>gX
 have z2:m.length<=k->m.getD k 0=0:=fun h=>gX
 rcases Aen k l.length with h1 | h1<;>rcases Aen k m.length with h2 | h2
 ·simp(disch:=try exact aa)only[DW,↓Ab,Ad,↓reduceIte,Qu,QD,QF];refine ⟨(k+1,out++[(c+l.getD k 0+m.getD k 0) % B],(c+l.getD k 0+m.getD k 0) / B),fin _ lA lA,iz,[some 2],rfl,lC,js,jt⟩
 ·have:=z2 h2;simp(disch:=try exact aa)only[DW,↓Ab,Ad,↓reduceIte,Qu,QD,QF];refine ⟨(k+1,out++[(c+l.getD k 0) % B],(c+l.getD k 0) / B),fin _ lA lA,iz,[some 2],rfl,lC,js,jt⟩
 ·have:=z1 h1;simp(disch:=try exact aa)only[DW,↓Ab,Ad,↓reduceIte,Qu,QD,QF];refine ⟨(k+1,out++[(c+m.getD k 0) % B],(c+m.getD k 0) / B),fin _ lA lA,iz,[some 2],rfl,lC,js,jt⟩
 simp(disch:=try exact aa)only[↓Ab,Ad,↓reduceIte,↓Qe,Qu];have hk':k=max l.length m.length:=lA
 have hv:=hv.out;rw[Aex (l:=l) lA,Aex (l:=m) lA,va,vb] at hv;rw[<-Hc (l:=out++[c]) (hd.append bH) jW eJ];simp[W,ho]
def Aeh {x y b:Nat} (hx:x<4294967296) (hy:y<4294967296) (hb:b<=1):IntKind.u32.wrap (-(b:Int)+(x:Int)-(y:Int))=(((x+B-y-b) % B:Nat):Int):=by simp[IntKind.wrap,IntKind.bits,IntKind.signed,B];omega
def Aei {x y b:Nat} (hx:x<4294967296) (hy:y<4294967296) (hb:b<=1):(-(b:Int)+(x:Int)-(y:Int)) / 4294967296=-((if x<y+b then 1 else 0:Nat):Int):=ju
def Gt (a b:Nat) (hab:b<=a) (ha:(toW a).length<2^40) :
  Ctr TP G 150 [.d (W (toW a)),.d (W (toW b))] [] (.d (W (toW (a-b)))) []:=by
 have da:=Bg a;have db:=Bg b;have va:=Bf a;have vb:=Bf b;have hlen:=Bt hab;generalize toW a=l at *;generalize toW b=m at *;refine Ctr.pure (M:=M0) Ak Tryz.func150 rfl Afg ?_;simp only[Tryz.f150,↓Ab,Ad,Qu,Qv];refine Al.fr 3 (α:=Nat × List Nat × Nat) (fun x=>l.length-x.1) (fun x=>[(5,.lsl 0 1 0 x.1),(6,.d (.int .i64 (-(x.2.2:Int)))),(7,.d (.int .i64 x.1))])
  (fun x=>[.row false (AR .u32 x.2.1)]) (fun x=>x.1<=l.length/\x.2.1.length=x.1/\Dig x.2.1/\x.2.2<=1/\val x.2.1+val (m.take x.1)=val (l.take x.1)+B^x.1*x.2.2) (0,[],0) nF ?_ ?_
 ·exact mM
 rintro ⟨k,out,c⟩ ⟨hk,ho,hd,hc,hv⟩;simp only at hk ho hd hc hv;simp only[Bm,AbZ,Aeg];have p1:l.getD k 0<4294967296:=da.getD k;have p2:m.getD k 0<4294967296:=db.getD k;have sw:=Aeh p1 p2 hc;have sc:=Aei p1 p2 hc;replace hv:=Hid.mk hv;have fin:∀ s q,s=(l.getD k 0+B-m.getD k 0-c) % B->q=(if l.getD k 0<m.getD k 0+c then 1 else 0)->k<l.length->k+1<=l.length/\(out++[s]).length=k+1/\Dig (out++[s])/\q<=1/\val (out++[s])+val (m.take (k+1))=val (l.take (k+1))+B^(k+1)*q:=fun s q hs hq hk2 =>⟨hk2,kR,hd.append (by intro x hx;simp at hx;subst hx;rw[hs];exact Ag7 _ lz),by rw[hq];split<;>omega,V2 ho hv.out (by rw[hs,hq];exact IP (da.getD k) (db.getD k) hc)⟩
 have z2:m.length<=k->m.getD k 0=0:=fun h=>gX
 rcases Aen k l.length with h1 | h1
 ·rcases Aen k m.length with h2 | h2
  ·simp(disch:=try exact aa)only[sw,sc,↓Ab,Ad,↓reduceIte,Qu,QD,QF];exact lJ
  have hz:=z2 h2;have sw2:IntKind.u32.wrap (-(c:Int)+(l.getD k 0:Int))=(((l.getD k 0+B-m.getD k 0-c) % B:Nat):Int):=by rw[<-sw,hz];congr 1;omega
  have sc2:(-(c:Int)+(l.getD k 0:Int)) / 4294967296=-((if l.getD k 0<m.getD k 0+c then 1 else 0:Nat):Int):=by rw[<-sc,hz];congr 1;omega
  simp(disch:=try exact aa)only[sw2,sc2,↓Ab,Ad,↓reduceIte,Qu,QD,QF];exact lJ
 simp(disch:=try exact aa)only[↓Ab,Ad,↓reduceIte];have ek:k=l.length:=lA
 have hv:=hv.out;rw[ek,Aex (Af7 _),Aex hlen,va,vb] at hv;have h3:=GR hd;rw[ho,ek] at h3;have hv':val out=a-b:=YM hv h3 hab hc;refine Aa.frozenE (Er out hd lA) kf ?_;rw[hv'];exact pq
end Num
end Go.Proofs.YtmidaophnbdcdaaGreatDoor
