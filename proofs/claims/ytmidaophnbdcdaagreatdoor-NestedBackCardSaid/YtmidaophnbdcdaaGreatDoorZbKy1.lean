/-
  A world that lays the variables of nestedBack.
-/
import Derived.Test.YtmidaophnbdcdaaGreatDoorMb2
import Derived.Test.YtmidaophnbdcdaaGreatDoorChecked
import Derived.Tactics
import Derived.Tactics2
import Derived.Defers
import Derived.Laws.Pointers
import Derived.Laws.LoneSync
import Derived.RegionTactic
import Derived.RegionCalls
import Derived.ChangeAlike
import Derived.KernelRfl
import Derived.Shelf.Strings.Count
import Derived.Lib.Strings
import Derived.Lib.Slices
import Derived.Lib.Walk
import Derived.Lib.Bytealg
set_option linter.all false
open Go.Abs renaming A6->HW,Dz->BW,Cm->SW,Am->AW,Bd->sA,A4->kZ
open Go.Proofs.Tryz renaming prog->TP
set_option maxHeartbeats 8000000
set_option maxRecDepth 100000
open Go.Abs renaming Ef->Qe
open Nat renaming reduceAdd->Qu,reduceSub->Qv,reduceMul->Qw,reducePow->Qx,reduceDiv->Qy,reduceMod->Qz,reduceEqDiff->QI,reduceBEq->QK
open Int renaming reduceAdd->QA,reduceSub->QB,reduceMul->QC,reducePow->QD,reduceNeg->QE,reduceToNat->QF,reduceLT->QG,reduceLE->QH
open List renaming getD_eq_getElem?_getD->AbH,getElem?_eq_getElem->AbM,getElem?_cons_zero->AbO,nil_append->AbP,map_cons->AbU,replicate->AbV,cons_append->AbY,length_append->AbZ,getElem?_cons_succ->Ac6,range_zero->Ac7,length_cons->Ac8,range_succ->Adc,map_append->Adg,mem_of_mem_take->Adt,map_nil->Ady,length_take->Adz,getElem?_set_ne->AdA,length_set->AdB,drop_eq_nil_of_le->AdC,take_length->AdD,length_nil->AdE,mem_cons_of_mem->AdG,take_of_length_le->AdJ,append_nil->AdK,take_zero->AdL,all_eq_true->AdN,dropWhile_cons->AdO,mem_cons->AdP,flatMap_cons->AdR,countP_le_length->AdS,countP_cons->AdU,getElem_modify->AdY,getElem?_take->Ad1,getElem?_eq_some_iff->Ad2,drop_eq_getElem_cons->Ad3,getElem?_set->Ad4,take_add_one->Ad5,drop_append->Ad6,all_reverse->Ad7,drop_of_length_le->Ad8,count_le_length->Aea,drop_zero->Aeb,replicate_succ->Aee,flatMap_append->Aef,range->Aeh,mem_singleton->Aei,mem_cons_self->Aej,getElem?_map->Aek,drop_length->Aen,not_mem_nil->Aeo,ext_getElem->Aep,take_append->Aeq,mem_append->Aer,tail_cons->Aes,any_cons->Aeu,map_set->Aex
open Nat renaming reduceMod->AbQ,reduceDiv->AbR,lt_of_lt_of_le->AbS,lt_or_ge->AbT,zero_le->Adh,pow_le_pow_right->Adu,le_refl->AdF,pow_lt_pow_right->AdM,not_lt_zero->AdX,le_trans->AdZ,pow_succ->Ad0,pow_pos->Aed,zero_add->Ael,add_assoc->Aet,one_mul->Aey
open Bool renaming true_and->AdH,false_and->AdI,and_eq_true->AdW,not_false->Aec,false_or->Aeg,true_or->Aem,or_false->Aev,not_true->Aew
open Int renaming natAbs_natCast->AdQ,le_refl->Aez
open Array renaming eq_empty_of_size_eq_zero->AdT
open Option renaming getD_some->AdV,map_some->Ad9
namespace Go.Proofs.YtmidaophnbdcdaaGreatDoor
section
open Go Go.Proofs Go.Abs Go.RowKit Go.ChangeShapes Go.WideShapes Go.ChangeAt
noncomputable def CR (os:Os):World :=
 {World.holding TP os ⟨#[.cells #[.int .u32 1] 187],#[],[]⟩ with heap:=(((((((World.holding TP os ⟨#[.cells #[.int .u32 1] 187],#[],[]⟩).heap.modify 5 fun
   | .cells _ t frozen=>.cells #[.int .u8 0,.int .u8 1,.int .u8 28,.int .u8 2,.int .u8 29,.int .u8 14,.int .u8 24,.int .u8 3,.int .u8 30,.int .u8 22,.int .u8 20,.int .u8 15,.int .u8 25,.int .u8 17,.int .u8 4,.int .u8 8,.int .u8 31,.int .u8 27,.int .u8 13,.int .u8 23,.int .u8 21,.int .u8 19,.int .u8 16,.int .u8 7,.int .u8 26,.int .u8 12,.int .u8 18,.int .u8 6,.int .u8 11,.int .u8 5,.int .u8 10,.int .u8 9] t frozen
   | o=>o).modify 6 fun
   | .cells _ t frozen=>.cells #[.int .u8 0,.int .u8 1,.int .u8 56,.int .u8 2,.int .u8 57,.int .u8 49,.int .u8 28,.int .u8 3,.int .u8 61,.int .u8 58,.int .u8 42,.int .u8 50,.int .u8 38,.int .u8 29,.int .u8 17,.int .u8 4,.int .u8 62,.int .u8 47,.int .u8 59,.int .u8 36,.int .u8 45,.int .u8 43,.int .u8 51,.int .u8 22,.int .u8 53,.int .u8 39,.int .u8 33,.int .u8 30,.int .u8 24,.int .u8 18,.int .u8 12,.int .u8 5,.int .u8 63,.int .u8 55,.int .u8 48,.int .u8 27,.int .u8 60,.int .u8 41,.int .u8 37,.int .u8 16,.int .u8 46,.int .u8 35,.int .u8 44,.int .u8 21,.int .u8 52,.int .u8 32,.int .u8 23,.int .u8 11,.int .u8 54,.int .u8 26,.int .u8 40,.int .u8 15,.int .u8 34,.int .u8 20,.int .u8 31,.int .u8 10,.int .u8 25,.int .u8 14,.int .u8 19,.int .u8 9,.int .u8 13,.int .u8 8,.int .u8 7,.int .u8 6] t frozen
   | o=>o).modify 3 fun
   | .cells _ t frozen=>.cells #[.int .u64 1,.int .u64 10,.int .u64 100,.int .u64 1000,.int .u64 10000,.int .u64 100000,.int .u64 1000000,.int .u64 10000000,.int .u64 100000000,.int .u64 1000000000,.int .u64 10000000000,.int .u64 100000000000,.int .u64 1000000000000,.int .u64 10000000000000,.int .u64 100000000000000,.int .u64 1000000000000000,.int .u64 10000000000000000,.int .u64 100000000000000000,.int .u64 1000000000000000000,.int .u64 10000000000000000000] t frozen
   | o=>o).modify 1 fun
   | .cells _ t frozen=>.cells #[.int .u8 128,.int .u8 191,.int .u8 160,.int .u8 191,.int .u8 128,.int .u8 159,.int .u8 144,.int .u8 191,.int .u8 128,.int .u8 143,.int .u8 0,.int .u8 0,.int .u8 0,.int .u8 0,.int .u8 0,.int .u8 0,.int .u8 0,.int .u8 0,.int .u8 0,.int .u8 0,.int .u8 0,.int .u8 0,.int .u8 0,.int .u8 0,.int .u8 0,.int .u8 0,.int .u8 0,.int .u8 0,.int .u8 0,.int .u8 0,.int .u8 0,.int .u8 0] t frozen
   | o=>o).modify 2 fun
   | .cells _ t frozen=>.cells #[.slice (some ⟨(World.settled TP os).heap.size,0,none⟩) 1 1] t frozen
   | o=>o).modify 0 fun
   | .cells _ t frozen=>.cells (Go.Pinned.utf8FirstZ.map fun (n:Nat)=>Value.int .u8 (n:Int)).toArray t frozen
   | o=>o)}
def Ib (os:Os) (args:Array Value):laidMet TP [("math/bits.deBruijn32tab",Rows.laid_math_bits_deBruijn32tab),("math/bits.deBruijn64tab",Rows.laid_math_bits_deBruijn64tab),("internal/strconv.uint64pow10",Rows.laid_internal_strconv_uint64pow10),("unicode/utf8.acceptRanges",Rows.laid_unicode_utf8_acceptRanges),("tablefinder/fraction.one",Rows.laid_tablefinder_fraction_one),("unicode/utf8.first",Rows.laid_unicode_utf8_first)] ((CR os).forCall (fun _ _=>0) ⟨#[],args,[]⟩).memory :=
 laidMet_of_run' 8 (by kernel_rfl) (by kernel_rfl)
end
end Go.Proofs.YtmidaophnbdcdaaGreatDoor
namespace Go.Abs
open Go
variable {G:Ah} {h:Held} {ρ:Place} {w:World} {H:List Aa}
def Sim.boxAt (s:Sim G h ρ (hp H) w) {b:Nat} {cs:List AV} (hb:H[b]?=some (.box cs)):∃ g S c E fr,ρ b=some (g,S)/\w.heap[g]?=some (.cells c E fr)/\c.size=S/\GO S fr/\cs.length<=S /\
  (∀ (j:Nat) x v,cs[j]?=some x->c[j]?=some v->R h ρ v x)/\∀ j,h g j=none:=s.blk b (.box cs) hb
def Sim.boxCell (s:Sim G h ρ (hp H) w) {b g S j:Nat} {cs:List AV} {x:AV} (hb:H[b]?=some (.box cs)) (hρ:ρ b=some (g,S)) (hx:cs[j]?=some x) :
  ∃ v,w.cell? ⟨g,j,none⟩=some v/\R h ρ v x:=by
 obtain ⟨g',S',c,E,fr,e1,e2,e3,e4,e5,e6,e7⟩:=s.boxAt hb;rw[hρ] at e1;cases e1;have hj:j<c.size:=by have:=(Ad2.1 hx).1;omega
 refine ⟨c[j],?_,e6 j x _ hx (Array.getElem?_eq_getElem hj)⟩;simp[World.cell?,e2]
def Sim.boxFree (s:Sim G h ρ (hp H) w) {b g S j:Nat} {cs:List AV} (hb:H[b]?=some (.box cs)) (hρ:ρ b=some (g,S)) (hj:j<cs.length):w.frozen? ⟨g,j,none⟩=false:=by
 obtain ⟨g',S',c,E,fr,e1,e2,e3,e4,e5,e6,e7⟩:=s.boxAt hb;rw[hρ] at e1;cases e1;have:=e4 j (by omega);obtain ⟨lo,hi⟩:=fr;simp only[World.frozen?,e2];simp only at this;rcases AbT j lo with q | q
 ·simp;omega
 simp;omega
def Sim.boxSet (s:Sim G h ρ (hp H) w) {b g S j:Nat} {cs:List AV} {x:AV} {v:Value} (hb:H[b]?=some (.box cs)) (hρ:ρ b=some (g,S)) (hj:j<cs.length) (hv:R h ρ v x) :
  Sim G h ρ (hp (H.set b (.box (cs.set j x)))) (w.setCell ⟨g,j,none⟩ v)/\AU h ρ w h ρ (w.setCell ⟨g,j,none⟩ v):=by
 obtain ⟨g',S',c,E,fr,e1,e2,e3,e4,e5,e6,e7⟩:=s.boxAt hb;rw[hρ] at e1;cases e1;have hbl:b<H.length:=(Ad2.1 hb).1;have hl:Bk (hp H) b:=⟨_,hb,by simp⟩;rw[setCell_eq_setRow w g j c E fr v e2];have hset:hp (H.set b (.box (cs.set j x)))=Ak (hp H) [(b,.box (cs.set j x))]:=by
  funext i;by_cases e:i=b;·subst e;simp[hp,Ak,hbl]
  have e':¬b=i:=fun q=>e q.symm;simp[hp,Ak,Ad4,e,e']
 rw[hset];refine s.change b hl g S hρ (.box (cs.set j x)) h (w.setRow g (c.setIfInBounds j v)) (Held.le_refl _) (fun k hk=>⟨fun _=>rfl,setRow_other w g k _ hk⟩) (by simp) rfl rfl rfl
  (fun o v e=>by rw[e7 o] at e;cases e)
  ⟨g,S,c.setIfInBounds j v,E,fr,hρ,setRow_heap w g c _ E fr e2,by simpa using e3,e4,by simpa using e5,fun i y u hy hu=>?_,e7⟩
 rw[Ad4] at hy;rw[Array.getElem?_setIfInBounds] at hu;by_cases e:j=i;·subst e;rw[if_pos rfl,if_pos hj] at hy;rw[if_pos rfl,if_pos (by omega)] at hu;cases hy;cases hu;exact hv
 rw[if_neg e] at hy hu;exact e6 i y u hy hu
end Go.Abs
namespace Go.Proofs.YtmidaophnbdcdaaGreatDoor
section
open Go Go.Proofs
def KE (w:World):(callFunc 236 #[]).run TP w=.ok (.value (.tuple #[])) w:=run_call_mark0 Tryz.func236 (by kernel_rfl) (by kernel_rfl) (by kernel_rfl) .disable (by kernel_rfl) w
def Mi (w:World):(callFunc 238 #[]).run TP w=.ok (.value (.tuple #[])) w:=run_call_mark0 Tryz.func238 (by kernel_rfl) (by kernel_rfl) (by kernel_rfl) .enable (by kernel_rfl) w
def RY (a:Addr) (w:World):(callFunc 239 #[.pointer (some a)]).run TP w=.ok (.value (.tuple #[])) w:=run_call_marked Tryz.func239 (by kernel_rfl) (by kernel_rfl) (by kernel_rfl) .acquire (by kernel_rfl) a w
def J1 (a:Addr) (w:World):(callFunc 241 #[.pointer (some a)]).run TP w=.ok (.value (.tuple #[])) w:=run_call_marked Tryz.func241 (by kernel_rfl) (by kernel_rfl) (by kernel_rfl) .releaseMerge (by kernel_rfl) a w
def LX (a:Addr) (x:Value) (u:FrameMode) (w:World) (hc:w.cell? a=some x) (hz:w.frozen? a=false) :
  CallsD TP 198 #[.pointer (some a),.bool true] u w fun e u' w'=>u'=u/\(e=.returned (.tuple #[])/\w'=w.drew.setCell a (.int .u32 1)):=by
 have hc':w.drew.cell? a=some x:=by go_simp
 have hz':w.drew.frozen? a=false:=by go_simp
 have hst:=run_call_store (P:=TP) Tryz.func216 (by kernel_rfl) (by kernel_rfl) (by kernel_rfl) (by kernel_rfl) (k:=.u32) (y:=1) hc' hz';go_enter_d Tryz.func198,Tryz.ntmps198;go_wp2;go_region_calls;all_goals (go_end0;exact ⟨rfl,rfl⟩)
def KW (a:Addr) (u:FrameMode) (w:World) (hc:w.cell? a=some (.int .i32 1)) (hz:w.frozen? a=false) :
  CallsD TP 197 #[.pointer (some a)] u w fun e u' w'=>u'=u/\(e=.returned (.tuple #[])/\w'=w.setCell a (.int .i32 0)):=by
 have hd:=KE;have he:=Mi;have hr:=J1;have hadd:=run_call_add (P:=TP) Tryz.func242 (by kernel_rfl) (by kernel_rfl) (by kernel_rfl) .i32 (by kernel_rfl) (y:=-1) (s:=0) hc hz (by simp[go_sem];rfl);have hcv:=run_convert_to_unsafe (P:=TP) (src:=300) (dst:=182) Tryz.underlying300 Tryz.underlying182 (by kernel_rfl) hc;go_enter_d Tryz.func197,Tryz.ntmps197;go_wp2;go_end0;go_wp2;go_end0;exact ⟨rfl,rfl⟩
def Wb (a:Addr) (w:World) (hc:w.cell? a=some (.int .i32 0)) (hz:w.frozen? a=false) :
  Calls TP 196 #[.pointer (some a)] w fun e w'=>e=.returned (.tuple #[])/\w'=w.setCell a (.int .i32 1):=by
 have hd:=KE;have he:=Mi;have ha:=RY;have hcas:=run_call_cas_hit (P:=TP) Tryz.func237 (by kernel_rfl) (by kernel_rfl) (by kernel_rfl) .i32 (by kernel_rfl) (y:=1) hc hz;have hc':(w.setCell a (.int .i32 1)).cell? a=some (.int .i32 1):=World.cell?_setCell_same w a _ hc;have hcv:=run_convert_to_unsafe (P:=TP) (src:=300) (dst:=182) Tryz.underlying300 Tryz.underlying182 (by kernel_rfl) hc';go_enter Tryz.func196,Tryz.ntmps196;go_wp2;first | go_end0 | (simp only[Exit.inBlock,Exit.then];refine bodyPost_ret (results_none rfl _ _ _) rfl ?_) | refine bodyPost_ret (results_none rfl _ _ _) rfl ?_
 go_wp2;go_end0;exact ⟨rfl,rfl⟩
def Xq (b:Nat) (w:World) (Q:World->Prop) (h0:w.cell? ⟨b,0,none⟩=some (.int .u32 0)) (h1:w.cell? ⟨b,1,none⟩=some (.int .i32 0)) (f1:w.frozen? ⟨b,1,none⟩=false)
  (hF:Calls TP 130 #[.pointer (some ⟨b,0,none⟩)] (w.setCell ⟨b,1,none⟩ (.int .i32 1)) fun e w'=>e=.returned (.tuple #[])/\Q w')
  (hQ:∀ w',Q w'->w'.cell? ⟨b,0,none⟩=some (.int .u32 0)/\w'.cell? ⟨b,1,none⟩=some (.int .i32 1)/\w'.frozen? ⟨b,0,none⟩=false/\w'.frozen? ⟨b,1,none⟩=false) :
  Calls TP 166 #[.pointer (some ⟨b,0,none⟩),.func (.func 130) #[.pointer (some ⟨b,0,none⟩)] #[]] w fun e w'=>e=.returned (.tuple #[]) /\
   ∃ w1,Q w1/\w'=(w1.drew.setCell ⟨b,0,none⟩ (.int .u32 1)).setCell ⟨b,1,none⟩ (.int .i32 0):=by
 have hl:=run_call_load (P:=TP) Tryz.func195 (by kernel_rfl) (by kernel_rfl) (by kernel_rfl) .u32 (by kernel_rfl) (w:=w.setCell ⟨b,1,none⟩ (.int .i32 1)) (a:=⟨b,0,none⟩) (x:=0) ((World.cell?_setCell_other _ ⟨b,1,none⟩ ⟨b,0,none⟩ _ (by simp)).trans h0);have hnot:∀ (x:Bool) (w:World),(Op.unary .not (.bool x)).run TP w=.ok (.bool (!x)) w:=fun _ _=>rfl;go_enter_defers Tryz.func166,Tryz.ntmps166;go_wp2_with (go_at_call 196;refine (Wb ⟨b,1,none⟩ _ (by go_simp) (by go_simp)).mono ?_;rintro e w' ⟨rfl,rfl⟩);go_wp2_with (first | (go_at_call 130;refine hF.mono ?_;rintro e w1 ⟨rfl,hq⟩) | (go_at_call 165;go_in));obtain ⟨q0,q1,q2,q3⟩:=hQ _ hq;refine leaves_cons (f:=198) (args:=#[.pointer (some ⟨b,0,none⟩),.bool true]) (by simp) (by simp[go_sem]) ?_;refine (LX ⟨b,0,none⟩ (.int .u32 0) .returning _ q0 (by simp[q2])).mono ?_;rintro e u' w'' ⟨rfl,rfl,rfl⟩;refine leaves_cons (f:=197) (args:=#[.pointer (some ⟨b,1,none⟩)]) (by simp[settle]) (by simp[go_sem]) ?_;refine (KW ⟨b,1,none⟩ _ _ ?_ (by simp[q3])).mono ?_
 ·refine (World.cell?_setCell_other _ ⟨b,0,none⟩ ⟨b,1,none⟩ _ (by simp)).trans ?_;rw[World.cell?_drew];exact q1
 rintro e u' w'' ⟨rfl,rfl,rfl⟩;simp only[Leaves,settle,results,Tryz.results166];exact ⟨.tuple #[],by first | rfl | simp,rfl,_,hq,rfl⟩
def YJ (b:Nat) (w:World) (Q:World->Prop) (h0:w.cell? ⟨b,0,none⟩=some (.int .u32 0)) (h1:w.cell? ⟨b,1,none⟩=some (.int .i32 0)) (f1:w.frozen? ⟨b,1,none⟩=false)
  (hF:Calls TP 130 #[.pointer (some ⟨b,0,none⟩)] (w.setCell ⟨b,1,none⟩ (.int .i32 1)) fun e w'=>e=.returned (.tuple #[])/\Q w')
  (hQ:∀ w',Q w'->w'.cell? ⟨b,0,none⟩=some (.int .u32 0)/\w'.cell? ⟨b,1,none⟩=some (.int .i32 1)/\w'.frozen? ⟨b,0,none⟩=false/\w'.frozen? ⟨b,1,none⟩=false) :
  Calls TP 129 #[.pointer (some ⟨b,0,none⟩),.func (.func 130) #[.pointer (some ⟨b,0,none⟩)] #[]] w fun e w'=>e=.returned (.tuple #[]) /\
   ∃ w1,Q w1/\w'=(w1.drew.setCell ⟨b,0,none⟩ (.int .u32 1)).setCell ⟨b,1,none⟩ (.int .i32 0):=by
 have hl:=run_call_load (P:=TP) Tryz.func195 (by kernel_rfl) (by kernel_rfl) (by kernel_rfl) .u32 (by kernel_rfl) h0;have hnot:∀ (x:Bool) (w:World),(Op.unary .not (.bool x)).run TP w=.ok (.bool (!x)) w:=fun _ _=>rfl;go_enter Tryz.func129,Tryz.ntmps129;go_wp2_with (first | (go_at_call 166;refine (Xq b w Q h0 h1 f1 hF hQ).mono ?_;rintro e w' ⟨rfl,hq⟩) | (go_at_call 165;go_in));go_end0;exact ⟨rfl,hq⟩
end
section
open Go Go.Proofs Go.Abs
variable {G:Ah}
def Abr {H H':List Aa} {cs cs':List AV}
  (hf:Ctr TP G 130 [.ptr 0 0] (.box (.d (.int .u32 0)::.d (.int .i32 1)::cs)::H) (.d (.tup [])) (.box (.d (.int .u32 0)::.d (.int .i32 1)::cs')::H')) :
  Ctr TP G 129 [.ptr 0 0,.fn (.func 130) [.ptr 0 0] []] (.box (.d (.int .u32 0)::.d (.int .i32 0)::cs)::H) (.d (.tup []))
   (.box (.d (.int .u32 1)::.d (.int .i32 0)::cs')::H'):=by
 refine ⟨AcP,fun h ρ w vs s r=>?_⟩;obtain ⟨v,u,rfl,hv,hu⟩:=r.inv2;obtain ⟨g,S,rfl,hρ⟩:=hv.ptr_inv;cases hu with
 | fn _ vs us _ _ hl hl' hr hr' =>
 obtain rfl:us=#[]:=AdT hl';obtain rfl:vs=#[.pointer (some ⟨g,0,none⟩)]:=by
  match vs,hl with
  | ⟨[x]⟩,_ =>obtain ⟨g',S',e,hρ'⟩:=(hr 0 x _ rfl rfl).ptr_inv;rw[hρ] at hρ';cases hρ';rw[e]
 have intOf:∀ {h:Abs.Held} {ρ:Abs.Place} {v:Value} {k:IntKind} {n:Int},R h ρ v (.d (.int k n))->v=.int k n:=fun r=>by cases r with | d _ _ hd=>cases hd;rfl
 obtain ⟨v0,c0,r0⟩:=s.boxCell (j:=0) (x:=.d (.int .u32 0)) rfl hρ rfl;obtain ⟨v1,c1,r1⟩:=s.boxCell (j:=1) (x:=.d (.int .i32 0)) rfl hρ rfl;have f1:=s.boxFree (j:=1) rfl hρ (by simp);obtain ⟨s1,st1⟩:=s.boxSet (j:=1) (x:=.d (.int .i32 1)) (v:=.int .i32 1) rfl hρ (by simp) (.d _ _ (.int _ _));rw[intOf r0] at c0;rw[intOf r1] at c1;refine (YJ g w (fun w'=>∃ h' ρ',Sim G h' ρ' (hp (.box (.d (.int .u32 0)::.d (.int .i32 1)::cs')::H')) w'/\AU h ρ (w.setCell ⟨g,1,none⟩ (.int .i32 1)) h' ρ' w') c0 c1 f1 ?_ ?_).mono ?_
 ·refine (hf.2 h ρ _ #[.pointer (some ⟨g,0,none⟩)] s1 ⟨rfl,fun i x y hx hy=>?_⟩).mono ?_
  ·match i,hx,hy with
   | 0,hx,hy=>cases hx;cases hy;exact .ptr _ _ g S hρ
   | i+1,hx,hy=>simp at hy
  rintro e w' ⟨v,h',ρ',rfl,q1,q2,q3⟩;refine ⟨?_,h',ρ',q1,q3⟩;cases q2 with
  | d _ _ hd=>cases hd with
    | tup us _ hl _=>rw[AdT hl]
 ·rintro w' ⟨h',ρ',q1,q3⟩;have hρ':=q3.rmono _ _ hρ;obtain ⟨v0,c0,r0⟩:=q1.boxCell (j:=0) (x:=.d (.int .u32 0)) rfl hρ' rfl;obtain ⟨v1,c1,r1⟩:=q1.boxCell (j:=1) (x:=.d (.int .i32 1)) rfl hρ' rfl;rw[intOf r0] at c0;rw[intOf r1] at c1;exact ⟨c0,c1,q1.boxFree (j:=0) rfl hρ' (by simp),q1.boxFree (j:=1) rfl hρ' (by simp)⟩
 rintro e w' ⟨rfl,w1,⟨h',ρ',q1,q3⟩,rfl⟩;have hρ':=q3.rmono _ _ hρ;obtain ⟨s2,st2⟩:=q1.drew.boxSet (j:=0) (x:=.d (.int .u32 1)) (v:=.int .u32 1) rfl hρ' (by simp) (.d _ _ (.int _ _));obtain ⟨s3,st3⟩:=s2.boxSet (j:=1) (x:=.d (.int .i32 0)) (v:=.int .i32 0) rfl hρ' (by simp) (.d _ _ (.int _ _));exact ⟨_,h',ρ',rfl,s3,.d _ _ (.tup #[] [] rfl (fun i v x hv=>by simp at hv)),st1.trans (q3.trans (AU.drew.trans (st2.trans st3)))⟩
end
section
open Go Go.Proofs Go.Abs Go.RowKit Go.Shelf
variable {G:Ah}
def Tryz.laysCount_ren:Go.Shelf.Ren:=⟨fun | 138=>293 | 195=>294 | 218=>295 | 143=>296 | 219=>201 | 217=>211 | 225=>189 | 224=>188 | 267=>220 | 266=>235 | 314=>245 | n=>n,fun | 9=>9 | 3=>3 | 4=>4 | 5=>5 | 0=>0 | 46=>155 | 146=>236 | 51=>187 | n=>n,fun | 1=>4 | n=>n⟩
def Tryz.laysCount:Go.Proofs.Lays.n138 TP Tryz.laysCount_ren where
 mixed:=by kernel_rfl
 f138:=Tryz.func293.trans (congrArg some (by kernel_rfl))
 f143:=Tryz.func296.trans (congrArg some (by kernel_rfl))
 f195:=Tryz.func294.trans (congrArg some (by kernel_rfl))
 f217:=Tryz.func211.trans (congrArg some (by kernel_rfl))
 f218:=Tryz.func295.trans (congrArg some (by kernel_rfl))
 f219:=Tryz.func201.trans (congrArg some (by kernel_rfl))
 f224:=Tryz.func188.trans (congrArg some (by kernel_rfl))
 f225:=Tryz.func189.trans (congrArg some (by kernel_rfl))
 f266:=Tryz.func235.trans (congrArg some (by kernel_rfl))
 f267:=Tryz.func220.trans (congrArg some (by kernel_rfl))
 f314:=Tryz.func245.trans (congrArg some (by kernel_rfl))
 t0:=Tryz.underlying0
 a0:=Tryz.isAgg0
 z0:=Tryz.sizeOf0
 v0:=Tryz.zeroValue0
 t3:=Tryz.underlying3
 a3:=Tryz.isAgg3
 z3:=Tryz.sizeOf3
 v3:=Tryz.zeroValue3
 t4:=Tryz.underlying4
 a4:=Tryz.isAgg4
 z4:=Tryz.sizeOf4
 v4:=Tryz.zeroValue4
 t5:=Tryz.underlying5
 a5:=Tryz.isAgg5
 z5:=Tryz.sizeOf5
 v5:=Tryz.zeroValue5
 t9:=Tryz.underlying9
 a9:=Tryz.isAgg9
 z9:=Tryz.sizeOf9
 v9:=Tryz.zeroValue9
 t46:=Tryz.underlying155
 a46:=Tryz.isAgg155
 z46:=Tryz.sizeOf155
 v46:=Tryz.zeroValue155
 t51:=Tryz.underlying187
 a51:=Tryz.isAgg187
 z51:=Tryz.sizeOf187
 v51:=Tryz.zeroValue187
 t146:=Tryz.underlying236
 a146:=Tryz.isAgg236
 z146:=Tryz.sizeOf236
 v146:=Tryz.zeroValue236
 g1:=by kernel_rfl
def Uo (l:List UInt8) (c:UInt8):Ctr TP G 293 [.d (S l),.d (S [c])] [] (.d (.int .i64 (Lib.countByte l c:Nat))) [] :=
 Ctr.of_calls_ss AbW fun h w=>(Any.strings_Count_one Tryz.laysCount (bs l) c w).mono (by rintro e w' ⟨rfl,rfl⟩;exact ⟨_,rfl,.int _ _,.refl _ _⟩)
def E2:List D:=[S [92],S [92,92],S [34],S [92,34],S [10],S [92,110],S [13],S [92,114],S [9],S [92,116]]
def J7 (full:Bool):Ctr TP G 100 [.d (.sl 10 full E2)] [] (.ptr 1 0)
  [.row false E2,.box [.d (.int .u32 0),.d (.int .i32 0),.d (.int .u32 0),.d .nili,.lsl 0 1 0 10]]:=by
 refine Ctr.body (M:=M0) Al Tryz.func100 rfl Ac5 ?_;have l0:E2.length=10:=rfl;have l1:¬(((10:Nat):Int).tmod 2=1):=by decide
 simp(disch:=(try simp only[Ad]);omega)only[Ag,Tryz.f100,l0,↓Ac,Ae,↓reduceIte,↓reduceDIte,↓Qe,Qu,Qv,Qw,Qx,Qy,Qz,QA,QB,QC,QD,QE,QF,QG,QH,QI,QK];first
 | exact ⟨[some 0,some 1],rfl,by simp,by simp[HW,BW,SW,AW],.inl (by simp[AW,SW])⟩
end
section
open Go Go.Proofs Go.Abs
variable {G:Ah}
abbrev z0:AV:=.d (.val (.slice none 0 0))
def MB8:B0:=fun k=>Nat.beq k 2000095
def Adl:MB8 2000095=true:=rfl
def Io {k:Nat} (h:¬k=2000095):MB8 k=false:=by
 cases e:MB8 k with
 | false=>rfl
 | true=>exact absurd (Nat.eq_of_beq_eq_true e) h
def KY (r:AV):List AV:=(AbV 257 z0).set 256 r
def oB:List UInt8:=[92,34,10,13,9]
def nB:List UInt8:=[92,34,110,114,116]
def YD {k:Nat} (h:k<5):E2.getD (2*k) .nilp=S [oB.getD k 0]:=by
 match k,h with
 | 0,_=>rfl
 | 1,_=>rfl
 | 2,_=>rfl
 | 3,_=>rfl
 | 4,_=>rfl
def Aad {k:Nat} (h:k<5):E2.getD (2*k+1) .nilp=S [92,nB.getD k 0]:=by
 match k,h with
 | 0,_=>rfl
 | 1,_=>rfl
 | 2,_=>rfl
 | 3,_=>rfl
 | 4,_=>rfl
def B4:Nat->AV->List AV
 | 0,r=>KY r
 | k+1,r=>(B4 k r).set (oB.getD (4-k) 0).toNat (.lsl (3+k) 1 0 2)
def DC (k:Nat) (r:AV):(B4 k r).length=257:=by
 induction k with
 | zero=>rfl
 | succ k ih=>simp[B4,ih]
def AbI {k:Nat}:¬(oB.getD (4-k) 0).toNat=256:=by have:=(oB.getD (4-k) 0).toNat_lt;omega
def JS (k:Nat) (r r2:AV):(B4 k r).set 256 r2=B4 k r2:=by
 induction k with
 | zero=>rw[B4,B4,KY,KY,List.set_set]
 | succ k ih=>rw[B4,B4,List.set_comm _ _ AbI,ih]
def I7 {k:Nat} {r:AV}:(B4 k r).getD 256 .undef=r:=by rw[<-JS k r r];simp[AbH,DC]
def EF {r:AV} {j:Nat} (h:j<256):(KY r)[j]?=some z0:=by rw[KY,AdA (by omega),List.getElem?_replicate,if_pos (by omega)]
def GP {k:Nat} {r:AV} (h:k<5):(B4 k r).getD (oB.getD (4-k) 0).toNat .undef=z0:=by
 have e:∀ (l:List AV) (i j:Nat) (x:AV),¬i=j->(l.set i x)[j]?=l[j]?:=fun l i j x h=>AdA h;rw[AbH];have hc:k=0\/k=1\/k=2\/k=3\/k=4:=by omega
 rcases hc with rfl | rfl | rfl | rfl | rfl
 ·rw[B4,EF (by decide)];rfl
 ·rw[B4,B4,e _ _ _ _ (by decide),EF (by decide)];rfl
 ·rw[B4,B4,B4,e _ _ _ _ (by decide),e _ _ _ _ (by decide),EF (by decide)];rfl
 ·rw[B4,B4,B4,B4,e _ _ _ _ (by decide),e _ _ _ _ (by decide),e _ _ _ _ (by decide),EF (by decide)];rfl
 rw[B4,B4,B4,B4,B4,e _ _ _ _ (by decide),e _ _ _ _ (by decide),e _ _ _ _ (by decide),e _ _ _ _ (by decide),EF (by decide)];rfl
def BK {fl:List (Option Nat)}:∀ {l l':List AV} {i:Nat} {x y:AV},SW fl l l'->AW fl x y->SW fl (l.set i x) (l'.set i y)
 | [],[],_,_,_,_,_=>by simp[SW]
 | a::l,b::l',0,x,y,h,hx=>by simp only[SW] at h;simp only[List.set_cons_zero,SW];exact ⟨hx,h.2⟩
 | a::l,b::l',i+1,x,y,h,hx=>by simp only[SW] at h;simp only[List.set_cons_succ,SW];exact ⟨h.1,BK h.2 hx⟩
 | [],_::_,_,_,_,h,_=>by simp[SW] at h
 | _::_,[],_,_,_,h,_=>by simp[SW] at h
def H8 {fl:List (Option Nat)}:∀ n:Nat,SW fl (AbV n z0) (AbV n z0)
 | 0=>by simp[SW]
 | n+1=>by rw[Aee];simp only[SW];exact ⟨by simp[AW],H8 n⟩
def DU {fl:List (Option Nat)} {k:Nat} {r r':AV} (hr:AW fl r r') (hf:∀ i,i<k->fl[3+i]?=some (some (3+i))):SW fl (B4 k r) (B4 k r'):=by
 induction k with
 | zero=>exact BK (H8 _) hr
 | succ k ih =>refine BK (ih fun i hi=>hf i (by omega)) ?_;simp[AW,hf k (by omega)]
def toR (k:Nat):List D:=(Aeh k).map fun i=>S [oB.getD (4-i) 0]
def Iu (k:Nat):List Aa:=(Aeh k).map fun i=>.row false (Au .u8 (AM [92,nB.getD (4-i) 0]))
def Gm (a0 a1 a2 a3:D) (k:Nat):List Aa:=[.box [.d a0,.d a1,.d a2,.d a3,.d (.sl 10 false E2)],.row false (toR k),.box (B4 k (.lsl 1 1 0 k))]++Iu k
def Uq (a0 a1 a2 a3:D):Ctr TP G 167 [.ptr 0 0] [.box [.d a0,.d a1,.d a2,.d a3,.d (.sl 10 false E2)]] (.ifp 265 2)
  (Gm a0 a1 a2 a3 5):=by
 refine Ctr.body (M:=MB8) Al Tryz.func167 rfl Acr ?_;have l0:E2.length=10:=rfl;simp(disch:=(try simp only[Ad]);omega)only[Ag,Tryz.f167,Io,l0,AG,↓Ac,Ae,↓reduceIte,↓reduceDIte,↓Qe,Qu,Qv,Qw,Qx,Qy,Qz,QA,QB,QC,QD,QE,QF,QG,QH,QI,QK];refine As.fx 8 (α:=Nat) (β:=Unit) (fun k=>5-k) (fun k=>[(4,.d (.bool (k == 0))),(5,.d (.int .i64 (2*k:Nat)))]) (fun _=>[.box [.d a0,.d a1,.d a2,.d a3,.d (.sl 10 false E2)]]) (fun k=>k<=5)
  8 (fun _=>[(4,.d (.bool false))]) (fun _=>[.box [.d a0,.d a1,.d a2,.d a3,.d (.sl 10 false E2)]]) (fun _=>True) 0 (by omega) ?_ ?_ ?_
 ·exact ⟨[some 0],rfl,by simp,by simp[sA,kZ,SW,AW],by simp[HW,BW,SW,AW]⟩
 ·intro k hk;simp only[Cr,AbQ,AbR,reduceIte];rcases AbT k 5 with h | h
  ·have g0:=YD h;have g1:=Aad h;generalize oB.getD k 0=c at g0;generalize nB.getD k 0=d at g1;have lc:∀ x:UInt8,([x]:List UInt8).length=1:=fun _=>rfl;simp(disch:=(try simp only[Ad]);omega)only[Ag,Io,l0,g0,g1,AG,↓Ac,Ae,↓reduceIte,↓reduceDIte,↓Qe,Qu,Qv,Qw,Qx,Qy,Qz,QA,QB,QC,QD,QE,QF,QG,QH,QI,QK];have e2:(((2*k:Nat):Int)+2)=((2*(k+1):Nat):Int):=(by omega)
   rw[e2];exact ⟨k+1,by simp only;omega,by simp only;omega,⟨[some 0],rfl,by simp,by simp[sA,kZ,SW,AW],by simp[HW,BW,SW,AW]⟩⟩
  obtain rfl:k=5:=by omega
  simp(disch:=(try simp only[Ad]);omega)only[Ag,Io,l0,AG,↓Ac,Ae,↓reduceIte,↓reduceDIte,↓Qe,Qu,Qv,Qw,Qx,Qy,Qz,QA,QB,QC,QD,QE,QF,QG,QH,QI,QK];exact ⟨(),trivial,⟨[some 0],rfl,by simp,by simp[sA,kZ,SW,AW],by simp[HW,BW,SW,AW]⟩⟩
 rintro _ _;simp only[Cr,AbQ,AbR,reduceIte];have w5:IntKind.i64.wrap (((10:Nat):Int).tdiv 2)=5:=by decide
 simp(disch:=(try simp only[Ad]);omega)only[Ag,Io,Adl,show FK MB8 (some 95)=true from rfl,l0,w5,AG,↓Ac,Ae,↓reduceIte,↓reduceDIte,↓Qe,Qu,Qv,Qw,Qx,Qy,Qz,QA,QB,QC,QD,QE,QF,QG,QH,QI,QK];refine As.fr 2056 (α:=Nat) (fun k=>5-k) (fun k=>[(12,.d (.int .i64 (8-2*k)))]) (fun k=>Gm a0 a1 a2 a3 k) (fun k=>k<=5) 0 (by omega) ?_ ?_
 ·refine ⟨[some 0,some 1,some 2],rfl,by simp,by simp[sA,kZ,SW,AW],?_⟩;simp only[Gm,Iu,toR,Ac7,Ady,AdK,HW,BW,AbO,Ac6,and_true]
  and_intros
  all_goals first | exact BK (H8 257) (by simp[AW]) | simp[SW,AW,AF]
 intro k hk;simp only[Cr,AbQ,AbR,reduceIte];rcases AbT k 5 with h | h
 ·have hc:k=0\/k=1\/k=2\/k=3\/k=4:=by omega
  rcases hc with rfl | rfl | rfl | rfl | rfl
  ·have tf:(B4 0 (.lsl 1 1 0 0)).getD 9 .undef=z0:=GP (k:=0) (by omega);have tr:(B4 0 (.lsl 1 1 0 0)).getD 256 .undef=.lsl 1 1 0 0:=I7;have hi:(8-2*((0:Nat):Int))=8:=rfl;have g0:E2.getD 8 .nilp=S [9]:=rfl;have g1:E2.getD 9 .nilp=S [92,116]:=rfl;have nb:(9:UInt8).toNat=9:=rfl;have nd:(116:UInt8).toNat=116:=rfl;have n92:(92:UInt8).toNat=92:=rfl;have b1:([9]:List UInt8).length=1:=rfl;have b2:([92,116]:List UInt8).length=2:=rfl;simp only[Gm,Iu,toR,Adc,Ac7,AbP,Adg,AbU,Ady,AbY];simp(disch:=(try simp only[Ad]);omega)only[Ag,Io,l0,hi,tf,tr,DC,g0,g1,nb,nd,n92,b1,b2,JS,AG,↓Ac,Ae,↓reduceIte,↓reduceDIte,↓Qe,Qu,Qv,Qw,Qx,Qy,Qz,QA,QB,QC,QD,QE,QF,QG,QH,QI,QK];refine ⟨1,by simp,by simp,[some 0,some 5,some 2,some 6],rfl,by simp,by simp[sA,kZ,SW,AW],?_⟩;simp only[Gm,Iu,toR,Adc,Ac7,AbP,Adg,AbU,Ady,AbY,HW,BW,AbO,Ac6,and_true]
   and_intros
   all_goals first | exact BK (DU (by simp[AW]) (fun i hi=>by first | (exfalso;omega) | (have hc:i=0\/i=1\/i=2\/i=3:=by omega;rcases hc with rfl | rfl | rfl | rfl<;>first | rfl | (exfalso;omega)))) (by simp[AW]) | (simp[SW,AW];done) | rfl | (simp[SW,AW];rfl)
  ·have tf:(B4 1 (.lsl 1 1 0 1)).getD 13 .undef=z0:=GP (k:=1) (by omega);have tr:(B4 1 (.lsl 1 1 0 1)).getD 256 .undef=.lsl 1 1 0 1:=I7;have hi:(8-2*((1:Nat):Int))=6:=rfl;have g0:E2.getD 6 .nilp=S [13]:=rfl;have g1:E2.getD 7 .nilp=S [92,114]:=rfl;have nb:(13:UInt8).toNat=13:=rfl;have nd:(114:UInt8).toNat=114:=rfl;have n92:(92:UInt8).toNat=92:=rfl;have b1:([13]:List UInt8).length=1:=rfl;have b2:([92,114]:List UInt8).length=2:=rfl;simp only[Gm,Iu,toR,Adc,Ac7,AbP,Adg,AbU,Ady,AbY];simp(disch:=(try simp only[Ad]);omega)only[Ag,Io,l0,hi,tf,tr,DC,g0,g1,nb,nd,n92,b1,b2,JS,AG,↓Ac,Ae,↓reduceIte,↓reduceDIte,↓Qe,Qu,Qv,Qw,Qx,Qy,Qz,QA,QB,QC,QD,QE,QF,QG,QH,QI,QK];refine ⟨2,by simp,by simp,[some 0,some 6,some 2,some 3,some 7],rfl,by simp,by simp[sA,kZ,SW,AW],?_⟩;simp only[Gm,Iu,toR,Adc,Ac7,AbP,Adg,AbU,Ady,AbY,HW,BW,AbO,Ac6,and_true]
   and_intros
   all_goals first | exact BK (DU (by simp[AW]) (fun i hi=>by first | (exfalso;omega) | (have hc:i=0\/i=1\/i=2\/i=3:=by omega;rcases hc with rfl | rfl | rfl | rfl<;>first | rfl | (exfalso;omega)))) (by simp[AW]) | (simp[SW,AW];done) | rfl | (simp[SW,AW];rfl)
  ·have tf:(B4 2 (.lsl 1 1 0 2)).getD 10 .undef=z0:=GP (k:=2) (by omega);have tr:(B4 2 (.lsl 1 1 0 2)).getD 256 .undef=.lsl 1 1 0 2:=I7;have hi:(8-2*((2:Nat):Int))=4:=rfl;have g0:E2.getD 4 .nilp=S [10]:=rfl;have g1:E2.getD 5 .nilp=S [92,110]:=rfl;have nb:(10:UInt8).toNat=10:=rfl;have nd:(110:UInt8).toNat=110:=rfl;have n92:(92:UInt8).toNat=92:=rfl;have b1:([10]:List UInt8).length=1:=rfl;have b2:([92,110]:List UInt8).length=2:=rfl;simp only[Gm,Iu,toR,Adc,Ac7,AbP,Adg,AbU,Ady,AbY];simp(disch:=(try simp only[Ad]);omega)only[Ag,Io,l0,hi,tf,tr,DC,g0,g1,nb,nd,n92,b1,b2,JS,AG,↓Ac,Ae,↓reduceIte,↓reduceDIte,↓Qe,Qu,Qv,Qw,Qx,Qy,Qz,QA,QB,QC,QD,QE,QF,QG,QH,QI,QK];refine ⟨3,by simp,by simp,[some 0,some 7,some 2,some 3,some 4,some 8],rfl,by simp,by simp[sA,kZ,SW,AW],?_⟩;simp only[Gm,Iu,toR,Adc,Ac7,AbP,Adg,AbU,Ady,AbY,HW,BW,AbO,Ac6,and_true]
   and_intros
   all_goals first | exact BK (DU (by simp[AW]) (fun i hi=>by first | (exfalso;omega) | (have hc:i=0\/i=1\/i=2\/i=3:=by omega;rcases hc with rfl | rfl | rfl | rfl<;>first | rfl | (exfalso;omega)))) (by simp[AW]) | (simp[SW,AW];done) | rfl | (simp[SW,AW];rfl)
  ·have tf:(B4 3 (.lsl 1 1 0 3)).getD 34 .undef=z0:=GP (k:=3) (by omega);have tr:(B4 3 (.lsl 1 1 0 3)).getD 256 .undef=.lsl 1 1 0 3:=I7;have hi:(8-2*((3:Nat):Int))=2:=rfl;have g0:E2.getD 2 .nilp=S [34]:=rfl;have g1:E2.getD 3 .nilp=S [92,34]:=rfl;have nb:(34:UInt8).toNat=34:=rfl;have nd:(34:UInt8).toNat=34:=rfl;have n92:(92:UInt8).toNat=92:=rfl;have b1:([34]:List UInt8).length=1:=rfl;have b2:([92,34]:List UInt8).length=2:=rfl;simp only[Gm,Iu,toR,Adc,Ac7,AbP,Adg,AbU,Ady,AbY];simp(disch:=(try simp only[Ad]);omega)only[Ag,Io,l0,hi,tf,tr,DC,g0,g1,nb,nd,n92,b1,b2,JS,AG,↓Ac,Ae,↓reduceIte,↓reduceDIte,↓Qe,Qu,Qv,Qw,Qx,Qy,Qz,QA,QB,QC,QD,QE,QF,QG,QH,QI,QK];refine ⟨4,by simp,by simp,[some 0,some 8,some 2,some 3,some 4,some 5,some 9],rfl,by simp,by simp[sA,kZ,SW,AW],?_⟩;simp only[Gm,Iu,toR,Adc,Ac7,AbP,Adg,AbU,Ady,AbY,HW,BW,AbO,Ac6,and_true]
   and_intros
   all_goals first | exact BK (DU (by simp[AW]) (fun i hi=>by first | (exfalso;omega) | (have hc:i=0\/i=1\/i=2\/i=3:=by omega;rcases hc with rfl | rfl | rfl | rfl<;>first | rfl | (exfalso;omega)))) (by simp[AW]) | (simp[SW,AW];done) | rfl | (simp[SW,AW];rfl)
  have tf:(B4 4 (.lsl 1 1 0 4)).getD 92 .undef=z0:=GP (k:=4) (by omega);have tr:(B4 4 (.lsl 1 1 0 4)).getD 256 .undef=.lsl 1 1 0 4:=I7;have hi:(8-2*((4:Nat):Int))=0:=rfl;have g0:E2.getD 0 .nilp=S [92]:=rfl;have g1:E2.getD 1 .nilp=S [92,92]:=rfl;have nb:(92:UInt8).toNat=92:=rfl;have nd:(92:UInt8).toNat=92:=rfl;have n92:(92:UInt8).toNat=92:=rfl;have b1:([92]:List UInt8).length=1:=rfl;have b2:([92,92]:List UInt8).length=2:=rfl;simp only[Gm,Iu,toR,Adc,Ac7,AbP,Adg,AbU,Ady,AbY];simp(disch:=(try simp only[Ad]);omega)only[Ag,Io,l0,hi,tf,tr,DC,g0,g1,nb,nd,n92,b1,b2,JS,AG,↓Ac,Ae,↓reduceIte,↓reduceDIte,↓Qe,Qu,Qv,Qw,Qx,Qy,Qz,QA,QB,QC,QD,QE,QF,QG,QH,QI,QK];refine ⟨5,by simp,by simp,[some 0,some 9,some 2,some 3,some 4,some 5,some 6,some 10],rfl,by simp,by simp[sA,kZ,SW,AW],?_⟩;simp only[Gm,Iu,toR,Adc,Ac7,AbP,Adg,AbU,Ady,AbY,HW,BW,AbO,Ac6,and_true]
  and_intros
  all_goals first | exact BK (DU (by simp[AW]) (fun i hi=>by first | (exfalso;omega) | (have hc:i=0\/i=1\/i=2\/i=3:=by omega;rcases hc with rfl | rfl | rfl | rfl<;>first | rfl | (exfalso;omega)))) (by simp[AW]) | (simp[SW,AW];done) | rfl | (simp[SW,AW];rfl)
 obtain rfl:k=5:=by omega
 simp(disch:=(try simp only[Ad]);omega)only[Ag,Io,l0,AG,↓Ac,Ae,↓reduceIte,↓reduceDIte,↓Qe,Qu,Qv,Qw,Qx,Qy,Qz,QA,QB,QC,QD,QE,QF,QG,QH,QI,QK];refine ⟨[some 0,some 1,some 2,some 3,some 4,some 5,some 6,some 7],rfl,by simp,?_,.inl (by simp[AW])⟩;simp only[Gm,Iu,Adc,Ac7,AbP,Adg,AbU,Ady,AbY,HW,BW,AbO,Ac6,and_true];have hf:∀ i,i<5->([some 0,some 1,some 2,some 3,some 4,some 5,some 6,some 7]:List (Option Nat))[3+i]?=some (some (3+i)):=by
  intro i hi;have hc:i=0\/i=1\/i=2\/i=3\/i=4:=by omega
  rcases hc with rfl | rfl | rfl | rfl | rfl<;>rfl
 and_intros
 all_goals first | exact DU (by simp[AW]) hf | simp[SW,AW]
def RM {f:Nat->Nat} {k:Nat} {r:AV} (hf:∀ i,i<k->f (3+i)=3+i):renL f (B4 k r)=B4 k (renA f r):=by
 induction k with
 | zero=>rw[CX,B4,B4,KY,KY,Aex,List.map_replicate];rfl
 | succ k ih =>rw[CX,B4,Aex,<-CX,ih fun i hi=>hf i (by omega),B4];simp[renA,hf k (by omega)]
def Nj (a0 a1 a2:D):Ctr TP G 130 [.ptr 0 0] [.box [.d a0,.d a1,.d a2,.d .nili,.d (.sl 10 false E2)]] (.d (.tup []))
  (.box [.d a0,.d a1,.d a2,.ifp 265 2,.d (.sl 0 true [])]::(Gm a0 a1 a2 .nili 5).tail):=by
 refine Ctr.body (M:=M0) Al Tryz.func130 rfl AcO ?_;simp(disch:=(try simp only[Ad]);omega)only[Ag,Tryz.f130,AG,↓Ac,Ae,↓reduceIte,↓reduceDIte,↓Qe,Qu,Qv,Qw,Qx,Qy,Qz,QA,QB,QC,QD,QE,QF,QG,QH,QI,QK];refine Ab.by (Uq a0 a1 a2 .nili) (by rfl) (by rfl) (by simp[Gm]) ?_;simp only[Gm,Iu,toR,Adc,Ac7,AbP,Adg,AbU,Ady,AbY,Aes];simp(disch:=(try simp only[Ad]);omega)only[Ag,AG,↓Ac,Ae,↓reduceIte,↓reduceDIte,↓Qe,Qu,Qv,Qw,Qx,Qy,Qz,QA,QB,QC,QD,QE,QF,QG,QH,QI,QK];have hr:renA (outN [0] 1) (.lsl 1 1 0 5)=.lsl 1 1 0 5:=rfl;have hg:∀ i,i<5->outN [0] 1 (3+i)=3+i:=by
  intro i hi;have hc:i=0\/i=1\/i=2\/i=3\/i=4:=by omega
  rcases hc with rfl | rfl | rfl | rfl | rfl<;>rfl
 rw[RM hg,hr];refine ⟨[some 0,some 1,some 2,some 3,some 4,some 5,some 6,some 7],rfl,by simp,?_,.inr ⟨.tup [],rfl,rfl,rfl⟩⟩;simp only[HW,BW,AbO,Ac6,and_true];have hf:∀ i,i<5->([some 0,some 1,some 2,some 3,some 4,some 5,some 6,some 7]:List (Option Nat))[3+i]?=some (some (3+i)):=by
  intro i hi;have hc:i=0\/i=1\/i=2\/i=3\/i=4:=by omega
  rcases hc with rfl | rfl | rfl | rfl | rfl<;>rfl
 and_intros
 all_goals first | exact DU (by simp[AW]) hf | simp[SW,AW]
end
section
open Go Go.Proofs Go.Abs
def rpN (b:UInt8):Option UInt8:=if b=92 then some 92 else if b=34 then some 34 else if b=10 then some 110 else if b=13 then some 114 else if b=9 then some 116 else none
def rpO (b:UInt8):List UInt8:=match rpN b with
 | some n=>[92,n]
 | none=>[b]
def rpL (s:List UInt8):List UInt8:=s.flatMap rpO
def rpC (s:List UInt8):Nat:=s.countP fun b=>(rpN b).isSome
def U1 (b:UInt8):(rpO b).length=1+(if (rpN b).isSome then 1 else 0):=by unfold rpO;split<;>rename_i h<;>simp[h]
def Px:∀ s:List UInt8,(rpL s).length=s.length+rpC s
 | []=>rfl
 | b::s=>by have ih:=Px s;unfold rpL rpC at ih ⊢;rw[AdR,AbZ,ih,AdU,U1,Ac8];split<;>simp_all<;>omega
def RV:∀ s:List UInt8,rpC s=0->rpL s=s
 | [],_=>rfl
 | b::s,h=>by
   unfold rpC at h;rw[AdU] at h;have h1:s.countP (fun b=>(rpN b).isSome)=0:=(by omega)
   have h2:(rpN b).isSome=false:=by
    cases e:(rpN b).isSome;·rfl
    rw[e] at h;simp at h
   have h3:rpN b=none:=(by simpa using h2);show (b::s).flatMap rpO=b::s
   rw[AdR,show s.flatMap rpO=s from RV s h1];simp[rpO,h3]
def Xx {s:List UInt8} {i:Nat} (h:i<s.length):rpL (s.take (i+1))=rpL (s.take i)++rpO (s.getD i 0):=by rw[rpL,rpL,Ad5,AbM h,Aef,AbH,AbM h];simp
def Xz {s:List UInt8} {i:Nat} (h:i<s.length):rpC (s.take (i+1))=rpC (s.take i)+(if (rpN (s.getD i 0)).isSome then 1 else 0):=by rw[rpC,rpC,Ad5,AbM h,List.countP_append,AbH,AbM h];simp[AdU]
def Xy (s:List UInt8) (i:Nat):(rpL (s.take i)).length+(rpL (s.drop i)).length=(rpL s).length:=by rw[<-AbZ];congr 1;rw[rpL,rpL,rpL,<-Aef,List.take_append_drop]
def ZJ (s:List UInt8):rpC s=s.count 9+s.count 13+s.count 10+s.count 34+s.count 92:=by
 induction s with
 | nil=>rfl
 | cons b s ih =>
  unfold rpC at ih ⊢;rw[AdU,ih];simp only[List.count_cons];by_cases h1:b=92;·subst h1;simp[rpN];omega
  by_cases h2:b=34;·subst h2;simp[rpN];omega
  by_cases h3:b=10;·subst h3;simp[rpN];omega
  by_cases h4:b=13;·subst h4;simp[rpN];omega
  by_cases h5:b=9;·subst h5;simp[rpN];omega
  simp[rpN,h1,h2,h3,h4,h5]
def TF (n:UInt8):List D:=Au .u8 (AM [92,n])
def FA:List AV:=(((((KY (.d (.sl 5 false (toR 5)))).set 9 (.d (.sl 2 false (TF 116)))).set 13 (.d (.sl 2 false (TF 114)))).set 10 (.d (.sl 2 false (TF 110)))).set 34 (.d (.sl 2 false (TF 34)))).set 92 (.d (.sl 2 false (TF 92)))
def Eb:FA.length=257:=by rw[FA,AdB,AdB,AdB,AdB,AdB];exact DC 0 _
def LW (b:UInt8):FA.getD b.toNat .undef=match rpN b with
  | some n=>.d (.sl 2 false (TF n))
  | none=>z0:=by
 have hl:b.toNat<256:=b.toNat_lt;have ne:∀ c:UInt8,¬b=c->¬c.toNat=b.toNat:=fun c h e=>h (UInt8.toNat_inj.1 e.symm);have t0:(KY (.d (.sl 5 false (toR 5))))[b.toNat]?=some z0:=EF hl;have ln:(KY (.d (.sl 5 false (toR 5)))).length=257:=DC 0 _;rw[AbH,FA];simp only[Ad4,AdB,ln];by_cases h1:b=92;·subst h1;rfl
 by_cases h2:b=34;·subst h2;rfl
 by_cases h3:b=10;·subst h3;rfl
 by_cases h4:b=13;·subst h4;rfl
 by_cases h5:b=9;·subst h5;rfl
 have e1:¬92=b.toNat:=ne 92 h1;have e2:¬34=b.toNat:=ne 34 h2;have e3:¬10=b.toNat:=ne 10 h3;have e4:¬13=b.toNat:=ne 13 h4;have e5:¬9=b.toNat:=ne 9 h5;rw[if_neg e1,if_neg e2,if_neg e3,if_neg e4,if_neg e5,t0];simp[rpN,h1,h2,h3,h4,h5]
def RN:FA.getD 256 .undef=.d (.sl 5 false (toR 5)):=by have ln:(KY (.d (.sl 5 false (toR 5)))).length=257:=DC 0 _;rw[AbH,FA,AdA (by decide),AdA (by decide),AdA (by decide),AdA (by decide),AdA (by decide),KY,List.getElem?_set_self (by rw[List.length_replicate];decide)];rfl
end
section
open Go Go.Proofs Go.Abs
variable {G:Ah}
def JT {fl:List (Option Nat)}:SW fl FA FA:=by
 have a:∀ d:D,AW fl (.d d) (.d d):=fun d=>by simp[AW]
 exact BK (BK (BK (BK (BK (BK (H8 257) (a _)) (a _)) (a _)) (a _)) (a _)) (a _)
def CU:HW [some 0] [.box FA] [some 0] [.box FA]:=by simp only[HW,BW,AbO,and_true];exact JT
def Lj (s:List UInt8):Nat->Nat
 | 0=>0
 | j+1=>Lj s j+Lib.countByte s (oB.getD (4-j) 0)
def YT (s:List UInt8):Lj s 5=rpC s:=by
 rw[ZJ];show 0+s.count 9+s.count 13+s.count 10+s.count 34+s.count 92=_
 omega
def Vp (s:List UInt8):∀ j,Lj s j<=j*s.length
 | 0=>by simp[Lj]
 | j+1=>by have ih:=Vp s j;have:=Aea (a:=oB.getD (4-j) 0) (l:=s);rw[Lj,Nat.add_mul,Aey];unfold Lib.countByte;omega
def Aa4 {j:Nat} (h:j<5):rpN (oB.getD (4-j) 0)=some (nB.getD (4-j) 0):=by
 match j,h with
 | 0,_=>rfl
 | 1,_=>rfl
 | 2,_=>rfl
 | 3,_=>rfl
 | 4,_=>rfl
def Zs {j:Nat} (h:j<5):(toR 5).getD j .nilp=S [oB.getD (4-j) 0]:=by
 match j,h with
 | 0,_=>rfl
 | 1,_=>rfl
 | 2,_=>rfl
 | 3,_=>rfl
 | 4,_=>rfl
def Xk {X Y:List D} (e:X=Y):HW [some 0,some 1] [.box FA,.row false X] [some 0,some 1] [.box FA,.row false Y]:=by subst e;simp only[HW,BW,AbO,Ac6,and_true,true_and];exact ⟨JT,fun h=>h⟩
def V9 (n:Nat):AY .u8 (AbV n 0)=Au .u8 (AM (AbV n 0)):=by simp[AY,Au,AM]
def ZK {A:List UInt8} {n:Nat} {b:UInt8}:(AM (A++AbV (n+1) 0)).set A.length b.toNat=AM ((A++[b])++AbV n 0):=by simp[AM,List.set_append,Aee]
def ZL {A:List UInt8} {n:Nat} {y:UInt8}:Au .u8 ((AM (A++AbV (n+2) 0)).take A.length)++(.int .u8 92::.int .u8 y.toNat::(Au .u8 (AM (A++AbV (n+2) 0))).drop (A.length+2)) =
  Au .u8 (AM ((A++[92,y])++AbV n 0)):=by
 have e1:(AM (A++AbV (n+2) 0)).take A.length=AM A:=by simp[AM]
 have e2:(Au .u8 (AM (A++AbV (n+2) 0))).drop (A.length+2)=Au .u8 (AM (AbV n 0)):=by simp[Au,AM,Ad6]
 rw[e1,e2];simp[Au,AM]
def YV (s:List UInt8) (hs:s.length<=1000000000):Ctr TP G 291 [.ptr 0 0,.d (S s)] [.box FA] (.d (S (rpL s))) [.box FA]:=by
 refine Ctr.body (M:=M0) Al Tryz.func291 rfl AbX ?_;have cle:rpC s<=s.length:=AdS;have rest:∀ (Q:Prop),True:=fun _=>trivial;rcases AbT s.length 40 with h40 | h40
 case' inl =>
  simp(disch:=(try simp only[Ad]);omega)only[Ag,Tryz.f291,RN,Eb,AG,↓Ac,Ae,↓reduceIte,↓reduceDIte,↓Qe,Qu,Qv,Qw,Qx,Qy,Qz,QA,QB,QC,QD,QE,QF,QG,QH,QI,QK];refine As.fx 3 (α:=Nat) (β:=Unit) (fun i=>s.length-i) (fun i=>[(5,.d (.int .i64 (s.length+rpC (s.take i):Nat))),(6,.d (.bool (decide (rpC (s.take i)≠0)))),(10,.d (.int .i64 i))]) (fun _=>[.box FA]) (fun i=>i<=s.length)
   3 (fun _=>[(5,.d (.int .i64 (s.length+rpC s:Nat))),(6,.d (.bool (decide (rpC s≠0))))]) (fun _=>[.box FA]) (fun _=>True) 0 (Adh _) ?_ ?_ ?_
  ·exact ⟨[some 0],rfl,by simp,by simp[sA,kZ,SW,AW,rpC],CU⟩
  ·intro i hi;simp only[Cr,AbQ,AbR,reduceIte];rcases AbT i s.length with h | h
   ·have tg:=LW (s.getD i 0);have ct:=Xz h;have bl:(s.getD i 0).toNat<256:=UInt8.toNat_lt _;have cl:rpC (s.take i)<=i:=AdZ AdS (by simp;omega);cases hr:rpN (s.getD i 0) with
    | none =>rw[hr] at tg ct;simp(disch:=(try simp only[Ad]);omega)only[Ag,tg,Eb,AG,↓Ac,Ae,↓reduceIte,↓reduceDIte,↓Qe,Qu,Qv,Qw,Qx,Qy,Qz,QA,QB,QC,QD,QE,QF,QG,QH,QI,QK];exact ⟨i+1,by simp only;omega,by simp only;omega,[some 0],rfl,by simp,by simp[sA,kZ,SW,AW,ct],CU⟩
    | some n =>rw[hr] at tg ct;simp(disch:=(try simp only[Ad]);omega)only[Ag,tg,Eb,AG,↓Ac,Ae,↓reduceIte,↓reduceDIte,↓Qe,Qu,Qv,Qw,Qx,Qy,Qz,QA,QB,QC,QD,QE,QF,QG,QH,QI,QK];exact ⟨i+1,by simp only;omega,by simp only;omega,[some 0],rfl,by simp,by simp[sA,kZ,SW,AW,ct,Aet],CU⟩
   obtain rfl:i=s.length:=by omega
   simp(disch:=(try simp only[Ad]);omega)only[Ag,AG,↓Ac,Ae,↓reduceIte,↓reduceDIte,↓Qe,Qu,Qv,Qw,Qx,Qy,Qz,QA,QB,QC,QD,QE,QF,QG,QH,QI,QK];exact ⟨(),trivial,[some 0],rfl,by simp,by simp[sA,kZ,SW,AW],CU⟩
  rintro _ _;simp only[Cr,AbQ,AbR,reduceIte]
 case' inr =>
  simp(disch:=(try simp only[Ad]);omega)only[Ag,Tryz.f291,RN,Eb,AG,↓Ac,Ae,↓reduceIte,↓reduceDIte,↓Qe,Qu,Qv,Qw,Qx,Qy,Qz,QA,QB,QC,QD,QE,QF,QG,QH,QI,QK];refine As.fx 3221225475 (α:=Nat) (β:=Unit) (fun i=>5-i) (fun i=>[(5,.d (.int .i64 (s.length+Lj s i:Nat))),(6,.d (.bool (decide (Lj s i≠0)))),(32,.d (.int .i64 i))]) (fun _=>[.box FA]) (fun i=>i<=5)
   3 (fun _=>[(5,.d (.int .i64 (s.length+rpC s:Nat))),(6,.d (.bool (decide (rpC s≠0))))]) (fun _=>[.box FA]) (fun _=>True) 0 (Adh _) ?_ ?_ ?_
  ·exact ⟨[some 0],rfl,by simp,by simp[sA,kZ,SW,AW,Lj],CU⟩
  ·intro i hi;simp only[Cr,AbQ,AbR,reduceIte];rcases AbT i 5 with h | h
   ·have bl:(oB.getD (4-i) 0).toNat<256:=UInt8.toNat_lt _;have ge:=Zs h;have tg:=LW (oB.getD (4-i) 0);rw[Aa4 h] at tg;have l1:∀ x:UInt8,([x]:List UInt8).length=1:=fun _=>rfl;have rl:(toR 5).length=5:=rfl;have cj:Lj s (i+1)=Lj s i+Lib.countByte s (oB.getD (4-i) 0):=rfl;have cb:Lj s i<=5*1000000000:=AdZ (Vp s i) (Nat.mul_le_mul (by omega) hs);have cc:Lib.countByte s (oB.getD (4-i) 0)<=s.length:=Aea;simp(disch:=(try simp only[Ad]);omega)only[Ag,ge,tg,l1,rl,Eb,AG,↓Ac,Ae,↓reduceIte,↓reduceDIte,↓Qe,Qu,Qv,Qw,Qx,Qy,Qz,QA,QB,QC,QD,QE,QF,QG,QH,QI,QK];refine Ab.of (Uo s (oB.getD (4-i) 0)) (by rfl) ?_;generalize hcv:Lib.countByte s (oB.getD (4-i) 0)=c at *;simp(disch:=(try simp only[Ad]);omega)only[Ag,ge,tg,l1,rl,Eb,AG,↓Ac,Ae,↓reduceIte,↓reduceDIte,↓Qe,Qu,Qv,Qw,Qx,Qy,Qz,QA,QB,QC,QD,QE,QF,QG,QH,QI,QK];refine ⟨fun hz=>⟨by rfl,i+1,by simp only;omega,by simp only;omega,[some 0],rfl,by simp,?_,CU⟩,fun hz=>⟨i+1,by simp only;omega,by simp only;omega,[some 0],rfl,by simp,?_,CU⟩⟩
    ·have hz':¬c=0:=(by omega);simp[sA,kZ,SW,AW,cj,Aet,hz']
    have hz':c=0:=(by omega);subst hz';simp[sA,kZ,SW,AW,cj]
   obtain rfl:i=5:=by omega
   have e5:Lj s 5=rpC s:=YT s;simp(disch:=(try simp only[Ad]);omega)only[Ag,AG,↓Ac,Ae,↓reduceIte,↓reduceDIte,↓Qe,Qu,Qv,Qw,Qx,Qy,Qz,QA,QB,QC,QD,QE,QF,QG,QH,QI,QK];exact ⟨(),trivial,[some 0],rfl,by simp,by simp[sA,kZ,SW,AW,e5],CU⟩
  rintro _ _;simp only[Cr,AbQ,AbR,reduceIte]
 all_goals
  by_cases h0:rpC s=0;·have hd:decide (rpC s≠0)=false:=(by simp[h0]);have e1:=RV s h0;rw[hd,e1];simp(disch:=(try simp only[Ad]);omega)only[Ag,AG,↓Ac,Ae,↓reduceIte,↓reduceDIte,↓Qe,Qu,Qv,Qw,Qx,Qy,Qz,QA,QB,QC,QD,QE,QF,QG,QH,QI,QK];exact ⟨[some 0],rfl,by simp,CU,.inl (by simp[AW])⟩
  have hd:decide (rpC s≠0)=true:=by simp[h0]
  rw[hd];simp(disch:=(try simp only[Ad]);omega)only[Ag,AG,↓Ac,Ae,↓reduceIte,↓reduceDIte,↓Qe,Qu,Qv,Qw,Qx,Qy,Qz,QA,QB,QC,QD,QE,QF,QG,QH,QI,QK];have rl0:=Px s;refine As.fr 4099 (α:=Nat) (fun i=>s.length-i) (fun i=>[(13,.d (.int .i64 ((rpL (s.take i)).length:Nat))),(14,.d (.int .i64 i))]) (fun i=>[.box FA,.row false (Au .u8 (AM (rpL (s.take i)++AbV (rpL (s.drop i)).length 0)))]) (fun i=>i<=s.length) 0 (Adh _) ?_ ?_
  ·refine ⟨[some 0,some 1],rfl,by simp,by simp[sA,kZ,SW,AW,rpL],Xk ?_⟩;rw[V9,AdL,Aeb,rl0];rfl
  intro i hi;simp only[Cr,AbQ,AbR,reduceIte];rcases AbT i s.length with h | h
  ·have tg:=LW (s.getD i 0);have bl:(s.getD i 0).toNat<256:=UInt8.toNat_lt _;have tk:=Xx h;have le:=Xy s i;have le2:=Xy s (i+1);have ol:=U1 (s.getD i 0);have tl:(rpL (s.take (i+1))).length=(rpL (s.take i)).length+(rpO (s.getD i 0)).length:=(by rw[tk,AbZ])
   cases hr:rpN (s.getD i 0) with
   | none =>
    rw[hr] at tg ol;replace ol:(rpO (s.getD i 0)).length=1:=ol;have or:rpO (s.getD i 0)=[s.getD i 0]:=(by simp only[rpO,hr])
    have dl:(rpL (s.drop i)).length=(rpL (s.drop (i+1))).length+1:=(by omega);have tl1:(rpL (s.take (i+1))).length=(rpL (s.take i)).length+1:=(by rw[tl,ol]);simp(disch:=(try simp only[Ad]);omega)only[Ag,tg,Eb,AG,↓Ac,Ae,↓reduceIte,↓reduceDIte,↓Qe,Qu,Qv,Qw,Qx,Qy,Qz,QA,QB,QC,QD,QE,QF,QG,QH,QI,QK];refine ⟨i+1,by simp only;omega,by simp only;omega,[some 0,some 1],rfl,by simp,by simp[sA,kZ,SW,AW,tl1],Xk ?_⟩;rw[tk,or,dl,ZK]
   | some n =>
    rw[hr] at tg ol;replace ol:(rpO (s.getD i 0)).length=2:=ol;have or:rpO (s.getD i 0)=[92,n]:=(by simp only[rpO,hr])
    have dl:(rpL (s.drop i)).length=(rpL (s.drop (i+1))).length+2:=(by omega);have tl2:(rpL (s.take (i+1))).length=(rpL (s.take i)).length+2:=(by rw[tl,ol]);have rb:TF n=[.int .u8 92,.int .u8 n.toNat]:=rfl;simp(disch:=(try simp only[Ad]);omega)only[Ag,tg,rb,Eb,AG,↓Ac,Ae,↓reduceIte,↓reduceDIte,↓Qe,Qu,Qv,Qw,Qx,Qy,Qz,QA,QB,QC,QD,QE,QF,QG,QH,QI,QK];refine ⟨by rfl,i+1,by simp only;omega,by simp only;omega,[some 0,some 1],rfl,by simp,by simp[sA,kZ,SW,AW,tl2],Xk ?_⟩;rw[tk,or,dl];exact ZL
  obtain rfl:i=s.length:=by omega
  have tkk:List.take (s.length+rpC s) (AM (rpL s++AbV (rpL (s.drop s.length)).length 0))=AM (rpL s):=by rw[Aen,<-rl0,show (rpL ([]:List UInt8)).length=0 from rfl,List.replicate_zero,AdK];exact AdJ (by rw[Bw];exact AdF _)
  simp(disch:=(try simp only[Ad]);omega)only[Ag,AG,↓Ac,Ae,↓reduceIte,↓reduceDIte,↓Qe,Qu,Qv,Qw,Qx,Qy,Qz,QA,QB,QC,QD,QE,QF,QG,QH,QI,QK];rw[tkk,CP];simp only[Ck];refine ⟨[some 0],rfl,by simp,?_,.inl (by simp[AW])⟩;simp only[HW,BW,AbO,and_true];exact JT
def rH (a2:D):List Aa:=[.box [.d (.int .u32 1),.d (.int .i32 0),.d a2,.ifp 265 2,.d (.sl 0 true [])],.row false [S [oB.getD 4 0],S [oB.getD 3 0],S [oB.getD 2 0],S [oB.getD 1 0],S [oB.getD 0 0]],.box (B4 5 (.lsl 1 1 0 5)),
 .row false (Au .u8 (AM [92,nB.getD 4 0])),.row false (Au .u8 (AM [92,nB.getD 3 0])),.row false (Au .u8 (AM [92,nB.getD 2 0])),.row false (Au .u8 (AM [92,nB.getD 1 0])),.row false (Au .u8 (AM [92,nB.getD 0 0]))]
def Xi:refsL (B4 5 (.lsl 1 1 0 5))=[]:=by rfl
def Xj (a2:D):passL (rH a2) [2] (B4 5 (.lsl 1 1 0 5))=some FA:=by rfl
def Xh (a2:D):sidsL (rH a2) [2] (B4 5 (.lsl 1 1 0 5))=[3,5,4,6,7,1]:=by rfl
def T9:Nw TP 265 "Replace" 291:=fun _ _=>by kernel_rfl
def PA (s:List UInt8) (hs:s.length<=1000000000) (a2:D):Ctr TP G 101 [.ptr 0 0,.d (S s)] [.box [.d (.int .u32 0),.d (.int .i32 0),.d a2,.d .nili,.d (.sl 10 false E2)]] (.d (S (rpL s))) [.dead]:=by
 refine Ctr.body (M:=M0) Al Tryz.func101 rfl Ac4 ?_;simp(disch:=(try simp only[Ad]);omega)only[Ag,Tryz.f101,AG,↓Ac,Ae,↓reduceIte,↓reduceDIte,↓Qe,Qu,Qv,Qw,Qx,Qy,Qz,QA,QB,QC,QD,QE,QF,QG,QH,QI,QK];refine Ab.by (Abr (H:=[]) (Nj (.int .u32 0) (.int .i32 1) a2)) (by rfl) (by rfl) (by simp[Gm]) ?_;have hr:renA (outN [0] 1) (.lsl 1 1 0 5)=.lsl 1 1 0 5:=rfl;have hg:∀ i,i<5->outN [0] 1 (3+i)=3+i:=by
  intro i hi;have hc:i=0\/i=1\/i=2\/i=3\/i=4:=by omega
  rcases hc with rfl | rfl | rfl | rfl | rfl<;>rfl
 have ht:=RM (r:=.lsl 1 1 0 5) hg;rw[hr] at ht;simp only[Gm,Iu,toR,Adc,Ac7,AbP,Adg,AbU,Ady,AbY,Aes];have tp:=Xj a2;have ts:=Xh a2;have tr:=Xi;simp only[rH] at tp ts;simp(disch:=(try simp only[Ad]);omega)only[Ag,ht,tr,AG,↓Ac,Ae,↓reduceIte,↓reduceDIte,↓Qe,Qu,Qv,Qw,Qx,Qy,Qz,QA,QB,QC,QD,QE,QF,QG,QH,QI,QK];refine ⟨_,T9,?_⟩;simp(disch:=(try simp only[Ad]);omega)only[Ag,ht,tr,tp,ts,AG,↓Ac,Ae,↓reduceIte,↓reduceDIte,↓Qe,Qu,Qv,Qw,Qx,Qy,Qz,QA,QB,QC,QD,QE,QF,QG,QH,QI,QK];refine Ab.by (YV s hs) (by rfl) (by rfl) (by simp) ?_;simp(disch:=(try simp only[Ad]);omega)only[Ag,ht,tr,tp,ts,AG,↓Ac,Ae,↓reduceIte,↓reduceDIte,↓Qe,Qu,Qv,Qw,Qx,Qy,Qz,QA,QB,QC,QD,QE,QF,QG,QH,QI,QK];first
 | exact ⟨[some 0],rfl,by simp,by simp[HW,BW],.inl (by simp[AW])⟩
def TM (s:List UInt8) (hs:s.length<=1000000000):Ctr TP G 69 [.d (S s)] [] (.d (S (34::(rpL s++[34])))) []:=by
 refine Ctr.body (M:=M0) Al Tryz.func69 rfl go69 ?_;have rl0:=Px s;have cle:rpC s<=s.length:=AdS;simp(disch:=(try simp only[Ad]);omega)only[Ag,Tryz.f69,AG,↓Ac,Ae,↓reduceIte,↓reduceDIte,↓Qe,Qu,Qv,Qw,Qx,Qy,Qz,QA,QB,QC,QD,QE,QF,QG,QH,QI,QK];refine Ab.by (J7 false) (by rfl) (by rfl) (by simp) ?_;simp(disch:=(try simp only[Ad]);omega)only[Ag,AG,↓Ac,Ae,↓reduceIte,↓reduceDIte,↓Qe,Qu,Qv,Qw,Qx,Qy,Qz,QA,QB,QC,QD,QE,QF,QG,QH,QI,QK];refine Ab.by (PA s hs (.int .u32 0)) (by rfl) (by rfl) (by simp) ?_;simp(disch:=(try simp only[Ad]);omega)only[Ag,AG,↓Ac,Ae,↓reduceIte,↓reduceDIte,↓Qe,Qu,Qv,Qw,Qx,Qy,Qz,QA,QB,QC,QD,QE,QF,QG,QH,QI,QK];first
 | exact ⟨[],rfl,by simp,by simp[HW],.inl (by simp[AW])⟩
 | exact ⟨by omega,by omega,[],rfl,by simp,by simp[HW],.inl (by simp[AW])⟩
def JE (k:Int):Ctr TP G 71 [.d (.int .i64 k)] [] (.d (.int .u8 (if k=5 then 93 else 125))) []:=by
 refine Ctr.body (M:=M0) Al Tryz.func71 rfl go71 ?_;by_cases h:k=5;·subst h;simp(disch:=(try simp only[Ad]);omega)only[Ag,Tryz.f71,↓Ac,Ae,↓reduceIte,↓reduceDIte,↓Qe,Qu,Qv,Qw,Qx,Qy,Qz,QA,QB,QC,QD,QE,QF,QG,QH,QI,QK];exact ⟨[],rfl,by simp,by simp[HW,BW,SW,AW],.inl (by simp[AW,SW])⟩
 rw[if_neg h];simp(disch:=(try simp only[Ad]);omega)only[Ag,Tryz.f71,h,↓Ac,Ae,↓reduceIte,↓reduceDIte,↓Qe,Qu,Qv,Qw,Qx,Qy,Qz,QA,QB,QC,QD,QE,QF,QG,QH,QI,QK];exact ⟨[],rfl,by simp,by simp[HW,BW,SW,AW],.inl (by simp[AW,SW])⟩
def nots (q:List Bool):List Bool:=q.map not
end
section
open Go Go.Proofs Go.Abs
def BQ:∀ s:List UInt8,(∀ c∈s,c.toNat<128)->Lib.validD s=true
 | [],_=>rfl
 | c::r,h=>by rw[Lib.validD_cons _ _ (h c (by simp))];exact BQ r fun x hx=>h x (by simp[hx])
def BI (s:List UInt8):Prop:=∀ c∈s,c.toNat<128
def Bv {a b:List UInt8} (ha:BI a) (hb:BI b):BI (a++b):=fun c hc=>by
 rcases Aer.1 hc with h | h
 ·exact ha c h
 exact hb c h
def D8 {P:List UInt8->Prop} {l:List (List UInt8)} (h0:P []) (h:∀ s∈l,P s) (i:Nat):P (l.getD i []):=by
 rcases AbT i l.length with h1 | h1
 ·exact h _ (E1 h1)
 rw[AbH,List.getElem?_eq_none h1];exact h0
def Dy:BI []:=fun c h=>by cases h
def IM {c:UInt8} {r:List UInt8} (hc:c.toNat<128) (hr:BI r):BI (c::r):=fun x hx=>by
 rcases AdP.1 hx with rfl | h
 ·exact hc
 exact hr x h
def Uw {n:Nat} (h:n<100):BI (Cv n):=by
 unfold Cv;split;·intro c hc;rw[Aei.1 hc];simp;omega
 intro c hc;rcases AdP.1 hc with rfl | hc
 ·simp;omega
 rw[Aei.1 hc];simp;omega
def O5 (t:List Int) (k:Nat):BI (Iw t k):=by
 have h1:BI (G0 t k):=by obtain ⟨b,hb,hb2⟩:=pk_nat t (k+1) 40 (by decide);unfold G0;rw[hb];exact Bv (D8 Dy (by unfold BI;decide) _) (Uw (by simp;omega))
 have h2:BI (Ji t k):=by
  unfold Ji;split
  ·split;·exact h1
   exact IM (by decide) h1
  exact h1
 unfold Iw;split;·exact Bv h2 (IM (by decide) (D8 Dy (by unfold BI;decide) _))
 exact h2
def Nm (t:List Int) (k:Nat):BI (KQ t k)/\(KQ t k).length<=10:=by
 have a1:BI (DT.getD (pk t k 6).toNat []):=D8 Dy (by unfold BI;decide) _;have a2:BI (CZ.getD (pk t (k+1) 5).toNat []):=D8 Dy (by unfold BI;decide) _;have a3:BI (FQ.getD (pk t (k+2) 5).toNat []):=D8 Dy (by unfold BI;decide) _;have l1:=B6 (l:=DT) (m:=4) (by decide) (pk t k 6).toNat;have l2:=B6 (l:=CZ) (m:=2) (by decide) (pk t (k+1) 5).toNat;have l3:=B6 (l:=FQ) (m:=2) (by decide) (pk t (k+2) 5).toNat;have one:∀ n:UInt8,n.toNat<128->BI [n]:=fun n h=>IM h Dy;unfold KQ;simp only;split;·exact ⟨Bv (Bv (Bv (Bv a1 (one _ (by decide))) a2) (one _ (by decide))) a3,by simp only[AbZ,Ac8,AdE];omega⟩
 split;·exact ⟨Bv (Bv (Bv (Bv a1 (one _ (by decide))) a2) (one _ (by decide))) a3,by simp only[AbZ,Ac8,AdE];omega⟩
 exact ⟨Bv (Bv (Bv (Bv a3 (one _ (by decide))) a2) (one _ (by decide))) a1,by simp only[AbZ,Ac8,AdE];omega⟩
def okT (s:List UInt8):Prop:=Lib.validD s=true/\s.length<=30
instance (s:List UInt8):Decidable (okT s):=by unfold okT;exact inferInstance
def LB:okT []:=by decide
def V5:∀ s∈wordsL,okT s:=by decide
def V7:∀ s∈Hm,okT s:=by decide
def V6:∀ s∈G3,okT s:=by decide
def XR:∀ s∈KI,okT s:=by decide
def Wm (t:List Int) (k c:Nat):okT (ET t k c):=by
 unfold ET;repeat' split
 ·exact D8 LB V5 _
 ·exact ⟨BQ _ (O5 t k),by have:=(GZ t k).2;omega⟩
 ·exact ⟨BQ _ (Nm t k).1,by have:=(Nm t k).2;omega⟩
 ·exact D8 LB V7 _
 ·have:=(GZ t k).2;have l2:=B6 (l:=Fm) (m:=4) (by decide) (pk t (NA t k) 7).toNat;exact ⟨BQ _ (Bv (O5 t k) (D8 Dy (by unfold BI;decide) _)),by rw[AbZ];omega⟩
 ·exact D8 LB V6 _
 exact D8 LB XR _
end
section
open Go Go.Proofs Go.Abs
variable {G:Ah}
def OkS (t:List Int):Prop:=∀ i,0<=t.getD i 0/\t.getD i 0<=255
def OkS.take {t:List Int} (h:OkS t):OkM (t.take 300):=by
 refine ⟨by rw[Adz];omega,fun i=>?_⟩;rcases AbT i 300 with h1 | h1
 ·have:=h i;rw[AbH,Ad1,if_pos h1,<-AbH];exact this
 rw[AbH,Ad1,if_neg (by omega)];decide
end
namespace Num
open Go Go.Proofs Go.Abs
variable {G:Ah}
abbrev S (l:List UInt8):D:=.str (bs l)
def hasP (s p:List UInt8):Bool:=decide (s.take p.length=p)
def hasP_le {s p:List UInt8} (h:hasP s p=true):p.length<=s.length:=by have:=of_decide_eq_true h;have h2:=congrArg List.length this;simp at h2;omega
def hasPrefix_spec (s p:List UInt8):Ctr TP G 184 [.d (S s),.d (S p)] [] (.d (.bool (hasP s p))) []:=by refine Ctr.pure (M:=M0) Al Tryz.func184 rfl AaN ?_;simp(disch:=(try simp only[Ad]);omega)only[Ag,Tryz.f184,↓Ac,Ae,↓reduceIte,↓reduceDIte,↓Qe,Qu,Qv,Qw,Qx,Qy,Qz,QA,QB,QC,QD,QE,QF,QG,QH,QI,QK];refine ⟨fun _=>rfl,fun h=>(decide_eq_false fun e=>h ?_).symm⟩;have:=congrArg List.length e;simp at this;omega
def Li (s p:List UInt8):Ctr TP G 168 [.d (S s),.d (S p)] [] (.d (.tup [S (if hasP s p then s.drop p.length else s),.bool (hasP s p)])) []:=by
 refine Ctr.pure (M:=M0) Al Tryz.func168 rfl Acq ?_;simp(disch:=(try simp only[Ad]);omega)only[Ag,Tryz.f168,↓Ac,Ae,↓reduceIte,↓reduceDIte,↓Qe,Qu,Qv,Qw,Qx,Qy,Qz,QA,QB,QC,QD,QE,QF,QG,QH,QI,QK];refine Ab.pure (hasPrefix_spec s p) ?_;cases h:hasP s p;·simp(disch:=(try simp only[Ad]);omega)only[Ag,↓Ac,Ae,↓reduceIte,↓reduceDIte,↓Qe,Qu,Qv,Qw,Qx,Qy,Qz,QA,QB,QC,QD,QE,QF,QG,QH,QI,QK]
 have:=hasP_le h;simp(disch:=(try simp only[Ad]);omega)only[Ag,↓Ac,Ae,↓reduceIte,↓reduceDIte,↓Qe,Qu,Qv,Qw,Qx,Qy,Qz,QA,QB,QC,QD,QE,QF,QG,QH,QI,QK]
def cutPrefix_spec (s p:List UInt8):Ctr TP G 131 [.d (S s),.d (S p)] [] (.d (.tup [S (if hasP s p then s.drop p.length else s),.bool (hasP s p)])) []:=by refine Ctr.pure (M:=M0) Al Tryz.func131 rfl AcN ?_;simp(disch:=(try simp only[Ad]);omega)only[Ag,Tryz.f131,↓Ac,Ae,↓reduceIte,↓reduceDIte,↓Qe,Qu,Qv,Qw,Qx,Qy,Qz,QA,QB,QC,QD,QE,QF,QG,QH,QI,QK];refine Ab.pure (Li s p) ?_;simp(disch:=(try simp only[Ad]);omega)only[Ag,↓Ac,Ae,↓reduceIte,↓reduceDIte,↓Qe,Qu,Qv,Qw,Qx,Qy,Qz,QA,QB,QC,QD,QE,QF,QG,QH,QI,QK]
def JQ (s p:List UInt8):Ctr TP G 169 [.d (S s),.d (S p)] [] (.d (S (if hasP s p then s.drop p.length else s))) []:=by
 refine Ctr.pure (M:=M0) Al Tryz.func169 rfl Acp ?_;simp(disch:=(try simp only[Ad]);omega)only[Ag,Tryz.f169,↓Ac,Ae,↓reduceIte,↓reduceDIte,↓Qe,Qu,Qv,Qw,Qx,Qy,Qz,QA,QB,QC,QD,QE,QF,QG,QH,QI,QK];refine Ab.pure (hasPrefix_spec s p) ?_;cases h:hasP s p;·simp(disch:=(try simp only[Ad]);omega)only[Ag,↓Ac,Ae,↓reduceIte,↓reduceDIte,↓Qe,Qu,Qv,Qw,Qx,Qy,Qz,QA,QB,QC,QD,QE,QF,QG,QH,QI,QK]
 have:=hasP_le h;simp(disch:=(try simp only[Ad]);omega)only[Ag,↓Ac,Ae,↓reduceIte,↓reduceDIte,↓Qe,Qu,Qv,Qw,Qx,Qy,Qz,QA,QB,QC,QD,QE,QF,QG,QH,QI,QK]
def KX (s p:List UInt8):Ctr TP G 132 [.d (S s),.d (S p)] [] (.d (S (if hasP s p then s.drop p.length else s))) []:=by refine Ctr.pure (M:=M0) Al Tryz.func132 rfl AcM ?_;simp(disch:=(try simp only[Ad]);omega)only[Ag,Tryz.f132,↓Ac,Ae,↓reduceIte,↓reduceDIte,↓Qe,Qu,Qv,Qw,Qx,Qy,Qz,QA,QB,QC,QD,QE,QF,QG,QH,QI,QK];refine Ab.pure (JQ s p) ?_;simp(disch:=(try simp only[Ad]);omega)only[Ag,↓Ac,Ae,↓reduceIte,↓reduceDIte,↓Qe,Qu,Qv,Qw,Qx,Qy,Qz,QA,QB,QC,QD,QE,QF,QG,QH,QI,QK]
def indexByte_calls (s:ByteArray) (c:Int) (w:World) :
  Calls TP 211 #[.string s,.int .u8 c] w fun e w'=>e=.returned (.int .i64 (Lib.indexByte s.data.toList c.toNat.toUInt8))/\w'=w:=by
 go_enter Tryz.func211,Tryz.ntmps211;go_wp2;rw[run_callFunc_extern Tryz.func235 (by kernel_rfl) (by kernel_rfl) (by kernel_rfl) (e:=Extern.BytealgIndexByte.indexByte) (by kernel_rfl),Lib.run_indexByteString];simp only[Result.andThen];rw[Oper.upon_value];go_wp2;go_ret;exact ⟨rfl,rfl⟩
def indexByte_spec (s:List UInt8) (c:UInt8):Ctr TP G 211 [.d (S s),.d (.int .u8 c.toNat)] [] (.d (.int .i64 (Lib.indexByte s c))) []:=by
 refine Ctr.of_calls AaL fun h ρ w vs q r=>?_;obtain ⟨v,u,rfl,hv,hu⟩:=r.inv2;rw[hv.str_inv,hu.int_inv];refine (indexByte_calls (bs s) c.toNat w).mono ?_;rintro e w' ⟨rfl,rfl⟩;refine ⟨_,rfl,?_,.refl _ _⟩;have:((c.toNat:Int)).toNat.toUInt8=c:=by simp
 rw[this];exact .int _ _
def cutL (c:UInt8):List UInt8->List UInt8
 | []=>[]
 | b::l=>if b=c then [] else b::cutL c l
def cutR (c:UInt8):List UInt8->List UInt8
 | []=>[]
 | b::l=>if b=c then l else cutR c l
def cut_index (c:UInt8):∀ s:List UInt8,(c∈s->∃ k:Nat,Lib.indexByte s c=k/\k<s.length/\s.take k=cutL c s/\s.drop (k+1)=cutR c s)/\(c∉s->Lib.indexByte s c=-1/\cutL c s=s/\cutR c s=[])
 | []=>⟨fun h=>absurd h Aeo,fun _=>⟨rfl,rfl,rfl⟩⟩
 | b::l=>by
   obtain ⟨i1,i2⟩:=cut_index c l;by_cases e:b=c;·subst e;refine ⟨fun _=>⟨0,?_,by simp,by simp[cutL],by simp[cutR]⟩,fun h=>absurd (Aej ..) h⟩;simp[Lib.indexByte]
   have e2:¬c=b:=fun h=>e h.symm;refine ⟨fun h=>?_,fun h=>?_⟩;·obtain ⟨k,h1,h2,h3,h4⟩:=i1 ((AdP.1 h).resolve_left e2);refine ⟨k+1,?_,by simpa using h2,by simp[cutL,e,h3],by simp[cutR,e,h4]⟩;simp only[Lib.indexByte,h1];rw[if_neg (by simpa using e),if_neg (by simp)];omega
   obtain ⟨h1,h2,h3⟩:=i2 (fun h2=>h (AdG _ h2));refine ⟨?_,by simp[cutL,e,h2],by simp[cutR,e,h3]⟩;simp only[Lib.indexByte,h1];rw[if_neg (by simpa using e),if_pos (by decide)]
def index1_spec (s:List UInt8) (c:UInt8) (hs:s.length<=9223372036854775807):Ctr TP G 201 [.d (S s),.d (S [c])] [] (.d (.int .i64 (Lib.indexByte s c))) []:=by
 refine Ctr.pure (M:=M0) Al Tryz.func201 rfl AaM ?_;simp(disch:=(try simp only[Ad]);omega)only[Ag,Tryz.f201,↓Ac,Ae,↓reduceIte,↓reduceDIte,↓Qe,Qu,Qv,Qw,Qx,Qy,Qz,QA,QB,QC,QD,QE,QF,QG,QH,QI,QK];refine ⟨fun h=>?_,fun h=>?_⟩;·rw[<-h];simp[Lib.indexByte]
 refine Ab.pure (indexByte_spec s c) ?_;simp(disch:=(try simp only[Ad]);omega)only[Ag,↓Ac,Ae,↓reduceIte,↓reduceDIte,↓Qe,Qu,Qv,Qw,Qx,Qy,Qz,QA,QB,QC,QD,QE,QF,QG,QH,QI,QK]
def cutS_spec (s:List UInt8) (c:UInt8) (hs:s.length<=9223372036854775807):Ctr TP G 170 [.d (S s),.d (S [c])] [] (.d (.tup [S (cutL c s),S (cutR c s),.bool (decide (c∈s))])) []:=by
 refine Ctr.pure (M:=M0) Al Tryz.func170 rfl AaP ?_;simp(disch:=(try simp only[Ad]);omega)only[Ag,Tryz.f170,↓Ac,Ae,↓reduceIte,↓reduceDIte,↓Qe,Qu,Qv,Qw,Qx,Qy,Qz,QA,QB,QC,QD,QE,QF,QG,QH,QI,QK];refine Ab.pure (index1_spec s c hs) ?_;obtain ⟨i1,i2⟩:=cut_index c s;by_cases h:c∈s;·obtain ⟨k,h1,h2,h3,h4⟩:=i1 h;rw[h1,decide_eq_true h,<-h3,<-h4];simp(disch:=(try simp only[Ad]);omega)only[Ag,↓Ac,Ae,↓reduceIte,↓reduceDIte,↓Qe,Qu,Qv,Qw,Qx,Qy,Qz,QA,QB,QC,QD,QE,QF,QG,QH,QI,QK];rfl
 obtain ⟨h1,h3,h4⟩:=i2 h;rw[h1,decide_eq_false h,h3,h4];simp(disch:=(try simp only[Ad]);omega)only[Ag,↓Ac,Ae,↓reduceIte,↓reduceDIte,↓Qe,Qu,Qv,Qw,Qx,Qy,Qz,QA,QB,QC,QD,QE,QF,QG,QH,QI,QK]
def cut_spec (s:List UInt8) (c:UInt8) (hs:s.length<=9223372036854775807):Ctr TP G 133 [.d (S s),.d (S [c])] [] (.d (.tup [S (cutL c s),S (cutR c s),.bool (decide (c∈s))])) []:=by refine Ctr.pure (M:=M0) Al Tryz.func133 rfl AaQ ?_;simp(disch:=(try simp only[Ad]);omega)only[Ag,Tryz.f133,↓Ac,Ae,↓reduceIte,↓reduceDIte,↓Qe,Qu,Qv,Qw,Qx,Qy,Qz,QA,QB,QC,QD,QE,QF,QG,QH,QI,QK];refine Ab.pure (cutS_spec s c hs) ?_;simp(disch:=(try simp only[Ad]);omega)only[Ag,↓Ac,Ae,↓reduceIte,↓reduceDIte,↓Qe,Qu,Qv,Qw,Qx,Qy,Qz,QA,QB,QC,QD,QE,QF,QG,QH,QI,QK]
def setD (l:List UInt8):List D:=(Aeh 256).map fun i=>.bool (l.any fun b=>b.toNat == i)
def setB (l:List UInt8):List AV:=(setD l).map .d
def setB_length {l:List UInt8}:(setB l).length=256:=by simp[setB,setD]
def setD_length {l:List UInt8}:(setD l).length=256:=by simp[setD]
def setB_nil:setB []=AbV 256 (.d (.bool false)):=by rfl
def setD_get {l:List UInt8} {c:UInt8} {d:D}:(setD l).getD c.toNat d=.bool (l.contains c):=by
 have hc:=c.toNat_lt;simp only[setD,AbH,Aek,List.getElem?_range (show c.toNat<256 by omega),Ad9,AdV];rw[List.contains_eq_any_beq];refine congrArg (fun f=>D.bool (l.any f)) ?_;funext b;show (b.toNat == c.toNat)=_
 by_cases h:b=c;·subst h;simp
 have:¬b.toNat=c.toNat:=fun e=>h (UInt8.toNat_inj.1 e);have h':¬c=b:=fun e=>h e.symm;rw[beq_eq_false_iff_ne.2 this];exact (beq_eq_false_iff_ne.2 h').symm
def setB_get {l:List UInt8} {c:UInt8} {d:AV}:(setB l).getD c.toNat d=.d (.bool (l.contains c)):=by have hc:=c.toNat_lt;have:=@setD_get l c .nilp;rw[AbH,AbM (by rw[setD_length];omega)] at this;rw[setB,AbH,Aek,AbM (by rw[setD_length];omega)];simp only[AdV] at this;rw[Ad9,AdV,this]
def setB_set {l:List UInt8} {c:UInt8}:(setB l).set c.toNat (.d (.bool true))=setB (l++[c]):=by
 have hc:=c.toNat_lt;apply Aep;·rw[AdB,setB_length,setB_length]
 intro i h1 h2;rw[AdB,setB_length] at h1;rw[List.getElem_set];simp only[setB,setD,List.getElem_map,List.getElem_range,List.any_append,Aeu,List.any_nil,Aev];split;·rename_i e;subst e;simp
 rename_i e;have:(c.toNat == i)=false:=by simpa using e
 rw[this,Aev]
def SWeak_map {fl:List (Option Nat)}:∀ l:List D,SW fl (l.map .d) (l.map .d)
 | []=>by simp[SW]
 | x::l=>by simp only[AbU,SW];exact ⟨by simp[AW],SWeak_map l⟩
def setB_weak {fl:List (Option Nat)} {l:List UInt8}:SW fl (setB l) (setB l)=True:=eq_true (SWeak_map _)
def mem_getDU {α:Type} {l:List α} {i:Nat} {d:α} (h:i<l.length):l.getD i d∈l:=by rw[AbH,AbM h];exact List.getElem_mem h
def setB_two (l:List UInt8):∃ a b cs,setB l=a::b::cs:=by
 have:=@setB_length l
 match h:setB l with
 | []=>rw[h] at this;cases this
 | [_]=>rw[h] at this;cases this
 | a::b::cs=>exact ⟨a,b,cs,rfl⟩
def setB_one {l:List UInt8}:(setB l).all AV.one=true:=by simp[setB,setD,AV.one,D.one]
def setB_seal {H:List Aa} {l:List UInt8}:sealL H (setB l)=some (setD l):=by
 have:∀ m:List D,sealL H (m.map .d)=some m:=fun m=>by
  induction m with
  | nil=>rfl
  | cons x m ih=>simp only[AbU,sealL,sealA,ih]
 exact this _
def setB_refs {l:List UInt8}:refsL (setB l)=[]:=by
 have:∀ m:List D,refsL (m.map .d)=[]:=fun m=>by
  induction m with
  | nil=>rfl
  | cons x m ih=>simp only[AbU,refsL,EP,ih,AdK]
 exact this _
def setB_pass {H:List Aa} {L:List Nat} {l:List UInt8}:passL H L (setB l)=some (setB l):=by
 have:∀ m:List D,passL H L (m.map .d)=some (m.map .d):=fun m=>by
  induction m with
  | nil=>rfl
  | cons x m ih=>simp only[AbU,passL,passA,ih]
 exact this _
def setB_sids {H:List Aa} {L:List Nat} {l:List UInt8}:sidsL H L (setB l)=[]:=by
 have:∀ m:List D,sidsL H L (m.map .d)=[]:=fun m=>by
  induction m with
  | nil=>rfl
  | cons x m ih=>simp only[AbU,sidsL,sidsA,ih,AdK]
 exact this _
def setB_ren {f:Nat->Nat} {l:List UInt8}:renL f (setB l)=setB l:=by
 have:∀ m:List D,renL f (m.map .d)=m.map .d:=fun m=>by
  induction m with
  | nil=>rfl
  | cons x m ih=>simp only[AbU,renL,renA,ih]
 exact this _
def take_succ_getD {s:List UInt8} {i:Nat} (h:i<s.length):s.take i++[s.getD i 0]=s.take (i+1):=by rw[Ad5,AbM h,AbH,AbM h];rfl
def contains_spec (l:List UInt8) (c:UInt8):Ctr TP G 116 [.ptr 0 0,.d (.int .u8 c.toNat)] [.box (setB l)] (.d (.bool (l.contains c))) [.box (setB l)]:=by have hc:=c.toNat_lt;have hl:=@setB_length l;refine Ctr.body (M:=M0) Al Tryz.func116 rfl AaS ?_;simp(disch:=(try simp only[Ad]);omega)only[Ag,hl,setB_get,Tryz.f116,↓Ac,Ae,↓reduceIte,↓reduceDIte,↓Qe,Qu,Qv,Qw,Qx,Qy,Qz,QA,QB,QC,QD,QE,QF,QG,QH,QI,QK];exact ⟨[some 0],rfl,by simp,by simp[HW,BW,setB_weak],.inl (by simp[AW])⟩
def makeSet_spec (l:List UInt8) (hl:l.length<2^62) (ha:∀ b∈l,b.toNat<128):Ctr TP G 85 [.d (S l)] [] (.d (.tup [.agg (setD l),.bool true])) []:=by
 refine Ctr.pure (M:=M0) Al Tryz.func85 rfl go85 ?_;simp(disch:=(try simp only[Ad]);omega)only[Ag,Tryz.f85,↓Ac,Ae,↓reduceIte,↓reduceDIte,↓Qe,Qu,Qv,Qw,Qx,Qy,Qz,QA,QB,QC,QD,QE,QF,QG,QH,QI,QK];refine As.fr 5 (α:=Nat) (fun i=>l.length-i) (fun i=>[(4,.d (.int .i64 i))]) (fun i=>[.box (setB (l.take i))]) (fun i=>i<=l.length) 0 (Adh _) ?_ ?_;·refine ⟨[some 0],rfl,by simp,by simp[sA,kZ,SW,AW],?_⟩;rw[AdL,setB_nil];simp only[HW,BW,AbO];refine ⟨SWeak_map (AbV 256 (.bool false)),trivial⟩
 intro i hi;have sl:=@setB_length (l.take i);simp only[Cr,AbQ,AbR,reduceIte];rcases AbT i l.length with h1 | h1
 ·have hb:=ha _ (mem_getDU (d:=0) h1);have hs:=take_succ_getD h1;simp(disch:=(try simp only[Ad]);omega)only[Ag,sl,↓Ac,Ae,↓reduceIte,↓reduceDIte,↓Qe,Qu,Qv,Qw,Qx,Qy,Qz,QA,QB,QC,QD,QE,QF,QG,QH,QI,QK];exact ⟨i+1,h1,by simp only;omega,[some 0],rfl,by simp,by simp[sA,kZ,SW,AW],by simp only[HW,BW,AbO];rw[setB_set,hs];exact ⟨by rw[setB_weak];trivial,trivial⟩⟩
 have sl:=@setB_length l;have tk:(setB l).take 256=setB l:=AdJ (by omega);obtain ⟨a,b,cs,e⟩:=setB_two l;have lc:cs.length=254:=by rw[e] at sl;simpa using sl
 have tc:cs.take 254=cs:=AdJ (by omega);have dc:cs.drop cs.length=[]:=Aen;simp(disch:=(try simp only[Ad]);omega)only[Ag,sl,tk,↓Ac,Ae,↓reduceIte,↓reduceDIte,↓Qe,Qu,Qv,Qw,Qx,Qy,Qz,QA,QB,QC,QD,QE,QF,QG,QH,QI,QK];refine ⟨setB_one,?_⟩;have pm:CD (setB l) 0 (setB l)=setB l:=by rw[e];simp only[CD,CD,AdL,AbP,Ael,Ac8,List.drop_succ_cons,dc,AdK]
 first
 | rw[pm,sl,tk]
 | (simp only[CD,CD,AdL,AbP,Ael] at pm;rw[pm,sl,tk])
 simp only[AdF,if_true,sealA,sealL,setB_seal];rfl
def trimL (l s:List UInt8):List UInt8:=s.dropWhile l.contains
def trimR (l s:List UInt8):List UInt8:=(s.reverse.dropWhile l.contains).reverse
def Uj {s:List UInt8} {k:Nat} (h:k<s.length):s.drop k=s.getD k 0::s.drop (k+1):=by rw[Ad3 h,AbH,AbM h];rfl
def Wt {s:List UInt8} {k:Nat}:(s.drop k).getD 0 0=s.getD k 0:=by simp[AbH]
def take_snoc {s:List UInt8} {k:Nat} (h:k<s.length):s.take (k+1)=s.take k++[s.getD k 0]:=(take_succ_getD h).symm
def trimR_snoc {l s:List UInt8} {c:UInt8}:trimR l (s++[c])=if l.contains c then trimR l s else s++[c]:=by simp only[trimR,List.reverse_append,List.reverse_cons,List.reverse_nil,AbP,List.singleton_append,AdO];split<;>simp
def Kv (l s:List UInt8) (hs:s.length<=9223372036854775807):Ctr TP G 86 [.d (S s),.ptr 0 0] [.box (setB l)] (.d (S (trimL l s))) [.box (setB l)]:=by
 refine Ctr.body (M:=M0) Al Tryz.func86 rfl go86 ?_;simp(disch:=(try simp only[Ad]);omega)only[Ag,setB_refs,setB_pass,setB_sids,setB_ren,Tryz.f86,↓Ac,Ae,↓reduceIte,↓reduceDIte,↓Qe,Qu,Qv,Qw,Qx,Qy,Qz,QA,QB,QC,QD,QE,QF,QG,QH,QI,QK];refine As.fr 2 (α:=Nat) (fun k=>s.length-k) (fun k=>[(0,.d (S (s.drop k)))]) (fun _=>[.box (setB l)]) (fun k=>k<=s.length/\trimL l (s.drop k)=trimL l s) 0 ⟨Adh _,by rw[Aeb]⟩ ?_ ?_;·exact ⟨[some 0],rfl,by simp,by simp[sA,kZ,SW,AW],by simp[HW,BW,setB_weak]⟩
 rintro k ⟨hk,ht⟩;simp only[Cr,AbQ,AbR,reduceIte];rcases AbT k s.length with h1 | h1
 ·have hd:=Uj h1;simp(disch:=(try simp only[Ad]);omega)only[Ag,setB_refs,setB_pass,setB_sids,setB_ren,Wt,↓Ac,Ae,↓reduceIte,↓reduceDIte,↓Qe,Qu,Qv,Qw,Qx,Qy,Qz,QA,QB,QC,QD,QE,QF,QG,QH,QI,QK];refine Ab.by (contains_spec l (s.getD k 0)) (by rfl) (by rfl) (AdF _) ?_;cases hc:l.contains (s.getD k 0);·simp(disch:=(try simp only[Ad]);omega)only[Ag,setB_refs,setB_pass,setB_sids,setB_ren,↓Ac,Ae,↓reduceIte,↓reduceDIte,↓Qe,Qu,Qv,Qw,Qx,Qy,Qz,QA,QB,QC,QD,QE,QF,QG,QH,QI,QK];rw[<-ht,trimL,hd,AdO,hc];exact ⟨[some 0],rfl,by simp,by simp[HW,BW,setB_weak],.inl (by simp[AW])⟩
  simp(disch:=(try simp only[Ad]);omega)only[Ag,setB_refs,setB_pass,setB_sids,setB_ren,↓Ac,Ae,↓reduceIte,↓reduceDIte,↓Qe,Qu,Qv,Qw,Qx,Qy,Qz,QA,QB,QC,QD,QE,QF,QG,QH,QI,QK];exact ⟨k+1,⟨h1,by rw[<-ht,trimL,trimL,hd,AdO,hc];rfl⟩,by simp only;omega,[some 0],rfl,by simp,by simp[sA,kZ,SW,AW],by simp[HW,BW,setB_weak]⟩
 simp(disch:=(try simp only[Ad]);omega)only[Ag,setB_refs,setB_pass,setB_sids,setB_ren,↓Ac,Ae,↓reduceIte,↓reduceDIte,↓Qe,Qu,Qv,Qw,Qx,Qy,Qz,QA,QB,QC,QD,QE,QF,QG,QH,QI,QK];have:s.drop k=[]:=AdC h1;rw[<-ht,this];exact ⟨[some 0],rfl,by simp,by simp[HW,BW,setB_weak],.inl (by simp[AW,trimL])⟩
def RE (l s:List UInt8) (hs:s.length<=9223372036854775807):Ctr TP G 87 [.d (S s),.ptr 0 0] [.box (setB l)] (.d (S (trimR l s))) [.box (setB l)]:=by
 refine Ctr.body (M:=M0) Al Tryz.func87 rfl go87 ?_;simp(disch:=(try simp only[Ad]);omega)only[Ag,setB_refs,setB_pass,setB_sids,setB_ren,Tryz.f87,↓Ac,Ae,↓reduceIte,↓reduceDIte,↓Qe,Qu,Qv,Qw,Qx,Qy,Qz,QA,QB,QC,QD,QE,QF,QG,QH,QI,QK];refine As.fr 2 (α:=Nat) (fun k=>k) (fun k=>[(0,.d (S (s.take k)))]) (fun _=>[.box (setB l)]) (fun k=>k<=s.length/\trimR l (s.take k)=trimR l s) s.length ⟨AdF _,by rw[AdD]⟩ ?_ ?_;·exact ⟨[some 0],rfl,by simp,by simp[sA,kZ,SW,AW],by simp[HW,BW,setB_weak]⟩
 rintro k ⟨hk,ht⟩;have lk:(s.take k).length=k:=by rw[Adz];omega
 simp only[Cr,AbQ,AbR,reduceIte];rcases k with _ | k
 ·rw[AdL] at *;simp(disch:=(try simp only[Ad]);omega)only[Ag,setB_refs,setB_pass,setB_sids,setB_ren,↓Ac,Ae,↓reduceIte,↓reduceDIte,↓Qe,Qu,Qv,Qw,Qx,Qy,Qz,QA,QB,QC,QD,QE,QF,QG,QH,QI,QK];rw[<-ht];exact ⟨[some 0],rfl,by simp,by simp[HW,BW,setB_weak],.inl (by simp[AW,trimR])⟩
 have hd:=take_snoc (show k<s.length by omega);have hg:(s.take (k+1)).getD k 0=s.getD k 0:=by rw[AbH,Ad1,if_pos (by omega),<-AbH]
 have hx:(s.take (k+1)).take k=s.take k:=by rw[List.take_take];congr 1;omega
 simp(disch:=(try simp only[Ad]);omega)only[Ag,setB_refs,setB_pass,setB_sids,setB_ren,lk,hg,↓Ac,Ae,↓reduceIte,↓reduceDIte,↓Qe,Qu,Qv,Qw,Qx,Qy,Qz,QA,QB,QC,QD,QE,QF,QG,QH,QI,QK];refine Ab.by (contains_spec l (s.getD k 0)) (by rfl) (by rfl) (AdF _) ?_;cases hc:l.contains (s.getD k 0);·simp(disch:=(try simp only[Ad]);omega)only[Ag,setB_refs,setB_pass,setB_sids,setB_ren,↓Ac,Ae,↓reduceIte,↓reduceDIte,↓Qe,Qu,Qv,Qw,Qx,Qy,Qz,QA,QB,QC,QD,QE,QF,QG,QH,QI,QK];rw[<-ht,hd,trimR_snoc,hc];exact ⟨[some 0],rfl,by simp,by simp[HW,BW,setB_weak],.inl (by simp[AW])⟩
 simp(disch:=(try simp only[Ad]);omega)only[Ag,setB_refs,setB_pass,setB_sids,setB_ren,lk,hx,↓Ac,Ae,↓reduceIte,↓reduceDIte,↓Qe,Qu,Qv,Qw,Qx,Qy,Qz,QA,QB,QC,QD,QE,QF,QG,QH,QI,QK];exact ⟨k,⟨by omega,by rw[<-ht,hd,trimR_snoc,hc];rfl⟩,by simp only;omega,[some 0],rfl,by simp,by simp[sA,kZ,SW,AW],by simp[HW,BW,setB_weak]⟩
def setB_fold {l:List UInt8}:(setD l).map AV.d=setB l:=rfl
def setB_putL {L:List AV} {l:List UInt8} (h:L.length=256):CD L 0 ((setD l).map AV.d)=setB l:=by rw[setB_fold];obtain ⟨a,b,cs,e⟩:=setB_two l;have q:=@setB_length l;rw[e] at q ⊢;have hd:L.drop (0+(a::b::cs).length)=[]:=AdC (by omega);simp only[CD,hd,AdL,AbP,AdK]
abbrev fb4 (l:List AV):List AV:=.d (.bool false)::.d (.bool false)::.d (.bool false)::.d (.bool false)::l
abbrev fb16 (l:List AV):List AV:=fb4 (fb4 (fb4 (fb4 l)))
abbrev fb64 (l:List AV):List AV:=fb16 (fb16 (fb16 (fb16 l)))
def setB_putL' {l:List UInt8}:CD (fb64 (fb64 (fb64 (fb64 [])))) 0 (setB l)=setB l:=setB_putL rfl
def trim_spec (s l:List UInt8) (hs:s.length<=9223372036854775807) (hl:l.length<2^62) (h2:2<=l.length) (ha:∀ b∈l,b.toNat<128):Ctr TP G 48 [.d (S s),.d (S l)] [] (.d (S (trimL l (trimR l s)))) []:=by
 refine Ctr.pure (M:=M0) Al Tryz.func48 rfl go48 ?_;have q:=@setB_length l;have tr:(trimR l s).length<=s.length:=by simp only[trimR,List.length_reverse];exact AdZ (List.dropWhile_sublist _).length_le (by simp)
 simp(disch:=(try simp only[Ad]);omega)only[Ag,setB_refs,setB_pass,setB_sids,setB_ren,Tryz.f48,↓Ac,Ae,↓reduceIte,↓reduceDIte,↓Qe,Qu,Qv,Qw,Qx,Qy,Qz,QA,QB,QC,QD,QE,QF,QG,QH,QI,QK];refine ⟨fun h=>⟨fun h3=>?_,fun h3=>?_⟩,fun h=>?_⟩;·subst h3;simp at h2
 ·refine Ab.pure (makeSet_spec l hl ha) ?_;have tk:(setD l).take 256=setD l:=AdJ (by rw[setD_length];omega);simp(disch:=(try simp only[Ad]);omega)only[Ag,↓ setB_putL',setB_putL',setB_fold,q,setB_refs,setB_pass,setB_sids,setB_ren,↓Ac,Ae,↓reduceIte,↓reduceDIte,↓Qe,Qu,Qv,Qw,Qx,Qy,Qz,QA,QB,QC,QD,QE,QF,QG,QH,QI,QK];refine ⟨setB_one,?_⟩;refine Ab.by (RE l s hs) (by rfl) (by rfl) (AdF _) ?_;simp(disch:=(try simp only[Ad]);omega)only[Ag,setB_fold,setB_refs,setB_pass,setB_sids,setB_ren,↓Ac,Ae,↓reduceIte,↓reduceDIte,↓Qe,Qu,Qv,Qw,Qx,Qy,Qz,QA,QB,QC,QD,QE,QF,QG,QH,QI,QK];refine Ab.by (Kv l (trimR l s) (by omega)) (by rfl) (by rfl) (AdF _) ?_;simp(disch:=(try simp only[Ad]);omega)only[Ag,setB_fold,setB_refs,setB_pass,setB_sids,setB_ren,↓Ac,Ae,↓reduceIte,↓reduceDIte,↓Qe,Qu,Qv,Qw,Qx,Qy,Qz,QA,QB,QC,QD,QE,QF,QG,QH,QI,QK]
 subst h;rfl
def Ft {l:List UInt8} {p:UInt8->Bool}:l.dropWhile p=[]↔l.all p=true:=by
 induction l with
 | nil=>simp
 | cons b l ih =>rw[AdO,List.all_cons];cases h:p b<;>simp[ih]
def RA {l s:List UInt8}:trimL l (trimR l s)=[]↔s.all l.contains=true:=by
 rw[trimL,Ft,trimR];rw[Ad7];constructor
 ·intro h;by_cases e:s.reverse.dropWhile l.contains=[];·have:=Ft.1 e;rwa[Ad7] at this
  exfalso;have h1:=List.head_dropWhile_not l.contains e;have h2:=AdN.1 h _ (List.head_mem e);rw[h1] at h2;cases h2
 intro h;have:s.reverse.dropWhile l.contains=[]:=Ft.2 (by rwa[Ad7]);rw[this];rfl
abbrev Hg:List UInt8:=[48,49,50,51,52,53,54,55,56,57]
def digB (s:List UInt8) (m:Int):Bool:=decide (1<=s.length/\(s.length:Int)<=m) && s.all Hg.contains
def Fc (s:List UInt8) (m:Int) (hs:s.length<=9223372036854775807):Ctr TP G 134 [.d (S s),.d (.int .i64 m)] [] (.d (.bool (digB s m))) []:=by
 refine Ctr.pure (M:=M0) Al Tryz.func134 rfl AcL ?_;simp(disch:=(try simp only[Ad]);omega)only[Ag,Tryz.f134,↓Ac,Ae,↓reduceIte,↓reduceDIte,↓Qe,Qu,Qv,Qw,Qx,Qy,Qz,QA,QB,QC,QD,QE,QF,QG,QH,QI,QK];refine ⟨fun h1=>⟨fun h2=>?_,fun h2=>?_⟩,fun h1=>?_⟩
 ·refine Ab.pure (trim_spec s Hg hs (by decide) (by decide) (by decide)) ?_;simp(disch:=(try simp only[Ad]);omega)only[Ag,↓Ac,Ae,↓reduceIte,↓reduceDIte,↓Qe,Qu,Qv,Qw,Qx,Qy,Qz,QA,QB,QC,QD,QE,QF,QG,QH,QI,QK];rw[digB,decide_eq_true (show 1<=s.length/\(s.length:Int)<=m by omega),AdH];cases h:s.all Hg.contains;·rw[decide_eq_false fun e=>by rw[RA,h] at e;cases e]
  rw[decide_eq_true (RA.2 h)]
 ·rw[digB,decide_eq_false (by omega)];rfl
 rw[digB,decide_eq_false (by omega)];rfl
def P8 (s:List UInt8):Bool:=hasP s [45]
def decBody (s:List UInt8):List UInt8:=if hasP s [45] then s.drop 1 else if hasP s [43] then s.drop 1 else s
def decF (s:List UInt8):List UInt8:=cutL 46 (decBody s)
def decB (s:List UInt8):List UInt8:=cutR 46 (decBody s)
def decOk (s:List UInt8):Bool:=digB (decF s) 15 && (!decide (46∈decBody s) || digB (decB s) 9)
def AC (l:List UInt8):Nat:=l.foldl (fun v b=>v*10+(b.toNat-48)) 0
def YL (s:List UInt8):Rat:=Rat.divInt (if P8 s then -(AC (decF s++decB s):Int) else (AC (decF s++decB s):Int)) ((10^(decB s).length:Nat):Int)
def Fg {l:List UInt8} {i:Nat} (h:i<l.length):AC (l.take i)*10+((l.getD i 0).toNat-48)=AC (l.take (i+1)):=by rw[take_snoc h,AC,AC,List.foldl_append];rfl
def SG {c:UInt8}:∀ s:List UInt8,(cutL c s).length<=s.length
 | []=>AdF _
 | b::l=>by have:=SG (c:=c) l;rw[cutL];split<;>simp;exact this
def OK {c:UInt8} {s:List UInt8} (h:c∉s):cutR c s=[]:=((cut_index c s).2 h).2.2
def SD {c:UInt8}:∀ s:List UInt8,(cutR c s).length<=s.length
 | []=>AdF _
 | b::l=>by have:=SD (c:=c) l;rw[cutR];split<;>simp;omega
def dig_range {b:UInt8} (h:Hg.contains b=true):48<=b.toNat/\b.toNat<=57:=by
 have:b∈Hg:=by simpa using h
 simp only[Hg,AdP,Aeo,or_false] at this;rcases this with rfl | rfl | rfl | rfl | rfl | rfl | rfl | rfl | rfl | rfl<;>decide
def Dx {l:List UInt8} (h:∀ b∈l,Hg.contains b=true):AC l<10^l.length:=by
 have key:∀ (l:List UInt8) (v:Nat),(∀ b∈l,Hg.contains b=true)->l.foldl (fun v b=>v*10+(b.toNat-48)) v<(v+1)*10^l.length:=by
  intro l;induction l with
  | nil=>intro v _;simp
  | cons b l ih =>intro v hl;have hb:=dig_range (hl b (Aej ..));have:=ih (v*10+(b.toNat-48)) (fun c hc=>hl c (AdG _ hc));rw[List.foldl_cons,Ac8,Ad0];refine AbS this ?_;rw[Nat.mul_comm (10^l.length) 10,<-Nat.mul_assoc];exact Nat.mul_le_mul_right _ (by omega)
 have:=key l 0 h;rw[Ael,Aey] at this;exact this
def cells_nums {l:List UInt8}:(l.map fun b=>D.int .u8 (b.toNat:Int))=Au .u8 (AM l):=by simp[Au,AM]
def Ff {s:List UInt8} (h:decOk s=true):(∀ b∈decF s++decB s,Hg.contains b=true)/\(decF s++decB s).length<=24/\(decB s).length<=9:=by
 unfold decOk at h;rw[AdW,Bool.or_eq_true] at h;obtain ⟨h1,h2⟩:=h;unfold digB at h1;rw[AdW,decide_eq_true_eq] at h1;have hb:(decB s).length<=9/\∀ b∈decB s,Hg.contains b=true:=by
  rcases h2 with h2 | h2
  ·have e:decB s=[]:=OK (by simpa using h2);rw[e];exact ⟨by simp,fun b hb=>by cases hb⟩
  unfold digB at h2;rw[AdW,decide_eq_true_eq] at h2;exact ⟨by omega,fun b hb=>AdN.1 h2.2 b hb⟩
 refine ⟨fun b hb'=>?_,by rw[AbZ];omega,hb.1⟩;rcases Aer.1 hb' with h | h
 ·exact AdN.1 h1.2 b h
 exact hb.2 b h
def C3:toW 10=[10]:=by rw[E4 (by decide),show 10 / B=0 from rfl,Bs];rfl
def B1 {n k:Nat} (h:n<10^k):(toW n).length<=k:=D3 (AbS h (Nat.pow_le_pow_left (by decide) _))
def Vm (c:UInt8):∀ s:List UInt8,(cutL c s).length+(cutR c s).length<=s.length
 | []=>by simp[cutL,cutR]
 | b::l=>by
   have ih:=Vm c l;rw[cutL,cutR];by_cases e:b=c;·rw[if_pos e,if_pos e,Ac8,AdE];omega
   rw[if_neg e,if_neg e,Ac8,Ac8];omega
def decimalF_spec (hG:HG G) (s:List UInt8) (hs:s.length<=9223372036854775807):Ctr TP G 102 [.d (S s)] [] (.d (.tup [if decOk s=true then Frac (YL s) else Zf,.bool (decOk s)])) []:=by
 have hG':=hG;unfold HG at hG;refine Ctr.pure (M:=M0) Al Tryz.func102 rfl Ac3 ?_;simp(disch:=(try simp only[Ad]);omega)only[Ag,Tryz.f102,↓Ac,Ae,↓reduceIte,↓reduceDIte,↓Qe,Qu,Qv,Qw,Qx,Qy,Qz,QA,QB,QC,QD,QE,QF,QG,QH,QI,QK];refine Ab.pure (cutPrefix_spec s [45]) ?_;have hbody:(decBody s).length<=s.length:=by
  unfold decBody;split;·simp
  split<;>simp
 have lsum:=Vm 46 (decBody s);have l1:=SG (c:=46) (decBody s);have l2:=SD (c:=46) (decBody s);have hno:decide (46∈decBody s)=false->decB s=[]:=fun h=>OK (of_decide_eq_false h);have hok:decOk s=(digB (decF s) 15 && (!decide (46∈decBody s) || digB (decB s) 9)):=rfl;have hdv:YL s=Rat.divInt (if P8 s then -(AC (decF s++decB s):Int) else (AC (decF s++decB s):Int)) ((10^(decB s).length:Nat):Int):=rfl;have f1:cutL 46 (decBody s)=decF s:=rfl;have f2:cutR 46 (decBody s)=decB s:=rfl;rw[f1] at l1;rw[f2] at l2;rw[f1,f2] at lsum;cases h45:hasP s [45]
 ·simp(disch:=(try simp only[Ad]);omega)only[Ag,↓Ac,Ae,↓reduceIte,↓reduceDIte,↓Qe,Qu,Qv,Qw,Qx,Qy,Qz,QA,QB,QC,QD,QE,QF,QG,QH,QI,QK];refine Ab.pure (KX s [43]) ?_;have eb:(if hasP s [43] then s.drop ([43]:List UInt8).length else s)=decBody s:=by rw[decBody,h45];rfl
  have en:P8 s=false:=h45;rw[eb];rw[en] at hdv;simp(disch:=(try simp only[Ad]);omega)only[Ag,↓Ac,Ae,↓reduceIte,↓reduceDIte,↓Qe,Qu,Qv,Qw,Qx,Qy,Qz,QA,QB,QC,QD,QE,QF,QG,QH,QI,QK];refine Ab.pure (cut_spec (decBody s) 46 (by omega)) ?_;rw[f1,f2];simp(disch:=(try simp only[Ad]);omega)only[Ag,↓Ac,Ae,↓reduceIte,↓reduceDIte,↓Qe,Qu,Qv,Qw,Qx,Qy,Qz,QA,QB,QC,QD,QE,QF,QG,QH,QI,QK];refine Ab.pure (Fc (decF s) 15 (by omega)) ?_;cases d1:digB (decF s) 15;·rw[hok,d1,AdI];simp(disch:=(try simp only[Ad]);omega)only[Ag,↓Ac,Ae,↓reduceIte,↓reduceDIte,↓Qe,Qu,Qv,Qw,Qx,Qy,Qz,QA,QB,QC,QD,QE,QF,QG,QH,QI,QK];first | done | rfl
  rw[d1,AdH] at hok;cases dp:decide (46∈decBody s)
  ·rw[dp,Aec,Aem] at hok;obtain ⟨hall,hlen,hlb⟩:=Ff hok;have hsm:∀ i,i<=(decF s++decB s).length->(toW (AC ((decF s++decB s).take i))).length<=30:=fun i hi=>by
    have h:=Dx (l:=(decF s++decB s).take i) fun b hb=>hall b (Adt hb);exact B1 (AbS h (Adu (by decide) (by rw[Adz];omega)))
   have hlt:∀ i,i<=(decF s++decB s).length->AC ((decF s++decB s).take i)*10<10^30:=fun i hi=>by have h:=Dx (l:=(decF s++decB s).take i) fun b hb=>hall b (Adt hb);have h2:10^((decF s++decB s).take i).length<=10^29:=Adu (by decide) (by rw[Adz];omega);have h3:(10:Nat)^30=10^29*10:=rfl;omega
   rw[if_pos hok,hok];generalize hL:decF s++decB s=L at *;simp(disch:=(try simp only[Ad]);omega)only[hG,Ag,↓Ac,Ae,↓reduceIte,↓reduceDIte,↓Qe,Qu,Qv,Qw,Qx,Qy,Qz,QA,QB,QC,QD,QE,QF,QG,QH,QI,QK];refine Ab.of (EX [1] (by decide)) (by rfl) ?_;simp(disch:=(try simp only[Ad]);omega)only[hG,Ag,hL,cells_nums,↓Ac,Ae,↓reduceIte,↓reduceDIte,↓Qe,Qu,Qv,Qw,Qx,Qy,Qz,QA,QB,QC,QD,QE,QF,QG,QH,QI,QK];refine As.fr 422212465069220 (α:=Nat) (fun i=>L.length-i) (fun i=>[(9,.d (W (toW (AC (L.take i))))),(49,.d (.int .i64 i))])
    (fun _=>[.box [.d (.bool false),.d (.sl 0 true []),.d (.bool false),.d (.sl 0 true [])],.row true (AY .u32 [10]),.row false (Au .u8 (AM L))]) (fun i=>i<=L.length) 0 (Adh _) ?_ ?_
   ·exact ⟨[some 0,some 1,some 2],rfl,by simp,by simp[sA,kZ,SW,AW,AC,Bs,AY],by simp[HW,BW,SW,AW,AY]⟩
   intro i hi;have lt:=hsm i hi;have nl:=@Bw L;simp only[Cr,AbQ,AbR,reduceIte];rcases AbT i L.length with h1 | h1
   ·have hb:=dig_range (hall _ (mem_getDU (d:=0) h1));have hp:=Fg h1;have ls:=B1 (n:=(L.getD i 0).toNat-48) (k:=2) (by omega);have e48:((L.getD i 0).toNat:Int)-48=(((L.getD i 0).toNat-48:Nat):Int):=(by omega)
    have lm:(toW (AC (L.take i)*10)).length<=40:=B1 (AbS (hlt i hi) (by decide));simp(disch:=(try simp only[Ad]);omega)only[hG,Ag,nl,↓Ac,Ae,↓reduceIte,↓reduceDIte,↓Qe,Qu,Qv,Qw,Qx,Qy,Qz,QA,QB,QC,QD,QE,QF,QG,QH,QI,QK];refine Ab.frozenE (CM (AC (L.take i)) 10 (by omega) (by rw[C3];decide)) (by rw[C3];rfl) ?_;simp(disch:=(try simp only[Ad]);omega)only[hG,Ag,nl,e48,↓Ac,Ae,↓reduceIte,↓reduceDIte,↓Qe,Qu,Qv,Qw,Qx,Qy,Qz,QA,QB,QC,QD,QE,QF,QG,QH,QI,QK];refine Ab.pure (EE ((L.getD i 0).toNat-48) (by omega)) ?_;simp(disch:=(try simp only[Ad]);omega)only[hG,Ag,nl,↓Ac,Ae,↓reduceIte,↓reduceDIte,↓Qe,Qu,Qv,Qw,Qx,Qy,Qz,QA,QB,QC,QD,QE,QF,QG,QH,QI,QK];refine Ab.pure (HM (AC (L.take i)*10) ((L.getD i 0).toNat-48) (by omega) (by omega)) ?_;rw[hp];simp(disch:=(try simp only[Ad]);omega)only[hG,Ag,nl,↓Ac,Ae,↓reduceIte,↓reduceDIte,↓Qe,Qu,Qv,Qw,Qx,Qy,Qz,QA,QB,QC,QD,QE,QF,QG,QH,QI,QK];exact ⟨i+1,h1,by simp only;omega,⟨[some 0,some 1,some 2],rfl,by simp,by simp[sA,kZ,SW,AW],by simp[HW,BW,SW,AW]⟩⟩
   obtain rfl:i=L.length:=by omega
   rw[AdD] at *;simp(disch:=(try simp only[Ad]);omega)only[hG,Ag,nl,↓Ac,Ae,↓reduceIte,↓reduceDIte,↓Qe,Qu,Qv,Qw,Qx,Qy,Qz,QA,QB,QC,QD,QE,QF,QG,QH,QI,QK];refine As.fr 9223372036854777380 (α:=Nat) (fun j=>(decB s).length-j) (fun j=>[(11,.d (W (toW (10^j)))),(64,.d (.int .i64 j))])
    (fun _=>[.box [.d (.bool false),.d (.sl 0 true []),.d (.bool false),.d (.sl 0 true [])],.row true (AY .u32 [10]),.row false (Au .u8 (AM L))]) (fun j=>j<=(decB s).length) 0 (Adh _) ?_ ?_
   ·exact ⟨[some 0,some 1,some 2],rfl,by simp,by simp[sA,kZ,SW,AW,Lu],by simp[HW,BW,SW,AW,AY]⟩
   intro j hj;have lj:(toW (10^j)).length<=10:=B1 (AdM (by decide) (by omega));simp only[Cr,AbQ,AbR,reduceIte];rcases AbT j (decB s).length with h2 | h2
   ·simp(disch:=(try simp only[Ad]);omega)only[hG,Ag,↓Ac,Ae,↓reduceIte,↓reduceDIte,↓Qe,Qu,Qv,Qw,Qx,Qy,Qz,QA,QB,QC,QD,QE,QF,QG,QH,QI,QK];refine Ab.frozenE (CM (10^j) 10 (by omega) (by rw[C3];decide)) (by rw[C3];rfl) ?_;rw[<-Ad0];simp(disch:=(try simp only[Ad]);omega)only[hG,Ag,↓Ac,Ae,↓reduceIte,↓reduceDIte,↓Qe,Qu,Qv,Qw,Qx,Qy,Qz,QA,QB,QC,QD,QE,QF,QG,QH,QI,QK];exact ⟨j+1,h2,by simp only;omega,⟨[some 0,some 1,some 2],rfl,by simp,by simp[sA,kZ,SW,AW],by simp[HW,BW,SW,AW]⟩⟩
   obtain rfl:j=(decB s).length:=by omega
   have hd0:((10^(decB s).length:Nat):Int)≠0:=(by have:0<10^(decB s).length:=Aed (by decide);omega);simp(disch:=(try simp only[Ad]);omega)only[hG,Ag,↓Ac,Ae,↓reduceIte,↓reduceDIte,↓Qe,Qu,Qv,Qw,Qx,Qy,Qz,QA,QB,QC,QD,QE,QF,QG,QH,QI,QK];refine Ab.pure (B7 false (AC L) (by omega)) ?_;simp(disch:=(try simp only[Ad]);omega)only[hG,Ag,↓Ac,Ae,↓reduceIte,↓reduceDIte,↓Qe,Qu,Qv,Qw,Qx,Qy,Qz,QA,QB,QC,QD,QE,QF,QG,QH,QI,QK];refine Ab.pure (B7 false (10^(decB s).length) (by omega)) ?_;simp(disch:=(try simp only[Ad]);omega)only[hG,Ag,↓Ac,Ae,↓reduceIte,↓reduceDIte,↓Qe,Qu,Qv,Qw,Qx,Qy,Qz,QA,QB,QC,QD,QE,QF,QG,QH,QI,QK];refine Ab.of (ED (if false=true then -(AC L:Int) else (AC L:Int)) ((10^(decB s).length:Nat):Int) hd0 (by simp only[sz];split<;>simp<;>omega) (by simp only[sz,AdQ];omega)) (by rfl) ?_;rw[<-hdv];simp(disch:=(try simp only[Ad]);omega)only[hG,Ag,↓Ac,Ae,↓reduceIte,↓reduceDIte,↓Qe,Qu,Qv,Qw,Qx,Qy,Qz,QA,QB,QC,QD,QE,QF,QG,QH,QI,QK];first | done | rfl
  rw[dp,Aew,Aeg] at hok;simp(disch:=(try simp only[Ad]);omega)only[Ag,↓Ac,Ae,↓reduceIte,↓reduceDIte,↓Qe,Qu,Qv,Qw,Qx,Qy,Qz,QA,QB,QC,QD,QE,QF,QG,QH,QI,QK];refine Ab.pure (Fc (decB s) 9 (by omega)) ?_;cases d2:digB (decB s) 9;·rw[hok,d2];simp(disch:=(try simp only[Ad]);omega)only[Ag,↓Ac,Ae,↓reduceIte,↓reduceDIte,↓Qe,Qu,Qv,Qw,Qx,Qy,Qz,QA,QB,QC,QD,QE,QF,QG,QH,QI,QK];first | done | rfl
  rw[d2] at hok;obtain ⟨hall,hlen,hlb⟩:=Ff hok;have hsm:∀ i,i<=(decF s++decB s).length->(toW (AC ((decF s++decB s).take i))).length<=30:=fun i hi=>by have h:=Dx (l:=(decF s++decB s).take i) fun b hb=>hall b (Adt hb);exact B1 (AbS h (Adu (by decide) (by rw[Adz];omega)))
  have hlt:∀ i,i<=(decF s++decB s).length->AC ((decF s++decB s).take i)*10<10^30:=fun i hi=>by have h:=Dx (l:=(decF s++decB s).take i) fun b hb=>hall b (Adt hb);have h2:10^((decF s++decB s).take i).length<=10^29:=Adu (by decide) (by rw[Adz];omega);have h3:(10:Nat)^30=10^29*10:=rfl;omega
  rw[if_pos hok,hok];generalize hL:decF s++decB s=L at *;simp(disch:=(try simp only[Ad]);omega)only[hG,Ag,↓Ac,Ae,↓reduceIte,↓reduceDIte,↓Qe,Qu,Qv,Qw,Qx,Qy,Qz,QA,QB,QC,QD,QE,QF,QG,QH,QI,QK];refine Ab.of (EX [1] (by decide)) (by rfl) ?_;simp(disch:=(try simp only[Ad]);omega)only[hG,Ag,hL,cells_nums,↓Ac,Ae,↓reduceIte,↓reduceDIte,↓Qe,Qu,Qv,Qw,Qx,Qy,Qz,QA,QB,QC,QD,QE,QF,QG,QH,QI,QK];refine As.fr 422212465069220 (α:=Nat) (fun i=>L.length-i) (fun i=>[(9,.d (W (toW (AC (L.take i))))),(49,.d (.int .i64 i))])
   (fun _=>[.box [.d (.bool false),.d (.sl 0 true []),.d (.bool false),.d (.sl 0 true [])],.row true (AY .u32 [10]),.row false (Au .u8 (AM L))]) (fun i=>i<=L.length) 0 (Adh _) ?_ ?_
  ·exact ⟨[some 0,some 1,some 2],rfl,by simp,by simp[sA,kZ,SW,AW,AC,Bs,AY],by simp[HW,BW,SW,AW,AY]⟩
  intro i hi;have lt:=hsm i hi;have nl:=@Bw L;simp only[Cr,AbQ,AbR,reduceIte];rcases AbT i L.length with h1 | h1
  ·have hb:=dig_range (hall _ (mem_getDU (d:=0) h1));have hp:=Fg h1;have ls:=B1 (n:=(L.getD i 0).toNat-48) (k:=2) (by omega);have e48:((L.getD i 0).toNat:Int)-48=(((L.getD i 0).toNat-48:Nat):Int):=(by omega)
   have lm:(toW (AC (L.take i)*10)).length<=40:=B1 (AbS (hlt i hi) (by decide));simp(disch:=(try simp only[Ad]);omega)only[hG,Ag,nl,↓Ac,Ae,↓reduceIte,↓reduceDIte,↓Qe,Qu,Qv,Qw,Qx,Qy,Qz,QA,QB,QC,QD,QE,QF,QG,QH,QI,QK];refine Ab.frozenE (CM (AC (L.take i)) 10 (by omega) (by rw[C3];decide)) (by rw[C3];rfl) ?_;simp(disch:=(try simp only[Ad]);omega)only[hG,Ag,nl,e48,↓Ac,Ae,↓reduceIte,↓reduceDIte,↓Qe,Qu,Qv,Qw,Qx,Qy,Qz,QA,QB,QC,QD,QE,QF,QG,QH,QI,QK];refine Ab.pure (EE ((L.getD i 0).toNat-48) (by omega)) ?_;simp(disch:=(try simp only[Ad]);omega)only[hG,Ag,nl,↓Ac,Ae,↓reduceIte,↓reduceDIte,↓Qe,Qu,Qv,Qw,Qx,Qy,Qz,QA,QB,QC,QD,QE,QF,QG,QH,QI,QK];refine Ab.pure (HM (AC (L.take i)*10) ((L.getD i 0).toNat-48) (by omega) (by omega)) ?_;rw[hp];simp(disch:=(try simp only[Ad]);omega)only[hG,Ag,nl,↓Ac,Ae,↓reduceIte,↓reduceDIte,↓Qe,Qu,Qv,Qw,Qx,Qy,Qz,QA,QB,QC,QD,QE,QF,QG,QH,QI,QK];exact ⟨i+1,h1,by simp only;omega,⟨[some 0,some 1,some 2],rfl,by simp,by simp[sA,kZ,SW,AW],by simp[HW,BW,SW,AW]⟩⟩
  obtain rfl:i=L.length:=by omega
  rw[AdD] at *;simp(disch:=(try simp only[Ad]);omega)only[hG,Ag,nl,↓Ac,Ae,↓reduceIte,↓reduceDIte,↓Qe,Qu,Qv,Qw,Qx,Qy,Qz,QA,QB,QC,QD,QE,QF,QG,QH,QI,QK];refine As.fr 9223372036854777380 (α:=Nat) (fun j=>(decB s).length-j) (fun j=>[(11,.d (W (toW (10^j)))),(64,.d (.int .i64 j))])
   (fun _=>[.box [.d (.bool false),.d (.sl 0 true []),.d (.bool false),.d (.sl 0 true [])],.row true (AY .u32 [10]),.row false (Au .u8 (AM L))]) (fun j=>j<=(decB s).length) 0 (Adh _) ?_ ?_
  ·exact ⟨[some 0,some 1,some 2],rfl,by simp,by simp[sA,kZ,SW,AW,Lu],by simp[HW,BW,SW,AW,AY]⟩
  intro j hj;have lj:(toW (10^j)).length<=10:=B1 (AdM (by decide) (by omega));simp only[Cr,AbQ,AbR,reduceIte];rcases AbT j (decB s).length with h2 | h2
  ·simp(disch:=(try simp only[Ad]);omega)only[hG,Ag,↓Ac,Ae,↓reduceIte,↓reduceDIte,↓Qe,Qu,Qv,Qw,Qx,Qy,Qz,QA,QB,QC,QD,QE,QF,QG,QH,QI,QK];refine Ab.frozenE (CM (10^j) 10 (by omega) (by rw[C3];decide)) (by rw[C3];rfl) ?_;rw[<-Ad0];simp(disch:=(try simp only[Ad]);omega)only[hG,Ag,↓Ac,Ae,↓reduceIte,↓reduceDIte,↓Qe,Qu,Qv,Qw,Qx,Qy,Qz,QA,QB,QC,QD,QE,QF,QG,QH,QI,QK];exact ⟨j+1,h2,by simp only;omega,⟨[some 0,some 1,some 2],rfl,by simp,by simp[sA,kZ,SW,AW],by simp[HW,BW,SW,AW]⟩⟩
  obtain rfl:j=(decB s).length:=by omega
  have hd0:((10^(decB s).length:Nat):Int)≠0:=by have:0<10^(decB s).length:=Aed (by decide);omega
  simp(disch:=(try simp only[Ad]);omega)only[hG,Ag,↓Ac,Ae,↓reduceIte,↓reduceDIte,↓Qe,Qu,Qv,Qw,Qx,Qy,Qz,QA,QB,QC,QD,QE,QF,QG,QH,QI,QK];refine Ab.pure (B7 false (AC L) (by omega)) ?_;simp(disch:=(try simp only[Ad]);omega)only[hG,Ag,↓Ac,Ae,↓reduceIte,↓reduceDIte,↓Qe,Qu,Qv,Qw,Qx,Qy,Qz,QA,QB,QC,QD,QE,QF,QG,QH,QI,QK];refine Ab.pure (B7 false (10^(decB s).length) (by omega)) ?_;simp(disch:=(try simp only[Ad]);omega)only[hG,Ag,↓Ac,Ae,↓reduceIte,↓reduceDIte,↓Qe,Qu,Qv,Qw,Qx,Qy,Qz,QA,QB,QC,QD,QE,QF,QG,QH,QI,QK];refine Ab.of (ED (if false=true then -(AC L:Int) else (AC L:Int)) ((10^(decB s).length:Nat):Int) hd0 (by simp only[sz];split<;>simp<;>omega) (by simp only[sz,AdQ];omega)) (by rfl) ?_;rw[<-hdv];simp(disch:=(try simp only[Ad]);omega)only[hG,Ag,↓Ac,Ae,↓reduceIte,↓reduceDIte,↓Qe,Qu,Qv,Qw,Qx,Qy,Qz,QA,QB,QC,QD,QE,QF,QG,QH,QI,QK];first | done | rfl
 have eb:s.drop 1=decBody s:=by rw[decBody,h45];rfl
 have en:P8 s=true:=h45;rw[en] at hdv;simp(disch:=(try simp only[Ad]);omega)only[Ag,eb,↓Ac,Ae,↓reduceIte,↓reduceDIte,↓Qe,Qu,Qv,Qw,Qx,Qy,Qz,QA,QB,QC,QD,QE,QF,QG,QH,QI,QK];refine Ab.pure (cut_spec (decBody s) 46 (by omega)) ?_;rw[f1,f2];simp(disch:=(try simp only[Ad]);omega)only[Ag,↓Ac,Ae,↓reduceIte,↓reduceDIte,↓Qe,Qu,Qv,Qw,Qx,Qy,Qz,QA,QB,QC,QD,QE,QF,QG,QH,QI,QK];refine Ab.pure (Fc (decF s) 15 (by omega)) ?_;cases d1:digB (decF s) 15;·rw[hok,d1,AdI];simp(disch:=(try simp only[Ad]);omega)only[Ag,↓Ac,Ae,↓reduceIte,↓reduceDIte,↓Qe,Qu,Qv,Qw,Qx,Qy,Qz,QA,QB,QC,QD,QE,QF,QG,QH,QI,QK];first | done | rfl
 rw[d1,AdH] at hok;cases dp:decide (46∈decBody s)
 ·rw[dp,Aec,Aem] at hok;obtain ⟨hall,hlen,hlb⟩:=Ff hok;have hsm:∀ i,i<=(decF s++decB s).length->(toW (AC ((decF s++decB s).take i))).length<=30:=fun i hi=>by
   have h:=Dx (l:=(decF s++decB s).take i) fun b hb=>hall b (Adt hb);exact B1 (AbS h (Adu (by decide) (by rw[Adz];omega)))
  have hlt:∀ i,i<=(decF s++decB s).length->AC ((decF s++decB s).take i)*10<10^30:=fun i hi=>by have h:=Dx (l:=(decF s++decB s).take i) fun b hb=>hall b (Adt hb);have h2:10^((decF s++decB s).take i).length<=10^29:=Adu (by decide) (by rw[Adz];omega);have h3:(10:Nat)^30=10^29*10:=rfl;omega
  rw[if_pos hok,hok];generalize hL:decF s++decB s=L at *;simp(disch:=(try simp only[Ad]);omega)only[hG,Ag,↓Ac,Ae,↓reduceIte,↓reduceDIte,↓Qe,Qu,Qv,Qw,Qx,Qy,Qz,QA,QB,QC,QD,QE,QF,QG,QH,QI,QK];refine Ab.of (EX [1] (by decide)) (by rfl) ?_;simp(disch:=(try simp only[Ad]);omega)only[hG,Ag,hL,cells_nums,↓Ac,Ae,↓reduceIte,↓reduceDIte,↓Qe,Qu,Qv,Qw,Qx,Qy,Qz,QA,QB,QC,QD,QE,QF,QG,QH,QI,QK];refine As.fr 422212465069220 (α:=Nat) (fun i=>L.length-i) (fun i=>[(9,.d (W (toW (AC (L.take i))))),(49,.d (.int .i64 i))])
   (fun _=>[.box [.d (.bool false),.d (.sl 0 true []),.d (.bool false),.d (.sl 0 true [])],.row true (AY .u32 [10]),.row false (Au .u8 (AM L))]) (fun i=>i<=L.length) 0 (Adh _) ?_ ?_
  ·exact ⟨[some 0,some 1,some 2],rfl,by simp,by simp[sA,kZ,SW,AW,AC,Bs,AY],by simp[HW,BW,SW,AW,AY]⟩
  intro i hi;have lt:=hsm i hi;have nl:=@Bw L;simp only[Cr,AbQ,AbR,reduceIte];rcases AbT i L.length with h1 | h1
  ·have hb:=dig_range (hall _ (mem_getDU (d:=0) h1));have hp:=Fg h1;have ls:=B1 (n:=(L.getD i 0).toNat-48) (k:=2) (by omega);have e48:((L.getD i 0).toNat:Int)-48=(((L.getD i 0).toNat-48:Nat):Int):=(by omega)
   have lm:(toW (AC (L.take i)*10)).length<=40:=B1 (AbS (hlt i hi) (by decide));simp(disch:=(try simp only[Ad]);omega)only[hG,Ag,nl,↓Ac,Ae,↓reduceIte,↓reduceDIte,↓Qe,Qu,Qv,Qw,Qx,Qy,Qz,QA,QB,QC,QD,QE,QF,QG,QH,QI,QK];refine Ab.frozenE (CM (AC (L.take i)) 10 (by omega) (by rw[C3];decide)) (by rw[C3];rfl) ?_;simp(disch:=(try simp only[Ad]);omega)only[hG,Ag,nl,e48,↓Ac,Ae,↓reduceIte,↓reduceDIte,↓Qe,Qu,Qv,Qw,Qx,Qy,Qz,QA,QB,QC,QD,QE,QF,QG,QH,QI,QK];refine Ab.pure (EE ((L.getD i 0).toNat-48) (by omega)) ?_;simp(disch:=(try simp only[Ad]);omega)only[hG,Ag,nl,↓Ac,Ae,↓reduceIte,↓reduceDIte,↓Qe,Qu,Qv,Qw,Qx,Qy,Qz,QA,QB,QC,QD,QE,QF,QG,QH,QI,QK];refine Ab.pure (HM (AC (L.take i)*10) ((L.getD i 0).toNat-48) (by omega) (by omega)) ?_;rw[hp];simp(disch:=(try simp only[Ad]);omega)only[hG,Ag,nl,↓Ac,Ae,↓reduceIte,↓reduceDIte,↓Qe,Qu,Qv,Qw,Qx,Qy,Qz,QA,QB,QC,QD,QE,QF,QG,QH,QI,QK];exact ⟨i+1,h1,by simp only;omega,⟨[some 0,some 1,some 2],rfl,by simp,by simp[sA,kZ,SW,AW],by simp[HW,BW,SW,AW]⟩⟩
  obtain rfl:i=L.length:=by omega
  rw[AdD] at *;simp(disch:=(try simp only[Ad]);omega)only[hG,Ag,nl,↓Ac,Ae,↓reduceIte,↓reduceDIte,↓Qe,Qu,Qv,Qw,Qx,Qy,Qz,QA,QB,QC,QD,QE,QF,QG,QH,QI,QK];refine As.fr 9223372036854777380 (α:=Nat) (fun j=>(decB s).length-j) (fun j=>[(11,.d (W (toW (10^j)))),(64,.d (.int .i64 j))])
   (fun _=>[.box [.d (.bool false),.d (.sl 0 true []),.d (.bool false),.d (.sl 0 true [])],.row true (AY .u32 [10]),.row false (Au .u8 (AM L))]) (fun j=>j<=(decB s).length) 0 (Adh _) ?_ ?_
  ·exact ⟨[some 0,some 1,some 2],rfl,by simp,by simp[sA,kZ,SW,AW,Lu],by simp[HW,BW,SW,AW,AY]⟩
  intro j hj;have lj:(toW (10^j)).length<=10:=B1 (AdM (by decide) (by omega));simp only[Cr,AbQ,AbR,reduceIte];rcases AbT j (decB s).length with h2 | h2
  ·simp(disch:=(try simp only[Ad]);omega)only[hG,Ag,↓Ac,Ae,↓reduceIte,↓reduceDIte,↓Qe,Qu,Qv,Qw,Qx,Qy,Qz,QA,QB,QC,QD,QE,QF,QG,QH,QI,QK];refine Ab.frozenE (CM (10^j) 10 (by omega) (by rw[C3];decide)) (by rw[C3];rfl) ?_;rw[<-Ad0];simp(disch:=(try simp only[Ad]);omega)only[hG,Ag,↓Ac,Ae,↓reduceIte,↓reduceDIte,↓Qe,Qu,Qv,Qw,Qx,Qy,Qz,QA,QB,QC,QD,QE,QF,QG,QH,QI,QK];exact ⟨j+1,h2,by simp only;omega,⟨[some 0,some 1,some 2],rfl,by simp,by simp[sA,kZ,SW,AW],by simp[HW,BW,SW,AW]⟩⟩
  obtain rfl:j=(decB s).length:=by omega
  have hd0:((10^(decB s).length:Nat):Int)≠0:=by have:0<10^(decB s).length:=Aed (by decide);omega
  simp(disch:=(try simp only[Ad]);omega)only[hG,Ag,↓Ac,Ae,↓reduceIte,↓reduceDIte,↓Qe,Qu,Qv,Qw,Qx,Qy,Qz,QA,QB,QC,QD,QE,QF,QG,QH,QI,QK];refine Ab.pure (B7 true (AC L) (by omega)) ?_;simp(disch:=(try simp only[Ad]);omega)only[hG,Ag,↓Ac,Ae,↓reduceIte,↓reduceDIte,↓Qe,Qu,Qv,Qw,Qx,Qy,Qz,QA,QB,QC,QD,QE,QF,QG,QH,QI,QK];refine Ab.pure (B7 false (10^(decB s).length) (by omega)) ?_;simp(disch:=(try simp only[Ad]);omega)only[hG,Ag,↓Ac,Ae,↓reduceIte,↓reduceDIte,↓Qe,Qu,Qv,Qw,Qx,Qy,Qz,QA,QB,QC,QD,QE,QF,QG,QH,QI,QK];refine Ab.of (ED (if true=true then -(AC L:Int) else (AC L:Int)) ((10^(decB s).length:Nat):Int) hd0 (by simp only[sz];split<;>simp<;>omega) (by simp only[sz,AdQ];omega)) (by rfl) ?_;rw[<-hdv];simp(disch:=(try simp only[Ad]);omega)only[hG,Ag,↓Ac,Ae,↓reduceIte,↓reduceDIte,↓Qe,Qu,Qv,Qw,Qx,Qy,Qz,QA,QB,QC,QD,QE,QF,QG,QH,QI,QK];first | done | rfl
 rw[dp,Aew,Aeg] at hok;simp(disch:=(try simp only[Ad]);omega)only[Ag,↓Ac,Ae,↓reduceIte,↓reduceDIte,↓Qe,Qu,Qv,Qw,Qx,Qy,Qz,QA,QB,QC,QD,QE,QF,QG,QH,QI,QK];refine Ab.pure (Fc (decB s) 9 (by omega)) ?_;cases d2:digB (decB s) 9;·rw[hok,d2];simp(disch:=(try simp only[Ad]);omega)only[Ag,↓Ac,Ae,↓reduceIte,↓reduceDIte,↓Qe,Qu,Qv,Qw,Qx,Qy,Qz,QA,QB,QC,QD,QE,QF,QG,QH,QI,QK];first | done | rfl
 rw[d2] at hok;obtain ⟨hall,hlen,hlb⟩:=Ff hok;have hsm:∀ i,i<=(decF s++decB s).length->(toW (AC ((decF s++decB s).take i))).length<=30:=fun i hi=>by have h:=Dx (l:=(decF s++decB s).take i) fun b hb=>hall b (Adt hb);exact B1 (AbS h (Adu (by decide) (by rw[Adz];omega)))
 have hlt:∀ i,i<=(decF s++decB s).length->AC ((decF s++decB s).take i)*10<10^30:=fun i hi=>by have h:=Dx (l:=(decF s++decB s).take i) fun b hb=>hall b (Adt hb);have h2:10^((decF s++decB s).take i).length<=10^29:=Adu (by decide) (by rw[Adz];omega);have h3:(10:Nat)^30=10^29*10:=rfl;omega
 rw[if_pos hok,hok];generalize hL:decF s++decB s=L at *;simp(disch:=(try simp only[Ad]);omega)only[hG,Ag,↓Ac,Ae,↓reduceIte,↓reduceDIte,↓Qe,Qu,Qv,Qw,Qx,Qy,Qz,QA,QB,QC,QD,QE,QF,QG,QH,QI,QK];refine Ab.of (EX [1] (by decide)) (by rfl) ?_;simp(disch:=(try simp only[Ad]);omega)only[hG,Ag,hL,cells_nums,↓Ac,Ae,↓reduceIte,↓reduceDIte,↓Qe,Qu,Qv,Qw,Qx,Qy,Qz,QA,QB,QC,QD,QE,QF,QG,QH,QI,QK];refine As.fr 422212465069220 (α:=Nat) (fun i=>L.length-i) (fun i=>[(9,.d (W (toW (AC (L.take i))))),(49,.d (.int .i64 i))])
  (fun _=>[.box [.d (.bool false),.d (.sl 0 true []),.d (.bool false),.d (.sl 0 true [])],.row true (AY .u32 [10]),.row false (Au .u8 (AM L))]) (fun i=>i<=L.length) 0 (Adh _) ?_ ?_
 ·exact ⟨[some 0,some 1,some 2],rfl,by simp,by simp[sA,kZ,SW,AW,AC,Bs,AY],by simp[HW,BW,SW,AW,AY]⟩
 intro i hi;have lt:=hsm i hi;have nl:=@Bw L;simp only[Cr,AbQ,AbR,reduceIte];rcases AbT i L.length with h1 | h1
 ·have hb:=dig_range (hall _ (mem_getDU (d:=0) h1));have hp:=Fg h1;have ls:=B1 (n:=(L.getD i 0).toNat-48) (k:=2) (by omega);have e48:((L.getD i 0).toNat:Int)-48=(((L.getD i 0).toNat-48:Nat):Int):=by omega
  have lm:(toW (AC (L.take i)*10)).length<=40:=B1 (AbS (hlt i hi) (by decide));simp(disch:=(try simp only[Ad]);omega)only[hG,Ag,nl,↓Ac,Ae,↓reduceIte,↓reduceDIte,↓Qe,Qu,Qv,Qw,Qx,Qy,Qz,QA,QB,QC,QD,QE,QF,QG,QH,QI,QK];refine Ab.frozenE (CM (AC (L.take i)) 10 (by omega) (by rw[C3];decide)) (by rw[C3];rfl) ?_;simp(disch:=(try simp only[Ad]);omega)only[hG,Ag,nl,e48,↓Ac,Ae,↓reduceIte,↓reduceDIte,↓Qe,Qu,Qv,Qw,Qx,Qy,Qz,QA,QB,QC,QD,QE,QF,QG,QH,QI,QK];refine Ab.pure (EE ((L.getD i 0).toNat-48) (by omega)) ?_;simp(disch:=(try simp only[Ad]);omega)only[hG,Ag,nl,↓Ac,Ae,↓reduceIte,↓reduceDIte,↓Qe,Qu,Qv,Qw,Qx,Qy,Qz,QA,QB,QC,QD,QE,QF,QG,QH,QI,QK];refine Ab.pure (HM (AC (L.take i)*10) ((L.getD i 0).toNat-48) (by omega) (by omega)) ?_;rw[hp];simp(disch:=(try simp only[Ad]);omega)only[hG,Ag,nl,↓Ac,Ae,↓reduceIte,↓reduceDIte,↓Qe,Qu,Qv,Qw,Qx,Qy,Qz,QA,QB,QC,QD,QE,QF,QG,QH,QI,QK];exact ⟨i+1,h1,by simp only;omega,⟨[some 0,some 1,some 2],rfl,by simp,by simp[sA,kZ,SW,AW],by simp[HW,BW,SW,AW]⟩⟩
 obtain rfl:i=L.length:=by omega
 rw[AdD] at *;simp(disch:=(try simp only[Ad]);omega)only[hG,Ag,nl,↓Ac,Ae,↓reduceIte,↓reduceDIte,↓Qe,Qu,Qv,Qw,Qx,Qy,Qz,QA,QB,QC,QD,QE,QF,QG,QH,QI,QK];refine As.fr 9223372036854777380 (α:=Nat) (fun j=>(decB s).length-j) (fun j=>[(11,.d (W (toW (10^j)))),(64,.d (.int .i64 j))])
  (fun _=>[.box [.d (.bool false),.d (.sl 0 true []),.d (.bool false),.d (.sl 0 true [])],.row true (AY .u32 [10]),.row false (Au .u8 (AM L))]) (fun j=>j<=(decB s).length) 0 (Adh _) ?_ ?_
 ·exact ⟨[some 0,some 1,some 2],rfl,by simp,by simp[sA,kZ,SW,AW,Lu],by simp[HW,BW,SW,AW,AY]⟩
 intro j hj;have lj:(toW (10^j)).length<=10:=B1 (AdM (by decide) (by omega));simp only[Cr,AbQ,AbR,reduceIte];rcases AbT j (decB s).length with h2 | h2
 ·simp(disch:=(try simp only[Ad]);omega)only[hG,Ag,↓Ac,Ae,↓reduceIte,↓reduceDIte,↓Qe,Qu,Qv,Qw,Qx,Qy,Qz,QA,QB,QC,QD,QE,QF,QG,QH,QI,QK];refine Ab.frozenE (CM (10^j) 10 (by omega) (by rw[C3];decide)) (by rw[C3];rfl) ?_;rw[<-Ad0];simp(disch:=(try simp only[Ad]);omega)only[hG,Ag,↓Ac,Ae,↓reduceIte,↓reduceDIte,↓Qe,Qu,Qv,Qw,Qx,Qy,Qz,QA,QB,QC,QD,QE,QF,QG,QH,QI,QK];exact ⟨j+1,h2,by simp only;omega,⟨[some 0,some 1,some 2],rfl,by simp,by simp[sA,kZ,SW,AW],by simp[HW,BW,SW,AW]⟩⟩
 obtain rfl:j=(decB s).length:=by omega
 have hd0:((10^(decB s).length:Nat):Int)≠0:=by have:0<10^(decB s).length:=Aed (by decide);omega
 simp(disch:=(try simp only[Ad]);omega)only[hG,Ag,↓Ac,Ae,↓reduceIte,↓reduceDIte,↓Qe,Qu,Qv,Qw,Qx,Qy,Qz,QA,QB,QC,QD,QE,QF,QG,QH,QI,QK];refine Ab.pure (B7 true (AC L) (by omega)) ?_;simp(disch:=(try simp only[Ad]);omega)only[hG,Ag,↓Ac,Ae,↓reduceIte,↓reduceDIte,↓Qe,Qu,Qv,Qw,Qx,Qy,Qz,QA,QB,QC,QD,QE,QF,QG,QH,QI,QK];refine Ab.pure (B7 false (10^(decB s).length) (by omega)) ?_;simp(disch:=(try simp only[Ad]);omega)only[hG,Ag,↓Ac,Ae,↓reduceIte,↓reduceDIte,↓Qe,Qu,Qv,Qw,Qx,Qy,Qz,QA,QB,QC,QD,QE,QF,QG,QH,QI,QK];refine Ab.of (ED (if true=true then -(AC L:Int) else (AC L:Int)) ((10^(decB s).length:Nat):Int) hd0 (by simp only[sz];split<;>simp<;>omega) (by simp only[sz,AdQ];omega)) (by rfl) ?_;rw[<-hdv];simp(disch:=(try simp only[Ad]);omega)only[hG,Ag,↓Ac,Ae,↓reduceIte,↓reduceDIte,↓Qe,Qu,Qv,Qw,Qx,Qy,Qz,QA,QB,QC,QD,QE,QF,QG,QH,QI,QK];first | done | rfl
def isD (c:UInt8):Prop:=48<=c.toNat/\c.toNat<=57
def isD_iff {c:UInt8}:Hg.contains c=true↔isD c:=by
 constructor;·exact dig_range
 intro h;have hc:c=UInt8.ofNat c.toNat:=by simp
 rw[hc];obtain ⟨h1,h2⟩:=h;generalize c.toNat=n at *;rcases (by omega:n=48\/n=49\/n=50\/n=51\/n=52\/n=53\/n=54\/n=55\/n=56\/n=57) with rfl | rfl | rfl | rfl | rfl | rfl | rfl | rfl | rfl | rfl<;>rfl
def digB_iff {l:List UInt8} {m:Int}:digB l m=true↔1<=l.length/\(l.length:Int)<=m/\∀ c∈l,isD c:=by
 unfold digB;rw[AdW,decide_eq_true_eq,AdN,and_assoc];constructor;·rintro ⟨h1,h2,h3⟩;exact ⟨h1,h2,fun c hc=>isD_iff.1 (h3 c hc)⟩
 rintro ⟨h1,h2,h3⟩;exact ⟨h1,h2,fun c hc=>isD_iff.2 (h3 c hc)⟩
def not_isD_46 {c:UInt8} (h:isD c):c≠46:=fun e=>by subst e;obtain ⟨h1,_⟩:=h;exact absurd h1 (by decide)
def cut_all:∀ {b:List UInt8},(∀ d∈b,isD d)->(46:UInt8)∉b/\cutL 46 b=b/\cutR 46 b=[]
 | b,h=>by have hm:(46:UInt8)∉b:=fun hm=>not_isD_46 (h _ hm) rfl;exact ⟨hm,((cut_index 46 b).2 hm).2⟩
end Num
section
open Go Go.Proofs Go.Abs
variable {G:Ah}
end
section
open Go Go.Proofs Go.Abs
end
section
open Go Go.Proofs Go.Abs
variable {G:Ah}
end
section
open Go Go.Proofs Go.Abs
end
section
open Go Go.Proofs Go.Abs
variable {G:Ah}
def cmpI (x y:Int):Int:=if x<y then -1 else if y<x then 1 else 0
def MQ (x:Int):Ctr TP G 246 [.d (.int .i64 x)] [] (.d (.bool false)) []:=by refine Ctr.pure (M:=M0) Al Tryz.func246 rfl AaJ ?_;simp(disch:=(try simp only[Ad]);omega)only[Ag,Tryz.f246,↓Ac,Ae,↓reduceIte,↓reduceDIte,↓Qe,Qu,Qv,Qw,Qx,Qy,Qz,QA,QB,QC,QD,QE,QF,QG,QH,QI,QK];try rfl
def compare_spec (x y:Int):Ctr TP G 221 [.d (.int .i64 x),.d (.int .i64 y)] [] (.d (.int .i64 (cmpI x y))) []:=by
 refine Ctr.pure (M:=M0) Al Tryz.func221 rfl AaK ?_;obtain ⟨r,hr⟩:∃ r,r=cmpI x y:=⟨_,rfl⟩;rw[<-hr];unfold cmpI at hr;simp(disch:=(try simp only[Ad]);omega)only[Ag,Tryz.f221,↓Ac,Ae,↓reduceIte,↓reduceDIte,↓Qe,Qu,Qv,Qw,Qx,Qy,Qz,QA,QB,QC,QD,QE,QF,QG,QH,QI,QK];refine Ab.pure (MQ x) ?_;simp(disch:=(try simp only[Ad]);omega)only[Ag,↓Ac,Ae,↓reduceIte,↓reduceDIte,↓Qe,Qu,Qv,Qw,Qx,Qy,Qz,QA,QB,QC,QD,QE,QF,QG,QH,QI,QK];refine Ab.pure (MQ y) ?_;rcases (by omega:x<y\/y<x\/(¬x<y/\¬y<x)) with h | h | ⟨h1,h2⟩
 ·rw[if_pos h] at hr;simp(disch:=(try simp only[Ad]);omega)only[Ag,↓Ac,Ae,↓reduceIte,↓reduceDIte,↓Qe,Qu,Qv,Qw,Qx,Qy,Qz,QA,QB,QC,QD,QE,QF,QG,QH,QI,QK];all_goals rw[hr]
 ·rw[if_neg (by omega),if_pos h] at hr;simp(disch:=(try simp only[Ad]);omega)only[Ag,↓Ac,Ae,↓reduceIte,↓reduceDIte,↓Qe,Qu,Qv,Qw,Qx,Qy,Qz,QA,QB,QC,QD,QE,QF,QG,QH,QI,QK];all_goals rw[hr]
 rw[if_neg h1,if_neg h2] at hr;simp(disch:=(try simp only[Ad]);omega)only[Ag,↓Ac,Ae,↓reduceIte,↓reduceDIte,↓Qe,Qu,Qv,Qw,Qx,Qy,Qz,QA,QB,QC,QD,QE,QF,QG,QH,QI,QK];all_goals rw[hr]
structure Opt where
 txt:List UInt8
 fr:Nat
 ag:Nat
 wd:Nat
def cols (c:List Opt):List (D × D):=c.map fun o=>(S o.txt,.int .i64 o.wd)
def Abu {a b:List UInt8}:(bs a == bs b)=decide (a=b):=by
 have e:(bs a == bs b)=(a.toArray == b.toArray):=rfl;rw[e];by_cases h:a=b;·subst h;simp
 rw[decide_eq_false h];exact beq_eq_false_iff_ne.2 fun q=>h (by simpa using q)
end
section
open Go Go.Proofs Go.Abs
end
section
open Go Go.Proofs Go.Abs
variable {G:Ah}
def strs_app (a b:Row):strs a++strs b=strs (a++b):=by simp[strs]
abbrev Cel:=List UInt8 × Bool
abbrev GI (c:Cel):List D:=[.bool c.2,S c.1]
def Bz (l:List Cel):List D:=l.flatMap GI
abbrev Aaz (l:List Cel) (full:Bool):D:=.sl l.length full (Bz l)
structure Col where
 name:List UInt8
 cells:List Cel
abbrev Zg (c:Col):List D:=[S c.name,Aaz c.cells false]
def B8 (l:List Col):List D:=l.flatMap Zg
abbrev Th (l:List Col) (full:Bool):D:=.sl l.length full (B8 l)
structure Tab where
 id:Int
 name:List UInt8
 cols:List Col
abbrev WP (t:Tab) (full:Bool):D:=.agg [.int .i64 t.id,S t.name,Th t.cols full]
def noC:Cel:=([],false)
def XY:Col:=⟨[],[]⟩
def BP:∀ l:List Cel,(Bz l).length=2*l.length
 | []=>rfl
 | o::l=>by have ih:=BP l;simp only[Bz,AdR,AbZ,Ac8,AdE] at ih ⊢;omega
def BO:∀ l:List Col,(B8 l).length=2*l.length
 | []=>rfl
 | o::l=>by have ih:=BO l;simp only[B8,AdR,AbZ,Ac8,AdE] at ih ⊢;omega
def OW:∀ {l:List Cel} {k:Nat},k<l.length->((Bz l).drop (k*2)).take 2=GI (l.getD k noC)
 | [],k,h=>absurd h (AdX _)
 | o::l,0,_=>by simp[Bz]
 | o::l,k+1,h=>by have ih:=OW (l:=l) (k:=k) (by simpa using h);have e2:Bz (o::l)=.bool o.2::S o.1::Bz l:=rfl;rw[show (k+1)*2=k*2+2 by omega,e2];simpa using ih
def OT:∀ {l:List Col} {k:Nat},k<l.length->((B8 l).drop (k*2)).take 2=Zg (l.getD k XY)
 | [],k,h=>absurd h (AdX _)
 | o::l,0,_=>by simp[B8]
 | o::l,k+1,h=>by have ih:=OT (l:=l) (k:=k) (by simpa using h);have e2:B8 (o::l)=S o.name::Aaz o.cells false::B8 l:=rfl;rw[show (k+1)*2=k*2+2 by omega,e2];simpa using ih
def FR (a b:List Cel):Bz (a++b)=Bz a++Bz b:=by simp[Bz]
def OU (a b:List Col):B8 (a++b)=B8 a++B8 b:=by simp[B8]
def Js (s:List UInt8):Bool:=decide (s.length<=1024) && Lib.validD s
def Gu (c:Cel):Bool:=Js c.1 && !(c.2 && !decide (c.1=[]))
def Kf (hT:HT G) (s:List UInt8) (hs:s.length<=1000000000):Ctr TP G 122 [.d (S s)] [] (.d (.bool (Js s))) []:=by
 refine Ctr.pure (M:=M0) Al Tryz.func122 rfl AcV ?_;unfold Js;by_cases h:s.length<=1024;·rw[decide_eq_true h,AdH];simp(disch:=(try simp only[Ad]);omega)only[Ag,Tryz.f122,↓Ac,Ae,↓reduceIte,↓reduceDIte,↓Qe,Qu,Qv,Qw,Qx,Qy,Qz,QA,QB,QC,QD,QE,QF,QG,QH,QI,QK];refine Ab.pure (Ea hT s (by omega)) ?_;simp(disch:=(try simp only[Ad]);omega)only[Ag,↓Ac,Ae,↓reduceIte,↓reduceDIte,↓Qe,Qu,Qv,Qw,Qx,Qy,Qz,QA,QB,QC,QD,QE,QF,QG,QH,QI,QK];first | done | rfl
 rw[decide_eq_false h,AdI];simp(disch:=(try simp only[Ad]);omega)only[Ag,Tryz.f122,↓Ac,Ae,↓reduceIte,↓reduceDIte,↓Qe,Qu,Qv,Qw,Qx,Qy,Qz,QA,QB,QC,QD,QE,QF,QG,QH,QI,QK];first | done | rfl
def LQ (hT:HT G) (c:Cel) (hs:c.1.length<=1000000000):Ctr TP G 127 [.d (.agg (GI c))] [] (.d (.bool (Gu c))) []:=by
 obtain ⟨s,b⟩:=c;refine Ctr.pure (M:=M0) Al Tryz.func127 rfl AcQ ?_;unfold Gu;simp only at hs ⊢;simp(disch:=(try simp only[Ad]);omega)only[Ag,Tryz.f127,↓Ac,Ae,↓reduceIte,↓reduceDIte,↓Qe,Qu,Qv,Qw,Qx,Qy,Qz,QA,QB,QC,QD,QE,QF,QG,QH,QI,QK];refine Ab.pure (Kf hT s hs) ?_;cases hv:Js s;·rw[AdI];simp(disch:=(try simp only[Ad]);omega)only[Ag,↓Ac,Ae,↓reduceIte,↓reduceDIte,↓Qe,Qu,Qv,Qw,Qx,Qy,Qz,QA,QB,QC,QD,QE,QF,QG,QH,QI,QK];first | done | rfl | exact ⟨by rfl,by rfl⟩
 rw[AdH];cases b;·rw[AdI,Aec];simp(disch:=(try simp only[Ad]);omega)only[Ag,↓Ac,Ae,↓reduceIte,↓reduceDIte,↓Qe,Qu,Qv,Qw,Qx,Qy,Qz,QA,QB,QC,QD,QE,QF,QG,QH,QI,QK];first | done | rfl | exact ⟨by rfl,by rfl⟩
 rw[AdH];by_cases h:s=[];·subst h;simp(disch:=(try simp only[Ad]);omega)only[Ag,↓Ac,Ae,↓reduceIte,↓reduceDIte,↓Qe,Qu,Qv,Qw,Qx,Qy,Qz,QA,QB,QC,QD,QE,QF,QG,QH,QI,QK];first | done | rfl | exact ⟨by rfl,by rfl⟩
 simp(disch:=(try simp only[Ad]);omega)only[Ag,h,↓Ac,Ae,↓reduceIte,↓reduceDIte,↓Qe,Qu,Qv,Qw,Qx,Qy,Qz,QA,QB,QC,QD,QE,QF,QG,QH,QI,QK];first | done | rfl | simp[h] | exact ⟨by rfl,by simp[h]⟩
def Ed (t:Tab):Nat:=match t.cols with | []=>0 | c::_=>c.cells.length
def N0 (t:Tab) (full:Bool) (hc:t.cols.length<=1000000000) (h2:∀ c∈t.cols,c.cells.length<=1000000000):Ctr TP G 123 [.d (WP t full)] [] (.d (.int .i64 (Ed t))) []:=by
 obtain ⟨id,name,cols⟩:=t;simp only at hc h2;refine Ctr.pure (M:=M0) Al Tryz.func123 rfl AcU ?_;rcases cols with _ | ⟨c,r⟩
 ·simp(disch:=(try simp only[Ad]);omega)only[Ag,Tryz.f123,AdE,↓Ac,Ae,↓reduceIte,↓reduceDIte,↓Qe,Qu,Qv,Qw,Qx,Qy,Qz,QA,QB,QC,QD,QE,QF,QG,QH,QI,QK];first | done | rfl | exact ⟨by rfl,by rfl⟩
 have cl:=BO (c::r);have e1:(B8 (c::r)).getD 1 .nilp=Aaz c.cells false:=rfl;have hcl:=BP c.cells;have h3:=h2 c (by simp);have ll:(c::r).length=r.length+1:=rfl;simp(disch:=(try simp only[Ad]);omega)only[Ag,Tryz.f123,e1,cl,ll,↓Ac,Ae,↓reduceIte,↓reduceDIte,↓Qe,Qu,Qv,Qw,Qx,Qy,Qz,QA,QB,QC,QD,QE,QF,QG,QH,QI,QK];first | done | rfl | exact ⟨by rfl,by rfl⟩
def XS (id:Int) (name:List UInt8):Bool:=decide (0<=id/\id<=1073741824) && Js name
inductive Nd where
 | mk (kind:Int) (text:List UInt8) (keys:List (List UInt8)) (kids:List Nd)
def Nd.kind:Nd->Int | .mk k _ _ _=>k
def Nd.text:Nd->List UInt8 | .mk _ t _ _=>t
def Nd.keys:Nd->List (List UInt8) | .mk _ _ ks _=>ks
def Nd.kids:Nd->List Nd | .mk _ _ _ l=>l
mutual
def ndC:Nd->List D
 | .mk k t ks kids=>[.int .i64 k,S t,Ss ks false,.sl kids.length false (A0 kids)]
def A0:List Nd->List D
 | []=>[]
 | n::r=>ndC n++A0 r
end
abbrev NdD (n:Nd):D:=.agg (ndC n)
abbrev NdS (l:List Nd) (full:Bool):D:=.sl l.length full (A0 l)
def noN:Nd:=.mk 0 [] [] []
def Abh (n:Nd):ndC n=[.int .i64 n.kind,S n.text,Ss n.keys false,NdS n.kids false]:=by cases n;rfl
def Gd (n:Nd):(ndC n).length=4:=by cases n;rfl
def FJ (n:Nd) (r:List Nd):A0 (n::r)=ndC n++A0 r:=rfl
def Bc:∀ l:List Nd,(A0 l).length=4*l.length
 | []=>rfl
 | o::l=>by have ih:=Bc l;rw[FJ,AbZ,Gd,ih,Ac8];omega
def G5:∀ a b:List Nd,A0 (a++b)=A0 a++A0 b
 | [],b=>rfl
 | o::l,b=>by rw[AbY,FJ,G5,FJ,List.append_assoc]
def Dg:∀ {l:List Nd} {k:Nat},k<l.length->((A0 l).drop (k*4)).take 4=ndC (l.getD k noN)
 | [],k,h=>absurd h (AdX _)
 | o::l,0,_=>by have:=Gd o;simp[FJ,Aeq,this];try rw[<-this,AdD]
 | o::l,k+1,h=>by have ih:=Dg (l:=l) (k:=k) (by simpa using h);have e:=Gd o;rw[FJ,Ad6,e,Ad8 (by omega),AbP,show (k+1)*4-4=k*4 by omega,ih];simp
def PN (n:Nd):(ndC n).map unf0=ndC n:=by cases n;rfl
def Lb (f:FuncId) (p:Nd->Bool) (l:List Nd) (full:Bool) (hl:l.length<=1000000000) (hp:∀ s∈l,Ctr TP G f [.d (NdD s)] [] (.d (.bool (p s))) []) :
  Ctr TP G 54 [.d (NdS l full),.d (.fn (.func f) [] [])] [] (.d (.int .i64 (ixF p l 0))) []:=by
 refine Ctr.pure (M:=M0) Al Tryz.func54 rfl go54 ?_;have sl:=Bc l;simp(disch:=(try simp only[Ad]);omega)only[sl,Tryz.f54,↓Ac,Ae,↓reduceIte,↓reduceDIte,↓Qe,Qu,Qv,Qw,Qx,Qy,Qz,QA,QB,QC,QD,QE,QF,QG,QH,QI,QK];refine As.fr 131 (α:=Nat) (fun i=>l.length-i) (fun i=>[(8,.d (.int .i64 i))]) (fun _=>[]) (fun i=>i<=l.length/\ixF p l 0=ixF p (l.drop i) i) 0 ⟨Adh _,rfl⟩ ?_ ?_;·exact ⟨[],rfl,by simp,by simp[sA,kZ,SW,AW],by simp[HW,BW,SW,AW]⟩
 rintro i ⟨h1,h2⟩;simp only[Cr,AbQ,AbR,reduceIte];rw[h2];rcases AbT i l.length with h | h
 ·have g:=Dg h;rw[MN (d:=noN) h];simp(disch:=(try simp only[Ad]);omega)only[sl,g,PN,↓Ac,Ae,↓reduceIte,↓reduceDIte,↓Qe,Qu,Qv,Qw,Qx,Qy,Qz,QA,QB,QC,QD,QE,QF,QG,QH,QI,QK];refine Ab.pure (hp _ (E1 h)) ?_;cases hx:p (l.getD i noN);·simp(disch:=(try simp only[Ad]);omega)only[↓Ac,Ae,↓reduceIte,↓reduceDIte,↓Qe,Qu,Qv,Qw,Qx,Qy,Qz,QA,QB,QC,QD,QE,QF,QG,QH,QI,QK];exact ⟨i+1,⟨h,rfl⟩,by simp only;omega,⟨[],rfl,by simp,by simp[sA,kZ,SW,AW],by simp[HW,BW,SW,AW]⟩⟩
  simp(disch:=(try simp only[Ad]);omega)only[↓Ac,Ae,↓reduceIte,↓reduceDIte,↓Qe,Qu,Qv,Qw,Qx,Qy,Qz,QA,QB,QC,QD,QE,QF,QG,QH,QI,QK]
 rw[AdC h];simp(disch:=(try simp only[Ad]);omega)only[↓Ac,Ae,↓reduceIte,↓reduceDIte,↓Qe,Qu,Qv,Qw,Qx,Qy,Qz,QA,QB,QC,QD,QE,QF,QG,QH,QI,QK];rfl
def EW (f:FuncId) (p:Nd->Bool) (l:List Nd) (full:Bool) (hl:l.length<=1000000000) (hp:∀ s∈l,Ctr TP G f [.d (NdD s)] [] (.d (.bool (p s))) []) :
  Ctr TP G 28 [.d (NdS l full),.d (.fn (.func f) [] [])] [] (.d (.bool (l.any p))) []:=by
 refine Ctr.pure (M:=M0) Al Tryz.func28 rfl go28 ?_;simp(disch:=(try simp only[Ad]);omega)only[Tryz.f28,↓Ac,Ae,↓reduceIte,↓reduceDIte,↓Qe,Qu,Qv,Qw,Qx,Qy,Qz,QA,QB,QC,QD,QE,QF,QG,QH,QI,QK];refine Ab.of (Lb f p l false hl hp) (by rfl) ?_;have hi:=HR (p:=p) l 0 (Aez _);generalize ixF p l 0=z at *;rcases (by omega:0<=z\/z<0) with h | h
 ·rw[hi.1 h];simp(disch:=(try simp only[Ad]);omega)only[↓Ac,Ae,↓reduceIte,↓reduceDIte,↓Qe,Qu,Qv,Qw,Qx,Qy,Qz,QA,QB,QC,QD,QE,QF,QG,QH,QI,QK]
 have:l.any p=false:=by cases hx:l.any p with
  | false=>rfl
  | true=>have:=hi.2 hx;omega
 rw[this];simp(disch:=(try simp only[Ad]);omega)only[↓Ac,Ae,↓reduceIte,↓reduceDIte,↓Qe,Qu,Qv,Qw,Qx,Qy,Qz,QA,QB,QC,QD,QE,QF,QG,QH,QI,QK]
def G4 (n:Nd):Bool:=decide (¬n.kind=6)
def MP (n:Nd):Ctr TP G 29 [.d (NdD n)] [] (.d (.bool (G4 n))) []:=by refine Ctr.pure (M:=M0) Al Tryz.func29 rfl go29 ?_;obtain ⟨k,t,ks,l⟩:=n;unfold G4 Nd.kind;simp(disch:=(try simp only[Ad]);omega)only[ndC,Tryz.f29,↓Ac,Ae,↓reduceIte,↓reduceDIte,↓Qe,Qu,Qv,Qw,Qx,Qy,Qz,QA,QB,QC,QD,QE,QF,QG,QH,QI,QK];first | done | rfl
def B2 (n:Nd):Cel:=if n.kind=2\/n.kind=3\/n.kind=4 then (n.text,false) else ([],true)
def Q5 {k:Int} {t:List UInt8} {ks:List (List UInt8)} {l:List Nd} (h:k=2\/k=3\/k=4):B2 (.mk k t ks l)=(t,false):=if_pos h
def Aaq {k:Int} {t:List UInt8} {ks:List (List UInt8)} {l:List Nd} (h:¬(k=2\/k=3\/k=4)):B2 (.mk k t ks l)=([],true):=if_neg h
def Na (n:Nd):Ctr TP G 98 [.d (NdD n)] [] (.d (.agg (GI (B2 n)))) []:=by
 obtain ⟨r,hr⟩:∃ r,r=B2 n:=⟨_,rfl⟩;rw[<-hr];refine Ctr.pure (M:=M0) Al Tryz.func98 rfl go98 ?_;obtain ⟨k,t,ks,l⟩:=n;rcases (by omega:k=2\/(¬k=2/\k=3)\/(¬k=2/\¬k=3/\k=4)\/(¬k=2/\¬k=3/\¬k=4)) with h | h | h | h
 ·subst h;rw[Q5 (by omega)] at hr;subst hr;simp(disch:=(try simp only[Ad]);omega)only[Ag,ndC,Tryz.f98,↓Ac,Ae,↓reduceIte,↓reduceDIte,↓Qe,Qu,Qv,Qw,Qx,Qy,Qz,QA,QB,QC,QD,QE,QF,QG,QH,QI,QK];first | done | rfl | simp
 ·obtain ⟨h1,rfl⟩:=h;rw[Q5 (by omega)] at hr;subst hr;simp(disch:=(try simp only[Ad]);omega)only[Ag,ndC,Tryz.f98,↓Ac,Ae,↓reduceIte,↓reduceDIte,↓Qe,Qu,Qv,Qw,Qx,Qy,Qz,QA,QB,QC,QD,QE,QF,QG,QH,QI,QK];first | done | rfl | simp
 ·obtain ⟨h1,h2,rfl⟩:=h;rw[Q5 (by omega)] at hr;subst hr;simp(disch:=(try simp only[Ad]);omega)only[Ag,ndC,Tryz.f98,↓Ac,Ae,↓reduceIte,↓reduceDIte,↓Qe,Qu,Qv,Qw,Qx,Qy,Qz,QA,QB,QC,QD,QE,QF,QG,QH,QI,QK];first | done | rfl | simp
 obtain ⟨h1,h2,h3⟩:=h;rw[Aaq (by omega)] at hr;subst hr;simp(disch:=(try simp only[Ad]);omega)only[Ag,ndC,h1,h2,h3,Tryz.f98,↓Ac,Ae,↓reduceIte,↓reduceDIte,↓Qe,Qu,Qv,Qw,Qx,Qy,Qz,QA,QB,QC,QD,QE,QF,QG,QH,QI,QK];first | done | rfl | simp
abbrev Elm:=Int × Nd
def DZ (e:Elm):List D:=.int .i64 e.1::ndC e.2
def Bo (l:List Elm):List D:=l.flatMap DZ
abbrev ElS (l:List Elm) (full:Bool):D:=.sl l.length full (Bo l)
def noE:Elm:=(0,noN)
def He (n:Elm):(DZ n).length=5:=by simp[DZ,Gd]
def ID (n:Elm) (r:List Elm):Bo (n::r)=DZ n++Bo r:=rfl
def Bu:∀ l:List Elm,(Bo l).length=5*l.length
 | []=>rfl
 | o::l=>by have ih:=Bu l;rw[ID,AbZ,He,ih,Ac8];omega
def Ws (a b:List Elm):Bo (a++b)=Bo a++Bo b:=by simp[Bo]
def Kg:∀ {l:List Elm} {k:Nat},k<l.length->((Bo l).drop (k*5)).take 5=DZ (l.getD k noE)
 | [],k,h=>absurd h (AdX _)
 | o::l,0,_=>by have:=He o;simp[ID,Aeq,this];try rw[<-this,AdD]
 | o::l,k+1,h=>by have ih:=Kg (l:=l) (k:=k) (by simpa using h);have e:=He o;rw[ID,Ad6,e,Ad8 (by omega),AbP,show (k+1)*5-5=k*5 by omega,ih];simp
def YH (n:Elm):(DZ n).map unf0=DZ n:=by rw[DZ,AbU,PN];rfl
def Lc (f:FuncId) (p:Elm->Bool) (l:List Elm) (full:Bool) (hl:l.length<=1000000000) (hp:∀ s∈l,Ctr TP G f [.d (.agg (DZ s))] [] (.d (.bool (p s))) []) :
  Ctr TP G 96 [.d (ElS l full),.d (.fn (.func f) [] [])] [] (.d (.int .i64 (ixF p l 0))) []:=by
 refine Ctr.pure (M:=M0) Al Tryz.func96 rfl go96 ?_;have sl:=Bu l;simp(disch:=(try simp only[Ad]);omega)only[sl,Tryz.f96,↓Ac,Ae,↓reduceIte,↓reduceDIte,↓Qe,Qu,Qv,Qw,Qx,Qy,Qz,QA,QB,QC,QD,QE,QF,QG,QH,QI,QK];refine As.fr 131 (α:=Nat) (fun i=>l.length-i) (fun i=>[(8,.d (.int .i64 i))]) (fun _=>[]) (fun i=>i<=l.length/\ixF p l 0=ixF p (l.drop i) i) 0 ⟨Adh _,rfl⟩ ?_ ?_;·exact ⟨[],rfl,by simp,by simp[sA,kZ,SW,AW],by simp[HW,BW,SW,AW]⟩
 rintro i ⟨h1,h2⟩;simp only[Cr,AbQ,AbR,reduceIte];rw[h2];rcases AbT i l.length with h | h
 ·have g:=Kg h;rw[MN (d:=noE) h];simp(disch:=(try simp only[Ad]);omega)only[sl,g,YH,↓Ac,Ae,↓reduceIte,↓reduceDIte,↓Qe,Qu,Qv,Qw,Qx,Qy,Qz,QA,QB,QC,QD,QE,QF,QG,QH,QI,QK];refine Ab.pure (hp _ (E1 h)) ?_;cases hx:p (l.getD i noE);·simp(disch:=(try simp only[Ad]);omega)only[↓Ac,Ae,↓reduceIte,↓reduceDIte,↓Qe,Qu,Qv,Qw,Qx,Qy,Qz,QA,QB,QC,QD,QE,QF,QG,QH,QI,QK];exact ⟨i+1,⟨h,rfl⟩,by simp only;omega,⟨[],rfl,by simp,by simp[sA,kZ,SW,AW],by simp[HW,BW,SW,AW]⟩⟩
  simp(disch:=(try simp only[Ad]);omega)only[↓Ac,Ae,↓reduceIte,↓reduceDIte,↓Qe,Qu,Qv,Qw,Qx,Qy,Qz,QA,QB,QC,QD,QE,QF,QG,QH,QI,QK]
 rw[AdC h];simp(disch:=(try simp only[Ad]);omega)only[↓Ac,Ae,↓reduceIte,↓reduceDIte,↓Qe,Qu,Qv,Qw,Qx,Qy,Qz,QA,QB,QC,QD,QE,QF,QG,QH,QI,QK];rfl
def IJ (f:FuncId) (p:Elm->Bool) (l:List Elm) (full:Bool) (hl:l.length<=1000000000) (hp:∀ s∈l,Ctr TP G f [.d (.agg (DZ s))] [] (.d (.bool (p s))) []) :
  Ctr TP G 57 [.d (ElS l full),.d (.fn (.func f) [] [])] [] (.d (.bool (l.any p))) []:=by
 refine Ctr.pure (M:=M0) Al Tryz.func57 rfl go57 ?_;simp(disch:=(try simp only[Ad]);omega)only[Tryz.f57,↓Ac,Ae,↓reduceIte,↓reduceDIte,↓Qe,Qu,Qv,Qw,Qx,Qy,Qz,QA,QB,QC,QD,QE,QF,QG,QH,QI,QK];refine Ab.of (Lc f p l false hl hp) (by rfl) ?_;have hi:=HR (p:=p) l 0 (Aez _);generalize ixF p l 0=z at *;rcases (by omega:0<=z\/z<0) with h | h
 ·rw[hi.1 h];simp(disch:=(try simp only[Ad]);omega)only[↓Ac,Ae,↓reduceIte,↓reduceDIte,↓Qe,Qu,Qv,Qw,Qx,Qy,Qz,QA,QB,QC,QD,QE,QF,QG,QH,QI,QK]
 have:l.any p=false:=by cases hx:l.any p with
  | false=>rfl
  | true=>have:=hi.2 hx;omega
 rw[this];simp(disch:=(try simp only[Ad]);omega)only[↓Ac,Ae,↓reduceIte,↓reduceDIte,↓Qe,Qu,Qv,Qw,Qx,Qy,Qz,QA,QB,QC,QD,QE,QF,QG,QH,QI,QK]
def CE (e:Elm):Bool:=G4 e.2
def Sk (e:Elm):Ctr TP G 58 [.d (.agg (DZ e))] [] (.d (.bool (CE e))) []:=by refine Ctr.pure (M:=M0) Al Tryz.func58 rfl go58 ?_;obtain ⟨a,k,t,ks,l⟩:=e;unfold CE G4 Nd.kind;simp(disch:=(try simp only[Ad]);omega)only[DZ,ndC,Tryz.f58,↓Ac,Ae,↓reduceIte,↓reduceDIte,↓Qe,Qu,Qv,Qw,Qx,Qy,Qz,QA,QB,QC,QD,QE,QF,QG,QH,QI,QK];first | done | rfl
end
section
open Go Go.Proofs Go.Abs
variable {G:Ah}
def NF (n:Nat):Bool:=decide (n<32/\n≠9/\n≠10/\n≠13)
def Hi (b:UInt8):Bool:=NF b.toNat
def A2 (s:List UInt8):Bool:=decide (s.length<=1024) && (Lib.validD s && !s.any Hi)
def Eu (l:List UInt8) (p:Nat):Int:=if h:p<l.length then if Hi (l.getD p 0)=true then p else Eu l (p+1) else -1
termination_by l.length-p
def OQ {l:List UInt8} {p:Nat} (h:p<l.length) (c:Hi (l.getD p 0)=true):Eu l p=p:=by rw[Eu,dif_pos h,if_pos c]
def IG {l:List UInt8} {p:Nat} (h:p<l.length) (c:Hi (l.getD p 0)=false):Eu l p=Eu l (p+1):=by rw[Eu,dif_pos h,if_neg (by rw[c];simp)]
def OR {l:List UInt8} {p:Nat} (h:¬p<l.length):Eu l p=-1:=by rw[Eu,dif_neg h]
def YP {b:UInt8} (h:128<=b.toNat):Hi b=false:=by unfold Hi NF;exact decide_eq_false (by omega)
def M9 {l:List UInt8} {p:Nat}:∀ w,p+w<=l.length->(∀ i,i<w->128<=(l.getD (p+i) 0).toNat)->Eu l p=Eu l (p+w)
 | 0,_,_=>rfl
 | w+1,h,h2=>by rw[M9 w (by omega) (fun i hi=>h2 i (by omega)),IG (by omega) (YP (h2 w (by omega)))];rfl
def OS:∀ (n:Nat) (l:List UInt8) (p:Nat),l.length-p=n->decide (0<=Eu l p)=(l.drop p).any Hi
 | 0,l,p,hn=>by rw[OR (by omega),AdC (by omega)];rfl
 | n+1,l,p,hn=>by
   have hp:p<l.length:=(by omega);have ed:l.drop p=l.getD p 0::l.drop (p+1):=(by rw[Ad3 hp,AbH,AbM hp];rfl);rw[ed,Aeu];cases h:Hi (l.getD p 0) with
   | true =>rw[OQ hp h,Aem];exact decide_eq_true (by omega)
   | false=>rw[IG hp h,OS n l (p+1) (by omega),Aeg]
def MX (c:Nat) (hc:c<=2147483647):Ctr TP G 142 [.d (.int .i32 c)] [] (.d (.bool (NF c))) []:=by
 obtain ⟨r,hr⟩:∃ r,r=NF c:=⟨_,rfl⟩;rw[<-hr];unfold NF at hr;refine Ctr.pure (M:=M0) Al Tryz.func142 rfl AcD ?_;rcases (by omega:32<=c\/c=9\/c=10\/c=13\/(c<32/\c≠9/\c≠10/\c≠13)) with h | h | h | h | ⟨h1,h2,h3,h4⟩
 ·rw[decide_eq_false (by omega)] at hr;subst hr;simp(disch:=(try simp only[Ad]);omega)only[Ag,Tryz.f142,↓Ac,Ae,↓reduceIte,↓reduceDIte,↓Qe,Qu,Qv,Qw,Qx,Qy,Qz,QA,QB,QC,QD,QE,QF,QG,QH,QI,QK]
 ·subst h;rw[decide_eq_false (by omega)] at hr;subst hr;simp(disch:=(try simp only[Ad]);omega)only[Ag,Tryz.f142,↓Ac,Ae,↓reduceIte,↓reduceDIte,↓Qe,Qu,Qv,Qw,Qx,Qy,Qz,QA,QB,QC,QD,QE,QF,QG,QH,QI,QK]
 ·subst h;rw[decide_eq_false (by omega)] at hr;subst hr;simp(disch:=(try simp only[Ad]);omega)only[Ag,Tryz.f142,↓Ac,Ae,↓reduceIte,↓reduceDIte,↓Qe,Qu,Qv,Qw,Qx,Qy,Qz,QA,QB,QC,QD,QE,QF,QG,QH,QI,QK]
 ·subst h;rw[decide_eq_false (by omega)] at hr;subst hr;simp(disch:=(try simp only[Ad]);omega)only[Ag,Tryz.f142,↓Ac,Ae,↓reduceIte,↓reduceDIte,↓Qe,Qu,Qv,Qw,Qx,Qy,Qz,QA,QB,QC,QD,QE,QF,QG,QH,QI,QK]
 rw[decide_eq_true ⟨h1,h2,h3,h4⟩] at hr;subst hr;simp(disch:=(try simp only[Ad]);omega)only[Ag,Tryz.f142,↓Ac,Ae,↓reduceIte,↓reduceDIte,↓Qe,Qu,Qv,Qw,Qx,Qy,Qz,QA,QB,QC,QD,QE,QF,QG,QH,QI,QK]
def La (l:List UInt8) (hl:l.length<=1000000000):Ctr TP G 207 [.d (S l),.d (.fn (.func 142) [] []),.d (.bool true)] [] (.d (.int .i64 (Eu l 0))) []:=by
 refine Ctr.pure (M:=M0) Al Tryz.func207 rfl Ab6 ?_;simp(disch:=(try simp only[Ad]);omega)only[Ag,Tryz.f207,↓Ac,Ae,↓reduceIte,↓reduceDIte,↓Qe,Qu,Qv,Qw,Qx,Qy,Qz,QA,QB,QC,QD,QE,QF,QG,QH,QI,QK];refine As.fr 1030 (α:=Nat) (fun p=>l.length-p) (fun _=>[]) (fun p=>[.iter (bs l) p]) (fun p=>p<=l.length/\Eu l 0=Eu l p) 0 ⟨Adh _,rfl⟩ ?_ ?_;·exact ⟨[some 0],rfl,by simp,by simp[sA,kZ,SW,AW],by simp[HW,BW,SW,AW]⟩
 rintro p ⟨h1,h2⟩;simp only[Cr,AbQ,AbR,reduceIte];rw[h2];rcases AbT p l.length with h3 | h3
 ·rcases decw l p h3 with ⟨d1,d2⟩ | ⟨d1,d2,d3,d4⟩
  ·have sp:=MX (G:=G) (l.getD p 0).toNat (by omega);simp(disch:=(try simp only[Ad]);omega)only[Ag,d2,↓Ac,Ae,↓reduceIte,↓reduceDIte,↓Qe,Qu,Qv,Qw,Qx,Qy,Qz,QA,QB,QC,QD,QE,QF,QG,QH,QI,QK];refine Ab.of sp (by rfl) ?_;cases hc:Hi (l.getD p 0);·rw[show NF (l.getD p 0).toNat=false from hc];simp(disch:=(try simp only[Ad]);omega)only[Ag,↓Ac,Ae,↓reduceIte,↓reduceDIte,↓Qe,Qu,Qv,Qw,Qx,Qy,Qz,QA,QB,QC,QD,QE,QF,QG,QH,QI,QK];exact ⟨p+1,⟨h3,IG h3 hc⟩,by simp only;omega,⟨[some 0],rfl,by simp,by simp[sA,kZ,SW,AW],by simp[HW,BW,SW,AW]⟩⟩
   rw[show NF (l.getD p 0).toNat=true from hc,OQ h3 hc];simp(disch:=(try simp only[Ad]);omega)only[Ag,↓Ac,Ae,↓reduceIte,↓reduceDIte,↓Qe,Qu,Qv,Qw,Qx,Qy,Qz,QA,QB,QC,QD,QE,QF,QG,QH,QI,QK]
  have hb:=Un l p;have sp:=MX (G:=G) (dec l p).1 hb.2;simp(disch:=(try simp only[Ad]);omega)only[Ag,↓Ac,Ae,↓reduceIte,↓reduceDIte,↓Qe,Qu,Qv,Qw,Qx,Qy,Qz,QA,QB,QC,QD,QE,QF,QG,QH,QI,QK];refine Ab.of sp (by rfl) ?_;rw[show NF (dec l p).1=false from decide_eq_false (by omega)];simp(disch:=(try simp only[Ad]);omega)only[Ag,↓Ac,Ae,↓reduceIte,↓reduceDIte,↓Qe,Qu,Qv,Qw,Qx,Qy,Qz,QA,QB,QC,QD,QE,QF,QG,QH,QI,QK];exact ⟨p+(dec l p).2,⟨d3,M9 _ d3 d4⟩,by simp only;omega,⟨[some 0],rfl,by simp,by simp[sA,kZ,SW,AW],by simp[HW,BW,SW,AW]⟩⟩
 rw[OR (by omega)];simp(disch:=(try simp only[Ad]);omega)only[Ag,↓Ac,Ae,↓reduceIte,↓reduceDIte,↓Qe,Qu,Qv,Qw,Qx,Qy,Qz,QA,QB,QC,QD,QE,QF,QG,QH,QI,QK]
def II (l:List UInt8) (hl:l.length<=1000000000):Ctr TP G 141 [.d (S l),.d (.fn (.func 142) [] [])] [] (.d (.bool (l.any Hi))) []:=by
 have i1:Ctr TP G 176 [.d (S l),.d (.fn (.func 142) [] [])] [] (.d (.int .i64 (Eu l 0))) []:=by refine Ctr.pure (M:=M0) Al Tryz.func176 rfl Ack ?_;simp(disch:=(try simp only[Ad]);omega)only[Ag,Tryz.f176,↓Ac,Ae,↓reduceIte,↓reduceDIte,↓Qe,Qu,Qv,Qw,Qx,Qy,Qz,QA,QB,QC,QD,QE,QF,QG,QH,QI,QK];refine Ab.pure (La l hl) ?_;simp(disch:=(try simp only[Ad]);omega)only[Ag,↓Ac,Ae,↓reduceIte,↓reduceDIte,↓Qe,Qu,Qv,Qw,Qx,Qy,Qz,QA,QB,QC,QD,QE,QF,QG,QH,QI,QK]
 have ha:=OS _ l 0 rfl;rw[Aeb] at ha;refine Ctr.pure (M:=M0) Al Tryz.func141 rfl AcE ?_;simp(disch:=(try simp only[Ad]);omega)only[Ag,Tryz.f141,↓Ac,Ae,↓reduceIte,↓reduceDIte,↓Qe,Qu,Qv,Qw,Qx,Qy,Qz,QA,QB,QC,QD,QE,QF,QG,QH,QI,QK];refine Ab.pure i1 ?_;generalize Eu l 0=z at *;rcases (by omega:0<=z\/z<0) with h | h
 ·rw[decide_eq_true h] at ha;rw[<-ha];simp(disch:=(try simp only[Ad]);omega)only[Ag,↓Ac,Ae,↓reduceIte,↓reduceDIte,↓Qe,Qu,Qv,Qw,Qx,Qy,Qz,QA,QB,QC,QD,QE,QF,QG,QH,QI,QK]
 rw[decide_eq_false (by omega)] at ha;rw[<-ha];simp(disch:=(try simp only[Ad]);omega)only[Ag,↓Ac,Ae,↓reduceIte,↓reduceDIte,↓Qe,Qu,Qv,Qw,Qx,Qy,Qz,QA,QB,QC,QD,QE,QF,QG,QH,QI,QK]
def Mz (hT:HT G) (s:List UInt8) (hs:s.length<=1000000000):Ctr TP G 103 [.d (S s)] [] (.d (.bool (A2 s))) []:=by
 obtain ⟨r,hr⟩:∃ r,r=A2 s:=⟨_,rfl⟩;rw[<-hr];unfold A2 at hr;refine Ctr.pure (M:=M0) Al Tryz.func103 rfl Ac2 ?_;by_cases h:s.length<=1024
 ·rw[decide_eq_true h,AdH] at hr;simp(disch:=(try simp only[Ad]);omega)only[Ag,Tryz.f103,↓Ac,Ae,↓reduceIte,↓reduceDIte,↓Qe,Qu,Qv,Qw,Qx,Qy,Qz,QA,QB,QC,QD,QE,QF,QG,QH,QI,QK];refine Ab.pure (Ea hT s (by omega)) ?_;cases hv:Lib.validD s;·rw[hv,AdI] at hr;subst hr;simp(disch:=(try simp only[Ad]);omega)only[Ag,↓Ac,Ae,↓reduceIte,↓reduceDIte,↓Qe,Qu,Qv,Qw,Qx,Qy,Qz,QA,QB,QC,QD,QE,QF,QG,QH,QI,QK]
  rw[hv,AdH] at hr;simp(disch:=(try simp only[Ad]);omega)only[Ag,↓Ac,Ae,↓reduceIte,↓reduceDIte,↓Qe,Qu,Qv,Qw,Qx,Qy,Qz,QA,QB,QC,QD,QE,QF,QG,QH,QI,QK];refine Ab.of (II s hs) (by rfl) ?_;subst hr;simp(disch:=(try simp only[Ad]);omega)only[Ag,↓Ac,Ae,↓reduceIte,↓reduceDIte,↓Qe,Qu,Qv,Qw,Qx,Qy,Qz,QA,QB,QC,QD,QE,QF,QG,QH,QI,QK]
 rw[decide_eq_false h,AdI] at hr;subst hr;simp(disch:=(try simp only[Ad]);omega)only[Ag,Tryz.f103,↓Ac,Ae,↓reduceIte,↓reduceDIte,↓Qe,Qu,Qv,Qw,Qx,Qy,Qz,QA,QB,QC,QD,QE,QF,QG,QH,QI,QK]
def T3 (hT:HT G) (s:List UInt8) (hs:s.length<=1000000000):Ctr TP G 106 [.d (S s)] [] (.d (.bool (!A2 s))) []:=by refine Ctr.pure (M:=M0) Al Tryz.func106 rfl AcZ ?_;simp(disch:=(try simp only[Ad]);omega)only[Ag,Tryz.f106,↓Ac,Ae,↓reduceIte,↓reduceDIte,↓Qe,Qu,Qv,Qw,Qx,Qy,Qz,QA,QB,QC,QD,QE,QF,QG,QH,QI,QK];refine Ab.pure (Mz hT s hs) ?_;simp(disch:=(try simp only[Ad]);omega)only[Ag,↓Ac,Ae,↓reduceIte,↓reduceDIte,↓Qe,Qu,Qv,Qw,Qx,Qy,Qz,QA,QB,QC,QD,QE,QF,QG,QH,QI,QK]
def Vi (a b:List UInt8):Ci (S a) (S b)=decide (a=b):=Abu
def Fw {β:Type} (m:List (D × β)) (k:D):Option β:=(BG k m).map (·.2)
def Ht {β:Type} (m:List (D × β)):Prop:=∀ e∈m,∃ s,e.1=S s
def VG {β:Type} (k:D) (d:β):List (D × β)->List (D × β)
 | []=>[(k,d)]
 | x::r=>if Ci k x.1=true then (k,d)::r else x::VG k d r
def Tl {β:Type} (k:D) (d:β):∀ m:List (D × β),BR m k d=VG k d m
 | []=>rfl
 | x::r=>by
   have ih:=Tl k d r;unfold BR at ih ⊢;rw[BG,VG];by_cases h:Ci k x.1=true;·rw[if_pos h,if_pos h];rfl
   rw[if_neg h,if_neg h];cases hf:BG k r with
   | none=>rw[hf] at ih;simp only[Option.map_none];rw[<-ih];rfl
   | some y=>rw[hf] at ih;simp only[Ad9];rw[<-ih];rfl
def Ht.nil {β:Type}:Ht ([]:List (D × β)):=fun _ h=>by cases h
def Ht.upd {β:Type} {m:List (D × β)} (h:Ht m) (t:List UInt8) (d:β):Ht (BR m (S t) d):=by
 rw[Tl];induction m with
 | nil=>intro e he;exact ⟨t,by simp[VG] at he;rw[he]⟩
 | cons x r ih =>
  have i2:=ih fun e he=>h e (AdG _ he);intro e he;rw[VG] at he;split at he
  ·rcases AdP.1 he with rfl | he
   ·exact ⟨t,rfl⟩
   exact h e (AdG _ he)
  rcases AdP.1 he with rfl | he
  ·exact h _ (by simp)
  exact i2 e he
def Ht.ok {β:Type} {m:List (D × β)} (h:Ht m):DH TP 9 m=true:=by unfold DH;refine AdN.2 fun e he=>?_;obtain ⟨s,hs⟩:=h e he;rw[hs];unfold isKeyD;rw[ti9];rfl
def IZ {β:Type} (k:D):Fw ([]:List (D × β)) k=none:=rfl
def Fv {β:Type} (y:D × β) (l:List (D × β)) (s c:List UInt8) (hy:y.1=S c):Fw (y::l) (S s)=if s=c then some y.2 else Fw l (S s):=by
 unfold Fw;rw[BG,hy,Vi];by_cases e:s=c;·rw[if_pos e,if_pos (by simpa using e)];rfl
 rw[if_neg e,if_neg (by simpa using e)];cases BG (S s) l<;>rfl
def IY {β:Type} {m:List (D × β)} (h:Ht m) (d:β) (s t:List UInt8):Fw (BR m (S t) d) (S s)=if s=t then some d else Fw m (S s):=by
 rw[Tl];induction m with
 | nil=>exact Fv _ _ _ _ rfl
 | cons x r ih =>
  have i2:=ih fun e he=>h e (AdG _ he);obtain ⟨c,hc⟩:=h x (by simp);rw[VG,hc,Vi];by_cases e:t=c
  ·rw[if_pos (by simpa using e),Fv _ _ _ t rfl,Fv _ _ _ c hc,<-e];by_cases e2:s=t;·rw[if_pos e2,if_pos e2]
   rw[if_neg e2,if_neg e2,if_neg e2]
  rw[if_neg (by simpa using e),Fv _ _ _ c hc,Fv _ _ _ c hc,i2];by_cases e2:s=c;·rw[if_pos e2,if_neg (by rw[e2];exact fun q=>e q.symm),if_pos e2]
  rw[if_neg e2,if_neg e2]
def Ka (z:D) (m:List (D × D)) (k:D):Dh z m k false=(Fw m k).getD z:=by unfold Dh Fw;cases BG k m<;>rfl
def CQ (z:D) (m:List (D × D)) (k:D):Dh z m k true=match Fw m k with
  | some d=>.tup [d,.bool true]
  | none=>.tup [z,.bool false]:=by
 unfold Dh Fw;cases BG k m<;>rfl
def DX (z:D) (m:List (D × AV)) (k:D):Gf z m k false=match Fw m k with
  | some v=>v
  | none=>.d z:=by
 unfold Gf Fw;cases BG k m<;>rfl
inductive Pt where
 | c (p:List UInt8) (x:Cel)
 | l (p:List UInt8) (kids:List Nd)
mutual
def Dp:Nd->List UInt8->List Pt
 | .mk _ _ ks kids,front=>Gb kids front ks
def Gb:List Nd->List UInt8->List (List UInt8)->List Pt
 | [],_,_=>[]
 | n::r,front,ks=>(if n.kind=6 then Dp n (front++ks.headD []++[46]) else if n.kind=5 then [.l (front++ks.headD []) n.kids] else [.c (front++ks.headD []) (B2 n)])++Gb r front ks.tail
end
def E7 (n:Nd) (r:List Nd) (front:List UInt8) (ks:List (List UInt8)):Gb (n::r) front ks =
  (if n.kind=6 then Dp n (front++ks.headD []++[46]) else if n.kind=5 then [.l (front++ks.headD []) n.kids] else [.c (front++ks.headD []) (B2 n)])++Gb r front ks.tail:=rfl
structure Ly where
 further:Bool
 above:List Int
 paths:List (List UInt8)
 rows:List (List UInt8->Option Cel)
 lists:List (List UInt8)
 sv:List UInt8->Nat
 it:List UInt8->List Elm
def Ln (r:List UInt8->Option Cel) (p:List UInt8) (x:Cel):List UInt8->Option Cel:=fun q=>if q=p then some ((r p).getD x) else r q
def CW {β:Type} (f:List UInt8->β) (p:List UInt8) (v:β):List UInt8->β:=fun q=>if q=p then v else f q
def Dm {β:Type} (f:List UInt8->β) (p:List UInt8) (v:β):CW f p v p=v:=by simp[CW]
def CV {β:Type} (f:List UInt8->β) {p q:List UInt8} (v:β) (h:¬q=p):CW f p v q=f q:=by simp[CW,h]
def Ly.single (s:Ly) (p:List UInt8) (x:Cel):Ly :=
 {s with paths:=if p∈s.paths then s.paths else s.paths++[p],rows:=s.rows.modify (s.rows.length-1) fun r=>Ln r p x}
def Ly.list (s:Ly) (p:List UInt8) (kids:List Nd):Ly :=
 if s.sv p=s.rows.length then s else
  {s with lists:=if s.sv p=0 then s.lists++[p] else s.lists,sv:=CW s.sv p s.rows.length,it:=CW s.it p (s.it p++kids.map fun k=>((s.rows.length:Int)-1,k))}
def Ly.part (s:Ly):Pt->Ly
 | .c p x=>s.single p x
 | .l p kids=>s.list p kids
def Ly.parts (s:Ly) (l:List Pt):Ly:=l.foldl Ly.part s
def Ly.parts_app (s:Ly) (a b:List Pt):s.parts (a++b)=(s.parts a).parts b:=by simp[Ly.parts]
def Ly.parts_one (s:Ly) (a:Pt):s.parts [a]=s.part a:=rfl
def ly0 (further:Bool):Ly:=⟨further,[],[],[],[],fun _=>0,fun _=>[]⟩
def Ly.row (s:Ly) (above:Int):Ly:={s with above:=s.above++[above],rows:=s.rows++[fun _=>none]}
def Ii:List UInt8:=[118,97,108,117,101]
def Ly.elm (recs:Bool) (s:Ly) (e:Elm):Ly:=(s.row e.1).parts (if recs=true then Dp e.2 [] else [.c Ii (B2 e.2)])
def AL (further:Bool) (l:List Elm):Ly:=l.foldl (Ly.elm (!l.any CE)) (ly0 further)
def Ly.single_rows (s:Ly) (p:List UInt8) (x:Cel):(s.single p x).rows.length=s.rows.length:=by simp[Ly.single]
def Ly.list_rows (s:Ly) (p:List UInt8) (k:List Nd):(s.list p k).rows=s.rows:=by unfold Ly.list;split<;>rfl
def Ly.part_rows (s:Ly) (q:Pt):(s.part q).rows.length=s.rows.length:=by
 cases q with
 | c p x=>exact s.single_rows p x
 | l p k=>exact congrArg _ (s.list_rows p k)
def Ly.parts_rows (s:Ly):∀ l:List Pt,(s.parts l).rows.length=s.rows.length
 | []=>rfl
 | q::r=>(Ly.parts_rows (s.part q) r).trans (s.part_rows q)
inductive Rl where
 | n (k:Nat)
 | i (p:List UInt8)
def Bm (s:Ly):Rl->Prop
 | .n k=>k<8+s.rows.length
 | .i p=>¬s.it p=[]
def Je (L:Rl->Nat) (n:Nat):Aa:=if n=0 then .row false [] else .box ((Aeh n).map fun i=>.mp (L (.n (8+i))))
structure BB (L:Rl->Nat) (s:Ly) (H:List Aa):Prop where
 inj:∀ a b,Bm s a->Bm s b->L a=L b->a=b
 lt:∀ a,Bm s a->L a<H.length
 box:H[L (.n 0)]?=some (.box [.d (.bool s.further),.lsl (L (.n 2)) 1 0 s.above.length,.lsl (L (.n 3)) 1 0 s.paths.length,.lsl (L (.n 4)) 1 0 s.rows.length,.lsl (L (.n 5)) 1 0 s.lists.length,.mp (L (.n 6)),.mp (L (.n 7))])
 seen:∃ m:List (D × D),H[L (.n 1)]?=some (.map m)/\Ht m/\∀ p,Fw m (S p)=if p∈s.paths then some (.bool true) else none
 above:H[L (.n 2)]?=some (.row false (Au .i64 s.above))
 paths:H[L (.n 3)]?=some (.row false (strs s.paths))
 rows:H[L (.n 4)]?=some (Je L s.rows.length)
 lists:H[L (.n 5)]?=some (.row false (strs s.lists))
 items:∃ m:List (D × AV),H[L (.n 6)]?=some (.amap m)/\Ht m/\∀ p,Fw m (S p)=if s.it p=[] then none else some (.lsl (L (.i p)) 5 0 (s.it p).length)
 sev:∃ m:List (D × D),H[L (.n 7)]?=some (.map m)/\Ht m/\∀ p,Fw m (S p)=if s.sv p=0 then none else some (.int .i64 (s.sv p:Nat))
 row:∀ i,(h:i<s.rows.length)->∃ m:List (D × D),H[L (.n (8+i))]?=some (.map m)/\Ht m/\∀ p,Fw m (S p)=(s.rows[i] p).map fun c=>.agg (GI c)
 item:∀ p,¬s.it p=[]->H[L (.i p)]?=some (.row false (Bo (s.it p)))
def BB.ne {L:Rl->Nat} {s:Ly} {H:List Aa} (h:BB L s H) {a b:Rl} (ha:Bm s a) (hb:Bm s b) (hab:a≠b):¬L a=L b:=fun e=>hab (h.inj a b ha hb e)
end
section
open Go Go.Proofs Go.Abs
variable {G:Ah}
def Bi (L:Rl->Nat) (k N:Nat):Rl->Nat
 | .n j=>if j=k then N else L (.n j)
 | .i p=>L (.i p)
def Da (L:Rl->Nat) (k N:Nat):Bi L k N (.n k)=N:=by simp[Bi]
def AX (L:Rl->Nat) {k j:Nat} (N:Nat) (h:¬j=k):Bi L k N (.n j)=L (.n j):=by simp[Bi,h]
def UY (L:Rl->Nat) (k N:Nat) (p:List UInt8):Bi L k N (.i p)=L (.i p):=rfl
def NT {L:Rl->Nat} {s s':Ly} {H:List Aa} (h:BB L s H) {k N:Nat} (hN:H.length<=N) (hok:∀ a,Bm s' a->a≠.n k->Bm s a):∀ a b,Bm s' a->Bm s' b->Bi L k N a=Bi L k N b->a=b:=by
 have key:∀ a,Bm s' a->(a=.n k/\Bi L k N a=N)\/(a≠.n k/\Bm s a/\Bi L k N a=L a/\L a<N):=by
  intro a ha;by_cases e:a=.n k;·exact .inl ⟨e,by rw[e,Da]⟩
  have:=hok a ha e;have hl:=h.lt a this;refine .inr ⟨e,this,?_,by omega⟩;cases a with
  | n j=>exact AX L N fun q=>e (by rw[q])
  | i p=>rfl
 intro a b ha hb e;rcases key a ha with ⟨a1,a2⟩ | ⟨a1,a2,a3,a4⟩<;>rcases key b hb with ⟨b1,b2⟩ | ⟨b1,b2,b3,b4⟩
 ·rw[a1,b1]
 ·omega
 ·omega
 exact h.inj a b a2 b2 (by rw[<-a3,<-b3];exact e)
def BB.put {L:Rl->Nat} {s:Ly} {H K:List Aa} (h:BB L s H) (hl:H.length<=K.length) (hk:∀ a,Bm s a->K[L a]?=H[L a]?):BB L s K:=by
 have ok:∀ k,k<8+s.rows.length->Bm s (.n k):=fun k hk=>hk;refine ⟨h.inj,fun a ha=>AbS (h.lt a ha) hl,?_,?_,?_,?_,?_,?_,?_,?_,?_,?_⟩;·rw[hk _ (ok 0 (by omega))];exact h.box
 ·rw[hk _ (ok 1 (by omega))];exact h.seen
 ·rw[hk _ (ok 2 (by omega))];exact h.above
 ·rw[hk _ (ok 3 (by omega))];exact h.paths
 ·rw[hk _ (ok 4 (by omega))];exact h.rows
 ·rw[hk _ (ok 5 (by omega))];exact h.lists
 ·rw[hk _ (ok 6 (by omega))];exact h.items
 ·rw[hk _ (ok 7 (by omega))];exact h.sev
 ·intro i hi;rw[hk _ (ok (8+i) (by omega))];exact h.row i hi
 intro p hp;rw[hk (.i p) hp];exact h.item p hp
def BB.app {L:Rl->Nat} {s:Ly} {H:List Aa} (h:BB L s H) (E:List Aa):BB L s (H++E) :=
 h.put (by simp) fun a ha=>Az (h.lt a ha)
def BB.path {L:Rl->Nat} {s:Ly} {H K:List Aa} (h:BB L s H) {N:Nat} {p:List UInt8} (hp:¬p∈s.paths) (hN:H.length<=N) (hK:N<K.length) (hl:H.length<=K.length)
  (k0:K[L (.n 0)]?=some (.box [.d (.bool s.further),.lsl (L (.n 2)) 1 0 s.above.length,.lsl N 1 0 (s.paths.length+1),.lsl (L (.n 4)) 1 0 s.rows.length,.lsl (L (.n 5)) 1 0 s.lists.length,.mp (L (.n 6)),.mp (L (.n 7))]))
  (k1:∃ m:List (D × D),H[L (.n 1)]?=some (.map m)/\K[L (.n 1)]?=some (.map (BR m (S p) (.bool true)))) (k3:K[N]?=some (.row false (strs (s.paths++[p]))))
  (kr:∀ a,Bm s a->a≠.n 0->a≠.n 1->a≠.n 3->K[L a]?=H[L a]?):BB (Bi L 3 N) {s with paths:=s.paths++[p]} K:=by
 have ok:∀ k,k<8+s.rows.length->Bm s (.n k):=fun k hk=>hk;have ne:∀ {k j:Nat},k≠j->Rl.n k≠Rl.n j:=fun h e=>h (by cases e;rfl);have get:∀ k,k<8+s.rows.length->k≠0->k≠1->k≠3->K[Bi L 3 N (.n k)]?=H[L (.n k)]?:=fun k hk h0 h1 h3=>by rw[AX L N h3];exact kr _ (ok k hk) (ne h0) (ne h1) (ne h3)
 have s3:=Da L 3 N;have sk:∀ k,k≠3->Bi L 3 N (.n k)=L (.n k):=fun k hk=>AX L N hk;have hg:∀ a,Bm s a->Bi L 3 N a<K.length:=fun a ha=>by
  cases a with
  | n j =>
   by_cases e:j=3;·subst e;rw[s3];exact hK
   rw[sk j e];exact AbS (h.lt _ ha) hl
  | i q=>exact AbS (h.lt _ ha) hl
 refine ⟨NT (s':={s with paths:=s.paths++[p]}) h hN fun a ha _=>ha,hg,?_,?_,?_,?_,?_,?_,?_,?_,?_,?_⟩;·rw[sk 0 (by decide),sk 2 (by decide),s3,sk 4 (by decide),sk 5 (by decide),sk 6 (by decide),sk 7 (by decide),k0];simp
 ·obtain ⟨m,m1,m2⟩:=k1;obtain ⟨m',q1,q2,q3⟩:=h.seen;have:m=m':=by rw[m1] at q1;cases q1;rfl
  subst this;refine ⟨_,by rw[sk 1 (by decide)];exact m2,q2.upd _ _,fun q=>?_⟩;rw[IY q2,q3];by_cases e:q=p;·simp[e]
  simp[e]
 ·rw[get 2 (by omega) (by decide) (by decide) (by decide)];exact h.above
 ·rw[s3];exact k3
 ·rw[get 4 (by omega) (by decide) (by decide) (by decide),h.rows];unfold Je;have:∀ i,Bi L 3 N (.n (8+i))=L (.n (8+i)):=fun i=>sk _ (by omega);simp only[this]
 ·rw[get 5 (by omega) (by decide) (by decide) (by decide)];exact h.lists
 ·rw[get 6 (by omega) (by decide) (by decide) (by decide)];exact h.items
 ·rw[get 7 (by omega) (by decide) (by decide) (by decide)];exact h.sev
 ·intro i hi;rw[get (8+i) (by simp at hi;omega) (by omega) (by omega) (by omega)];exact h.row i hi
 intro q hq;have e:K[L (.i q)]?=H[L (.i q)]?:=kr (.i q) hq (by simp) (by simp) (by simp);rw[UY,e];exact h.item q hq
def BB.cell {L:Rl->Nat} {s:Ly} {H K:List Aa} (h:BB L s H) {p:List UInt8} {x:Cel} (hr:0<s.rows.length) (hl:H.length<=K.length)
  (k1:∃ m:List (D × D),H[L (.n (8+(s.rows.length-1)))]?=some (.map m)/\K[L (.n (8+(s.rows.length-1)))]?=some (.map (BR m (S p) (.agg (GI x))))) (hno:(s.rows.getD (s.rows.length-1) fun _=>none) p=none)
  (kr:∀ a,Bm s a->a≠.n (8+(s.rows.length-1))->K[L a]?=H[L a]?):BB L {s with rows:=s.rows.modify (s.rows.length-1) fun r=>Ln r p x} K:=by
 have ok:∀ k,k<8+s.rows.length->Bm s (.n k):=fun k hk=>hk;have ne:∀ {k j:Nat},k≠j->Rl.n k≠Rl.n j:=fun h e=>h (by cases e;rfl);have get:∀ k,k<8->K[L (.n k)]?=H[L (.n k)]?:=fun k hk=>kr _ (ok k (by omega)) (ne (by omega));have lr:(s.rows.modify (s.rows.length-1) fun r=>Ln r p x).length=s.rows.length:=by simp
 have okk:∀ a,Bm {s with rows:=s.rows.modify (s.rows.length-1) fun r=>Ln r p x} a->Bm s a:=fun a ha=>by
  cases a with
  | n j=>have:j<8+(s.rows.modify (s.rows.length-1) fun r=>Ln r p x).length:=ha;rw[lr] at this;exact this
  | i q=>exact ha
 refine ⟨fun a b ha hb=>h.inj a b (okk a ha) (okk b hb),fun a ha=>AbS (h.lt a (okk a ha)) hl,?_,?_,?_,?_,?_,?_,?_,?_,?_,?_⟩;·rw[get 0 (by omega),h.box,lr]
 ·rw[get 1 (by omega)];exact h.seen
 ·rw[get 2 (by omega)];exact h.above
 ·rw[get 3 (by omega)];exact h.paths
 ·rw[get 4 (by omega),lr];exact h.rows
 ·rw[get 5 (by omega)];exact h.lists
 ·rw[get 6 (by omega)];exact h.items
 ·rw[get 7 (by omega)];exact h.sev
 ·intro i hi;simp only[lr] at hi;by_cases e:i=s.rows.length-1
  ·subst e;obtain ⟨m,m1,m2⟩:=k1;obtain ⟨m',q1,q2,q3⟩:=h.row _ hi;have:m=m':=by rw[m1] at q1;cases q1;rfl
   subst this;refine ⟨_,m2,q2.upd _ _,fun q=>?_⟩;rw[IY q2,q3];simp only[AdY,if_true,Ln];have hno':s.rows[s.rows.length-1] p=none:=(by rw[AbH,AbM hi] at hno;exact hno)
   by_cases e:q=p;·subst e;simp[hno']
   simp[e]
  rw[kr _ (ok (8+i) (by omega)) (ne (by omega))];simp only[AdY,if_neg (Ne.symm e)];exact h.row i hi
 intro q hq;rw[kr (.i q) hq (by simp)];exact h.item q hq
def Ly.same_cell {s:Ly} {p:List UInt8} {x c:Cel} (h:(s.rows.getD (s.rows.length-1) fun _=>none) p=some c):(s.rows.modify (s.rows.length-1) fun r=>Ln r p x)=s.rows:=by
 refine Aep (by simp) fun i h1 h2=>?_;rw[AdY];split
 ·rename_i e;subst e;rw[AbH,AbM h2] at h;simp only[AdV] at h;funext q;unfold Ln;by_cases e:q=p;·subst e;simp[h]
  simp[e]
 rfl
structure CI (L:Rl->Nat) (s:Ly) (H:List Aa) (L':Rl->Nat) (s':Ly) (H':List Aa):Prop where
 n0:L' (.n 0)=L (.n 0)
 n1:L' (.n 1)=L (.n 1)
 len:H.length<=H'.length
 keep:∀ i,i<H.length->(∀ a,Bm s a->L a≠i)->H'[i]?=H[i]?
 old:∀ a,Bm s' a->(∃ b,Bm s b/\L b=L' a)\/H.length<=L' a
def CI.refl (L:Rl->Nat) (s:Ly) (H:List Aa):CI L s H L s H:=⟨rfl,rfl,AdF _,fun _ _ _=>rfl,fun a ha=>.inl ⟨a,ha,rfl⟩⟩
def CI.trans {L1 L2 L3:Rl->Nat} {s1 s2 s3:Ly} {H1 H2 H3:List Aa} (a:CI L1 s1 H1 L2 s2 H2) (b:CI L2 s2 H2 L3 s3 H3):CI L1 s1 H1 L3 s3 H3:=by
 refine ⟨b.n0.trans a.n0,b.n1.trans a.n1,AdZ a.len b.len,fun i hi hr=>?_,fun x hx=>?_⟩
 ·rw[b.keep i (AbS hi a.len) fun x hx e=>?_,a.keep i hi hr];rcases a.old x hx with ⟨y,h1,h2⟩ | h1
  ·exact hr y h1 (h2.trans e)
  omega
 rcases b.old x hx with ⟨y,h1,h2⟩ | h1
 ·rcases a.old y h1 with ⟨z,h3,h4⟩ | h3
  ·exact .inl ⟨z,h3,h4.trans h2⟩
  exact .inr (h2▸h3)
 exact .inr (AdZ a.len h1)
def CI.app (L:Rl->Nat) (s:Ly) (H E:List Aa):CI L s H L s (H++E):=⟨rfl,rfl,by simp,fun i hi _=>Az hi,fun a ha=>.inl ⟨a,ha,rfl⟩⟩
def J4 {s s':Ly} (h1:s'.rows.length=s.rows.length) (h2:s'.it=s.it) {a:Rl} (h:Bm s' a):Bm s a:=by
 cases a with
 | n k=>show k<8+s.rows.length;rw[<-h1];exact h
 | i p=>show ¬s.it p=[];rw[<-h2];exact h
def JW {L:Rl->Nat} {s:Ly} {H:List Aa} {k N:Nat} (hN:H.length<=N) {a:Rl} (ha:Bm s a):(∃ b,Bm s b/\L b=Bi L k N a)\/H.length<=Bi L k N a:=by
 cases a with
 | n j =>
  by_cases e:j=k;·subst e;rw[Da];exact .inr hN
  rw[AX L N e];exact .inl ⟨_,ha,rfl⟩
 | i p=>exact .inl ⟨_,ha,rfl⟩
end
end Go.Proofs.YtmidaophnbdcdaaGreatDoor
