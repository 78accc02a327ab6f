/-
  The abstract machine, part 1: data, abstract values, how they are held by memory, and how memory may grow.
-/
import Derived.Orders
import Derived.OrdersIn
import Derived.RangeFuncLeaves
import Derived.RangeFuncRecord
import Derived.Laws.Append
import Derived.Laws.CopyRow
import Derived.Laws.Rows
import Derived.Laws.MakeOwn
import Derived.Laws.World
import Derived.IntWalk
import Derived.Tactics
import Derived.Laws.Tables
import Derived.Laws.Small
import Derived.Laws.Slices
import Derived.Laws.StructEq
set_option linter.all false
open List renaming getElem?_eq_some_iff->AaZ,getElem?_eq_getElem->Aa0,getElem?_map->Ada,getElem?_range->Adi,eq_nil_of_length_eq_zero->Adj,getElem?_take->Adl,length_append->Adm,getElem?_append->Adn,range->Ado,getD_eq_getElem?_getD->Adq,getElem?_drop->Aet,getElem?_toArray->AeL,size_toArray->AeT,getElem_of_mem->Ae8,getElem?_eq_none_iff->Afe,mem_cons->Afg,map_cons->Afh,length_take->Afj,mem_cons_of_mem->Afp,getElem?_set->Aft,map_map->Afv,all_eq_true->Afx,getElem_mem->Afy,map_toArray->Afz,length_map->AfA,head?_drop->AfB,tail_drop->AfD,map_nil->AfG
open Array renaming getElem?_eq_getElem->Ac7,getElem?_map->AeI,getElem?_toList->AeK,getElem?_append->AeQ,size_append->AeR,getElem?_range->AeU,getElem?_extract->Afm,mem_of_getElem?->Afo,range->AfH,ext'->AfI
open Option renaming map_some->Adf,isSome_iff_exists->Afi,getD_some->Afl,map_none->AfC,map->AfE
open Nat renaming mul_le_mul_right->Adk,add_mul->Adp,le_refl->AeJ,sub_self->Ae6,zero_add->Afc,eq_zero_or_pos->Afd,add_assoc->Aff,zero_mul->Afn,lt_of_lt_of_le->Afr,le_of_eq->Afu,le_trans->AfF
open Int renaming le_refl->Ae7,toNat_natCast->Afw
open Bool renaming and_eq_true->Afk,false_eq_true->Afs
open Function renaming comp->Afq
namespace Go.Abs
open Go
inductive D where
 | int (k:IntKind) (n:Int)
 | bool (b:Bool)
 | str (s:ByteArray)
 | sl (n:Nat) (full:Bool) (cells:List D)
 | agg (cells:List D)
 | tup (vs:List D)
 | fn (f:Fn) (first captured:List D)
 | nilp
 | nilm
 | nili
 | ifc
 | nilf
 | esl
 | val (v:Value)
inductive AV where
 | d (x:D)
 | lsl (b sz off n:Nat)
 | ptr (b off:Nat)
 | rptr (off:Nat) (cells:List D)
 | mp (b:Nat)
 | agg (cells:List AV)
 | tup (vs:List AV)
 | fn (f:Fn) (first captured:List AV)
 | undef
instance:Inhabited AV:=⟨.undef⟩
instance:Inhabited D:=⟨.nilp⟩
abbrev Aj:=Nat->Nat->Option Value
abbrev Place:=Nat->Option (Nat × Nat)
inductive Ae where
 | dead
 | row (fz:Bool) (cells:List D)
 | box (cells:List AV)
 | map (entries:List (D × D))
 | amap (entries:List (D × AV))
 | iter (s:ByteArray) (pos:Nat)
 | bld (T:TypeId) (used:Bool) (n:Nat) (k:Option Nat)
 | buf (e:TypeId) (l:List UInt8)
 | ext (J:List (D × Bool)->Aj->Place->World->Prop) (todo:List (D × Bool))
def D.one:D->Bool
 | .agg _ | .tup _ | .val _=>false
 | _=>true
inductive RD (h:Aj):Value->D->Prop
 | int (k:IntKind) (n:Int):RD h (.int k n) (.int k n)
 | bool (b:Bool):RD h (.bool b) (.bool b)
 | str (s:ByteArray):RD h (.string s) (.str s)
 | sl0 (base:Option Addr) (full:Bool):RD h (.slice base 0 0) (.sl 0 full [])
 | sl (g off n cap:Nat) (full:Bool) (cells:List D) (vs:Nat->Value) (hn:n<=cap) (hf:full=true->cap=n)
   (hh:∀ (i:Nat) x,cells[i]?=some x->h g (off+i)=some (vs i)) (hr:∀ (i:Nat) x,cells[i]?=some x->RD h (vs i) x) (h1:∀ (i:Nat) x,cells[i]?=some x->x.one=true) :
   RD h (.slice (some ⟨g,off,none⟩) n cap) (.sl n full cells)
 | agg (vs:Array Value) (cells:List D) (hl:vs.size=cells.length) (hr:∀ (i:Nat) v x,vs[i]?=some v->cells[i]?=some x->RD h v x):RD h (.agg vs) (.agg cells)
 | tup (vs:Array Value) (cells:List D) (hl:vs.size=cells.length) (hr:∀ (i:Nat) v x,vs[i]?=some v->cells[i]?=some x->RD h v x):RD h (.tuple vs) (.tup cells)
 | fn (f:Fn) (vs us:Array Value) (first captured:List D) (hl:vs.size=first.length) (hl':us.size=captured.length)
   (hr:∀ (i:Nat) v x,vs[i]?=some v->first[i]?=some x->RD h v x) (hr':∀ (i:Nat) v x,us[i]?=some v->captured[i]?=some x->RD h v x):RD h (.func f vs us) (.fn f first captured)
 | nilp:RD h (.pointer none) .nilp
 | nilm:RD h (.map none) .nilm
 | nili:RD h .nilIface .nili
 | ifc (t:TypeId) (v:Value):RD h (.iface t v) .ifc
 | nilf:RD h .nilFunc .nilf
 | esl (a:Addr):RD h (.slice (some a) 0 0) .esl
 | val (v:Value):RD h v (.val v)
inductive R (h:Aj) (ρ:Place):Value->AV->Prop
 | d (v:Value) (x:D) (hx:RD h v x):R h ρ v (.d x)
 | lsl0 (base:Option Addr) (b sz off:Nat):R h ρ (.slice base 0 0) (.lsl b sz off 0)
 | lsl (b sz off n cap g S:Nat) (hρ:ρ b=some (g,S)) (hn:n<=cap) (hc:off+cap*sz<=S):R h ρ (.slice (some ⟨g,off,none⟩) n cap) (.lsl b sz off n)
 | ptr (b off g S:Nat) (hρ:ρ b=some (g,S)):R h ρ (.pointer (some ⟨g,off,none⟩)) (.ptr b off)
 | rptr (g base off:Nat) (cells:List D) (vs:Nat->Value) (hh:∀ (i:Nat) x,cells[i]?=some x->h g (base+i)=some (vs i))
   (hr:∀ (i:Nat) x,cells[i]?=some x->RD h (vs i) x):R h ρ (.pointer (some ⟨g,base+off,none⟩)) (.rptr off cells)
 | mp (b g S:Nat) (hρ:ρ b=some (g,S)):R h ρ (.map (some g)) (.mp b)
 | agg (vs:Array Value) (cells:List AV) (hl:vs.size=cells.length) (hr:∀ (i:Nat) v x,vs[i]?=some v->cells[i]?=some x->R h ρ v x):R h ρ (.agg vs) (.agg cells)
 | tup (vs:Array Value) (cells:List AV) (hl:vs.size=cells.length) (hr:∀ (i:Nat) v x,vs[i]?=some v->cells[i]?=some x->R h ρ v x):R h ρ (.tuple vs) (.tup cells)
 | fn (f:Fn) (vs us:Array Value) (first captured:List AV) (hl:vs.size=first.length) (hl':us.size=captured.length)
   (hr:∀ (i:Nat) v x,vs[i]?=some v->first[i]?=some x->R h ρ v x) (hr':∀ (i:Nat) v x,us[i]?=some v->captured[i]?=some x->R h ρ v x):R h ρ (.func f vs us) (.fn f first captured)
 | undef (v:Value):R h ρ v .undef
def Aj.le (h h':Aj):Prop:=∀ b o v,h b o=some v->h' b o=some v
def Place.le (ρ ρ':Place):Prop:=∀ i x,ρ i=some x->ρ' i=some x
def Aj.le_refl (h:Aj):h.le h:=fun _ _ _ e=>e
def Aj.le_trans {a b c:Aj} (x:a.le b) (y:b.le c):a.le c:=fun _ _ _ e=>y _ _ _ (x _ _ _ e)
def Place.le_refl (h:Place):h.le h:=fun _ _ e=>e
def Place.le_trans {a b c:Place} (x:a.le b) (y:b.le c):a.le c:=fun _ _ e=>y _ _ (x _ _ e)
def RD.mono {h h':Aj} (hh:h.le h') {v:Value} {x:D} (r:RD h v x):RD h' v x:=by
 induction r with
 | int k n=>exact .int k n
 | bool b=>exact .bool b
 | str s=>exact .str s
 | sl0 b f=>exact .sl0 b f
 | sl g off n cap full cells vs hn hf h1 _ ho ih=>exact .sl g off n cap full cells vs hn hf (fun i x e=>hh _ _ _ (h1 i x e)) ih ho
 | agg vs cells hl _ ih=>exact .agg vs cells hl ih
 | tup vs cells hl _ ih=>exact .tup vs cells hl ih
 | fn f vs us a b hl hl' _ _ ih ih'=>exact .fn f vs us a b hl hl' ih ih'
 | nilp=>exact .nilp
 | nilm=>exact .nilm
 | nili=>exact .nili
 | ifc t v=>exact .ifc t v
 | nilf=>exact .nilf
 | esl a=>exact .esl a
 | val v=>exact .val v
def R.mono {h h':Aj} {ρ ρ':Place} (hh:h.le h') (hp:ρ.le ρ') {v:Value} {x:AV} (r:R h ρ v x):R h' ρ' v x:=by
 induction r with
 | d v x hx=>exact .d v x (hx.mono hh)
 | lsl0 base b sz off=>exact .lsl0 base b sz off
 | lsl b sz off n cap g S hρ hn hc=>exact .lsl b sz off n cap g S (hp _ _ hρ) hn hc
 | ptr b off g S hρ=>exact .ptr b off g S (hp _ _ hρ)
 | rptr g base off cells vs h1 h2=>exact .rptr g base off cells vs (fun i x e=>hh _ _ _ (h1 i x e)) (fun i x e=>(h2 i x e).mono hh)
 | mp b g S hρ=>exact .mp b g S (hp _ _ hρ)
 | agg vs cells hl _ ih=>exact .agg vs cells hl ih
 | tup vs cells hl _ ih=>exact .tup vs cells hl ih
 | fn f vs us a b hl hl' _ _ ih ih'=>exact .fn f vs us a b hl hl' ih ih'
 | undef v=>exact .undef v
def RL (h:Aj) (ρ:Place) (vs:Array Value) (xs:List AV):Prop:=vs.size=xs.length/\∀ (i:Nat) v x,vs[i]?=some v->xs[i]?=some x->R h ρ v x
def RL.mono {h h':Aj} {ρ ρ':Place} (hh:h.le h') (hp:ρ.le ρ') {vs:Array Value} {xs:List AV} (r:RL h ρ vs xs):RL h' ρ' vs xs :=
 ⟨r.1,fun i v x a b=>(r.2 i v x a b).mono hh hp⟩
abbrev Bf:=Nat->Option Ae
def Kc (S:Nat) (fr:Nat × Nat):Prop:=∀ j,j<S->¬(fr.1<=j/\j<fr.2)
structure RM (h:Aj) (ρ:Place) (w:World) (h':Aj) (ρ':Place) (w':World):Prop where
 os:w'.os=w.os
 tape:w'.tape=w.tape
 output:w'.output=w.output
 size:w.heap.size<=w'.heap.size
 keep:∀ k,k<w.heap.size->(∀ i S,ρ i≠some (k,S))->w'.heap[k]?=w.heap[k]?
 mono:h.le h'
 new:∀ k,k<w.heap.size->(∀ i S,ρ i≠some (k,S))->∀ o,h' k o=h k o
 rnew:∀ i g S,ρ' i=some (g,S)->(∃ j S',ρ j=some (g,S'))\/w.heap.size<=g
def S6 (J:List (D × Bool)->Aj->Place->World->Prop):Prop :=
 ∀ t h ρ w h' ρ' w',J t h ρ w->RM h ρ w h' ρ' w'->(∀ b o v,h' b o=some v->w'.cell? ⟨b,o,none⟩=some v)->J t h' ρ' w'
def LP (es:Array MapEntry) (clock:Nat):Prop:=(∀ e∈es.toList,e.born<clock)/\(es.toList.map (·.born)).Nodup
def LP.nil:LP #[] 0:=⟨by simp,by simp⟩
def HK (h:Aj) (es:Array MapEntry) (l:List (D × D)):Prop :=
 es.size=l.length/\∀ (i:Nat) e p,es[i]?=some e->l[i]?=some p->RD h e.key p.1/\RD h e.val p.2
def Gp (h:Aj) (ρ:Place) (es:Array MapEntry) (l:List (D × AV)):Prop :=
 es.size=l.length/\∀ (i:Nat) e p,es[i]?=some e->l[i]?=some p->RD h e.key p.1/\R h ρ e.val p.2
def U1 (ρ:Place) (v:Value) (n:Nat):Option Nat->Prop
 | none=>v=.slice none 0 0/\n=0
 | some k=>(v=.slice none 0 0/\n=0)\/∃ g cap,v=.slice (some ⟨g,0,none⟩) n cap/\ρ k=some (g,cap)/\n<=cap
def U1.ren {ρ ρ':Place} {f:Nat->Nat} {v:Value} {n:Nat} {k:Option Nat} (hf:∀ b x,k=some b->ρ b=some x->ρ' (f b)=some x) (r:U1 ρ v n k):U1 ρ' v n (k.map f):=by
 cases k with
 | none=>exact r
 | some b =>
  rcases r with r | ⟨g,cap,h1,h2,h3⟩
  ·exact .inl r
  exact .inr ⟨g,cap,h1,hf _ _ rfl h2,h3⟩
def U1.mono {ρ ρ':Place} {v:Value} {n:Nat} {k:Option Nat} (hp:ρ.le ρ') (r:U1 ρ v n k):U1 ρ' v n k:=by have:=r.ren (f:=id) fun b x _ e=>hp b x e;simpa using this
def GZ (h:Aj) (ρ:Place) (w:World) (i:Nat):Ae->Prop
 | .dead=>True
 | .row fz cells=>(∀ (j:Nat) x,cells[j]?=some x->x.one=true)/\((ρ i=none/\cells=[])\/∃ g S c E fr,ρ i=some (g,S)/\w.heap[g]?=some (.cells c E fr)/\c.size=S/\Kc S fr/\cells.length<=S /\
   (∀ (j:Nat) x v,cells[j]?=some x->c[j]?=some v->RD h v x)/\(fz=true->∀ j,j<cells.length->h g j=c[j]?)/\(∀ j,(fz=true->cells.length<=j)->h g j=none))
 | .box cells=>∃ g S c E fr,ρ i=some (g,S)/\w.heap[g]?=some (.cells c E fr)/\c.size=S/\Kc S fr/\cells.length<=S /\
   (∀ (j:Nat) x v,cells[j]?=some x->c[j]?=some v->R h ρ v x)/\(∀ j,h g j=none)
 | .map l=>∃ g S es clock,ρ i=some (g,S)/\w.heap[g]?=some (.map es clock)/\HK h es l/\(∀ j,h g j=none)/\LP es clock
 | .amap l=>∃ g S es clock,ρ i=some (g,S)/\w.heap[g]?=some (.map es clock)/\Gp h ρ es l/\(∀ j,h g j=none)/\LP es clock
 | .iter s pos=>∃ g S,ρ i=some (g,S)/\w.heap[g]?=some (.stringIter s pos)/\(∀ j,h g j=none)
 | .bld T used n k=>∃ g S v,ρ i=some (g,S)/\w.heap[g]?=some (.cells #[.pointer (if used then some ⟨g,0,none⟩ else none),v] T (0,0))/\U1 ρ v n k/\(∀ j,h g j=none)
 | .buf e l=>(ρ i=none/\l=[])\/∃ g S c,ρ i=some (g,S)/\w.heap[g]?=some (.cells c e (0,0))/\c.size=S/\S<=maxLen/\l.length<=S/\(∀ (j:Nat) x,l[j]?=some x->c[j]?=some (.int .u8 x.toNat))/\(∀ j,h g j=none)
 | .ext J t=>i=0/\S6 J/\J t h ρ w
def BP (H:Bf) (i:Nat):Prop:=∃ b,H i=some b/\b≠.dead
abbrev Ah:=Nat->Option (List D)
structure Sim (G:Ah) (h:Aj) (ρ:Place) (H:Bf) (w:World):Prop where
 prom:∀ b o v,h b o=some v->w.cell? ⟨b,o,none⟩=some v
 glob:∀ g ds,G g=some ds->∃ vs:Nat->Value,(∀ (i:Nat) x,ds[i]?=some x->h g i=some (vs i))/\(∀ (i:Nat) x,ds[i]?=some x->RD h (vs i) x)
 blk:∀ i b,H i=some b->GZ h ρ w i b
 dom:∀ i g S,ρ i=some (g,S)->g<w.heap.size/\∃ b,H i=some b
 inj:∀ i j g S S',ρ i=some (g,S)->ρ j=some (g,S')->BP H i->BP H j->i=j
structure Bg (h:Aj) (ρ:Place) (w:World) (h':Aj) (ρ':Place) (w':World):Prop where
 os:w'.os=w.os
 tape:w'.tape=w.tape
 output:w'.output=w.output
 size:w.heap.size<=w'.heap.size
 keep:∀ k,k<w.heap.size->(∀ i S,ρ i≠some (k,S))->w'.heap[k]?=w.heap[k]?
 mono:h.le h'
 new:∀ k,k<w.heap.size->(∀ i S,ρ i≠some (k,S))->∀ o,h' k o=h k o
 rmono:ρ.le ρ'
 rnew:∀ i g S,ρ' i=some (g,S)->(∃ j S',ρ j=some (g,S'))\/w.heap.size<=g
def Bg.n {h:Aj} {ρ:Place} {w:World} {h':Aj} {ρ':Place} {w':World} (s:Bg h ρ w h' ρ' w'):RM h ρ w h' ρ' w' :=
 ⟨s.os,s.tape,s.output,s.size,s.keep,s.mono,s.new,s.rnew⟩
def Bg.refl (h:Aj) (ρ:Place) (w:World):Bg h ρ w h ρ w :=
 ⟨rfl,rfl,rfl,AeJ _,fun _ _ _=>rfl,Aj.le_refl _,fun _ _ _ _=>rfl,Place.le_refl _,fun i g S e=>.inl ⟨i,S,e⟩⟩
def Bg.trans {h h' h'':Aj} {ρ ρ' ρ'':Place} {w w' w'':World} (a:Bg h ρ w h' ρ' w') (b:Bg h' ρ' w' h'' ρ'' w''):Bg h ρ w h'' ρ'' w'':=by
 have key:∀ k,k<w.heap.size->(∀ i S,ρ i≠some (k,S))->∀ i S,ρ' i≠some (k,S):=by
  intro k hk hn i S e;rcases a.rnew i k S e with ⟨j,S',hj⟩ | hj
  ·exact hn j S' hj
  omega
 refine ⟨b.os.trans a.os,b.tape.trans a.tape,b.output.trans a.output,AfF a.size b.size,?_,Aj.le_trans a.mono b.mono,?_,Place.le_trans a.rmono b.rmono,?_⟩;·intro k hk hn;rw[b.keep k (Afr hk a.size) (key k hk hn),a.keep k hk hn]
 ·intro k hk hn o;rw[b.new k (Afr hk a.size) (key k hk hn),a.new k hk hn]
 intro i _ S e;rcases b.rnew i _ S e with ⟨j,S',hj⟩ | hj
 ·rcases a.rnew j _ S' hj with h1 | h1
  ·exact .inl h1
  exact .inr h1
 exact .inr (AfF a.size hj)
def SR (h:Aj) (ρ:Place) (tmps:Array Value) (s:List AV):Prop:=tmps.size=s.length/\∀ (t:Nat) v x,tmps[t]?=some v->s[t]?=some x->R h ρ v x
def SR.mono {h h':Aj} {ρ ρ':Place} (hh:h.le h') (hp:ρ.le ρ') {vs:Array Value} {xs:List AV} (r:SR h ρ vs xs):SR h' ρ' vs xs :=
 ⟨r.1,fun i v x a b=>(r.2 i v x a b).mono hh hp⟩
def SR.put {h:Aj} {ρ:Place} {a:Act} {s:List AV} (r:SR h ρ a.tmps s) (d:Nat) {v:Value} {x:AV} (hv:R h ρ v x):SR h ρ (a.put (some d) v).tmps (s.set d x):=by
 refine ⟨by simp[Act.put,r.1],fun t u y hu hy=>?_⟩;simp only[Act.put,Array.getElem?_setIfInBounds] at hu;rw[Aft] at hy;by_cases e:d=t
 ·subst e;have hsz:=r.1;simp only[if_true] at hu hy;split at hu
  ·split at hy;·cases hu;cases hy;exact hv
   cases hy
  cases hu
 simp only[e,if_false] at hu hy;exact r.2 t u y hu hy
def Cp:Value->AV
 | .int k n=>.d (.int k n)
 | .bool b=>.d (.bool b)
 | .string s=>.d (.str s)
 | .slice none 0 0=>.d (.sl 0 true [])
 | .pointer none=>.d .nilp
 | .map none=>.d .nilm
 | .nilIface=>.d .nili
 | .nilFunc=>.d .nilf
 | _=>.undef
def Gb:Value->AV
 | .agg cs=>.agg (cs.toList.map Cp)
 | v=>Cp v
def PN (h:Aj) (ρ:Place) (v:Value):R h ρ v (Cp v):=by
 unfold Cp;split;·exact .d _ _ (.int _ _)
 ·exact .d _ _ (.bool _)
 ·exact .d _ _ (.str _)
 ·exact .d _ _ (.sl0 _ _)
 ·exact .d _ _ .nilp
 ·exact .d _ _ .nilm
 ·exact .d _ _ .nili
 ·exact .d _ _ .nilf
 exact .undef _
def ZD (h:Aj) (ρ:Place) (v:Value):R h ρ v (Gb v):=by
 unfold Gb;split;·rename_i cs;refine .agg cs _ (by simp) (fun i v x hv hx=>?_);simp only[Ada,AeK,hv,Adf,Option.some.injEq] at hx;subst hx;exact PN h ρ v
 exact PN h ρ v
def evalA (G:Ah) (s:List AV):Operand->AV
 | .tmp t=>s.getD t .undef
 | .const v=>Gb v
 | .global g=>match G g with | some ds=>.rptr 0 ds | none=>.undef
 | .func f=>.fn (.func f) [] []
def Iy {G:Ah} {h:Aj} {ρ:Place} {H:Bf} {w:World} {a:Act} {s:List AV} (hs:Sim G h ρ H w) (hr:SR h ρ a.tmps s) (x:Operand) :
  R h ρ (a.eval x) (evalA G s x):=by
 cases x with
 | tmp t =>
  simp only[Act.eval,evalA,Array.getD_eq_getD_getElem?,Adq];cases hv:a.tmps[t]? with
  | none =>
   have:s[t]?=none:=by have:=hr.1;rw[Array.getElem?_eq_none_iff] at hv;rw[Afe];omega
   rw[this];exact .undef _
  | some v =>
   cases hx:s[t]? with
   | none =>have:=hr.1;rw[Afe] at hx;have:=(Array.getElem?_eq_some_iff.1 hv).1;omega
   | some x=>exact hr.2 t v x hv hx
 | const v=>exact ZD h ρ v
 | global g =>
  simp only[Act.eval,evalA];split;·rename_i ds hg;obtain ⟨vs,h1,h2⟩:=hs.glob g ds hg;exact .rptr g 0 0 ds vs (fun i x e=>by simpa using h1 i x e) h2
  exact .undef _
 | func f =>exact .fn (.func f) #[] #[] [] [] rfl rfl (by simp) (by simp)
def HK.mono {h h':Aj} (hh:h.le h') {es:Array MapEntry} {l:List (D × D)} (m:HK h es l):HK h' es l :=
 ⟨m.1,fun i e p a b=>⟨(m.2 i e p a b).1.mono hh,(m.2 i e p a b).2.mono hh⟩⟩
def Gp.mono {h h':Aj} {ρ ρ':Place} (hh:h.le h') (hp:ρ.le ρ') {es:Array MapEntry} {l:List (D × AV)} (m:Gp h ρ es l):Gp h' ρ' es l :=
 ⟨m.1,fun i e p a b=>⟨(m.2 i e p a b).1.mono hh,(m.2 i e p a b).2.mono hh hp⟩⟩
def GZ.frame {h h':Aj} {ρ ρ':Place} {w w':World} {i:Nat} {b:Ae} (r:GZ h ρ w i b) (hst:RM h ρ w h' ρ' w') (hpr:∀ b o v,h' b o=some v->w'.cell? ⟨b,o,none⟩=some v) (hh:h.le h') (hp:ρ.le ρ')
  (hk:∀ g S,ρ i=some (g,S)->w'.heap[g]?=w.heap[g]?/\∀ o,h' g o=h g o) (hn:ρ i=none->ρ' i=none):GZ h' ρ' w' i b:=by
 cases b with
 | dead=>trivial
 | row fz cells =>
  obtain ⟨h0,r⟩:=r;rcases r with ⟨h1,h2⟩ | ⟨g,S,c,E,fr,h1,h2,h3,h4,h5,h6,h7,h8⟩
  ·exact ⟨h0,.inl ⟨hn h1,h2⟩⟩
  obtain ⟨k1,k2⟩:=hk g S h1;exact ⟨h0,.inr ⟨g,S,c,E,fr,hp _ _ h1,k1.trans h2,h3,h4,h5,fun j x v a b=>(h6 j x v a b).mono hh,fun f j hj=>(k2 j).trans (h7 f j hj),fun j hj=>(k2 j).trans (h8 j hj)⟩⟩
 | box cells =>obtain ⟨g,S,c,E,fr,h1,h2,h3,h4,h5,h6,h7⟩:=r;obtain ⟨k1,k2⟩:=hk g S h1;exact ⟨g,S,c,E,fr,hp _ _ h1,k1.trans h2,h3,h4,h5,fun j x v a b=>(h6 j x v a b).mono hh hp,fun j=>(k2 j).trans (h7 j)⟩
 | map l =>obtain ⟨g,S,es,clock,h1,h2,h3,h4,h5⟩:=r;obtain ⟨k1,k2⟩:=hk g S h1;exact ⟨g,S,es,clock,hp _ _ h1,k1.trans h2,h3.mono hh,fun j=>(k2 j).trans (h4 j),h5⟩
 | amap l =>obtain ⟨g,S,es,clock,h1,h2,h3,h4,h5⟩:=r;obtain ⟨k1,k2⟩:=hk g S h1;exact ⟨g,S,es,clock,hp _ _ h1,k1.trans h2,h3.mono hh hp,fun j=>(k2 j).trans (h4 j),h5⟩
 | iter s pos =>obtain ⟨g,S,h1,h2,h4⟩:=r;obtain ⟨k1,k2⟩:=hk g S h1;exact ⟨g,S,hp _ _ h1,k1.trans h2,fun j=>(k2 j).trans (h4 j)⟩
 | bld T used n k =>obtain ⟨g,S,v,h1,h2,h3,h4⟩:=r;obtain ⟨k1,k2⟩:=hk g S h1;exact ⟨g,S,v,hp _ _ h1,k1.trans h2,h3.mono hp,fun j=>(k2 j).trans (h4 j)⟩
 | buf e l =>
  rcases r with ⟨h1,h2⟩ | ⟨g,S,c,h1,h2,h3,h4,h5,h6,h7⟩
  ·exact .inl ⟨hn h1,h2⟩
  obtain ⟨k1,k2⟩:=hk g S h1;exact .inr ⟨g,S,c,hp _ _ h1,k1.trans h2,h3,h4,h5,h6,fun j=>(k2 j).trans (h7 j)⟩
 | ext J t=>exact ⟨r.1,r.2.1,r.2.1 _ _ _ _ _ _ _ r.2.2 hst hpr⟩
def An (H:Bf):List (Nat × Ae)->Bf
 | []=>H
 | (i,b)::r=>An (fun j=>if j=i then some b else H j) r
def Fg (ρ:Place) (i:Nat) (x:Nat × Nat):Place:=fun j=>if j=i then some x else ρ j
def Ax (ρ:Place) (i:Nat) (x:Nat × Nat):Fg ρ i x i=some x:=by simp[Fg]
def BG (ρ:Place) {i j:Nat} (x:Nat × Nat) (h:j≠i):Fg ρ i x j=ρ j:=by simp[Fg,h]
def IQ {ρ:Place} {i:Nat} (x:Nat × Nat) (h:ρ i=none):ρ.le (Fg ρ i x):=by
 intro j y e;by_cases hj:j=i;·subst hj;rw[h] at e;cases e
 rw[BG ρ x hj];exact e
section
variable {G:Ah} {h:Aj} {ρ:Place} {H:Bf} {w:World}
def Sim.held_lt (s:Sim G h ρ H w) {g o:Nat} {v:Value} (e:h g o=some v):g<w.heap.size:=by have:=s.prom g o v e;exact World.block_lt_of_cell? w ⟨g,o,none⟩ this
def Sim.held_none (s:Sim G h ρ H w) (o:Nat):h w.heap.size o=none:=by
 cases e:h w.heap.size o with
 | none=>rfl
 | some v=>exact absurd (s.held_lt e) (by omega)
def Bg.drew:Bg h ρ w h ρ w.drew :=
 ⟨rfl,rfl,rfl,AeJ _,fun _ _ _=>rfl,Aj.le_refl _,fun _ _ _ _=>rfl,Place.le_refl _,fun i _ S e=>.inl ⟨i,S,e⟩⟩
def Sim.drew (s:Sim G h ρ H w):Sim G h ρ H w.drew :=
 ⟨s.prom,s.glob,fun i b e=>(s.blk i b e).frame Bg.drew.n s.prom (Aj.le_refl _) (Place.le_refl _) (fun _ _ _=>⟨rfl,fun _=>rfl⟩) id,s.dom,s.inj⟩
def Sim.alloc (s:Sim G h ρ H w) (i:Nat) (hi:H i=none) (o:Obj) (S:Nat) (blk:Ae)
  (hb:GZ h (Fg ρ i (w.heap.size,S)) (w.alloc o) i blk) :
  Sim G h (Fg ρ i (w.heap.size,S)) (An H [(i,blk)]) (w.alloc o)/\Bg h ρ w h (Fg ρ i (w.heap.size,S)) (w.alloc o):=by
 have hρ:ρ i=none:=by
  cases e:ρ i with
  | none=>rfl
  | some x=>obtain ⟨_,b,hb⟩:=s.dom i x.1 x.2 e;rw[hi] at hb;cases hb
 have hle:=IQ (w.heap.size,S) hρ;have hrn:∀ j g S',Fg ρ i (w.heap.size,S) j=some (g,S')->(∃ j S',ρ j=some (g,S'))\/w.heap.size<=g:=by
  intro j g S' e;by_cases hj:j=i;·subst hj;rw[Ax] at e;cases e;exact .inr (AeJ _)
  rw[BG ρ _ hj] at e;exact .inl ⟨j,S',e⟩
 have st:Bg h ρ w h (Fg ρ i (w.heap.size,S)) (w.alloc o):=⟨rfl,rfl,rfl,by simp,fun k hk _=>heap_alloc_old w o k hk,Aj.le_refl _,fun _ _ _ _=>rfl,hle,hrn⟩;have hpr:∀ b off v,h b off=some v->(w.alloc o).cell? ⟨b,off,none⟩=some v:=by intro b off v e;rw[World.cell?_alloc_lt w o ⟨b,off,none⟩ (s.held_lt e)];exact s.prom b off v e
 refine ⟨⟨hpr,s.glob,?_,?_,?_⟩,st⟩
 ·intro j b e;by_cases hj:j=i;·subst hj;simp[An] at e;subst e;exact hb
  simp[An,hj] at e;refine (s.blk j b e).frame st.n hpr (Aj.le_refl _) hle (fun g S' hg=>⟨?_,fun _=>rfl⟩) (fun hn=>by rw[BG ρ _ hj];exact hn);exact heap_alloc_old w o g (s.dom j g S' hg).1
 ·intro j g S' e;by_cases hj:j=i;·subst hj;rw[Ax] at e;cases e;exact ⟨by simp,blk,by simp[An]⟩
  rw[BG ρ _ hj] at e;obtain ⟨h1,b,h2⟩:=s.dom j g S' e;exact ⟨by simp;omega,b,by simp[An,hj,h2]⟩
 intro j k g S1 S2 e1 e2 l1 l2;have old:∀ {x:Nat} {y:Nat × Nat},ρ x=some y->y.1<w.heap.size:=fun {x y} e=>(s.dom x y.1 y.2 e).1;have lv:∀ {x:Nat},x≠i->BP (An H [(i,blk)]) x->BP H x:=fun {x} hx ⟨b,h1,h2⟩=>⟨b,by simpa[An,hx] using h1,h2⟩;by_cases hj:j=i<;>by_cases hk:k=i;·omega
 ·subst hj;rw[Ax] at e1;rw[BG ρ _ hk] at e2;cases e1;have:=old e2;simp at this
 ·subst hk;rw[Ax] at e2;rw[BG ρ _ hj] at e1;cases e2;have:=old e1;simp at this
 rw[BG ρ _ hj] at e1;rw[BG ρ _ hk] at e2;exact s.inj j k g S1 S2 e1 e2 (lv hj l1) (lv hk l2)
def Sim.change (s:Sim G h ρ H w) (i:Nat) (hl:BP H i) (g S:Nat) (hρ:ρ i=some (g,S)) (blk:Ae) (h':Aj) (w':World)
  (hh:h.le h') (hother:∀ k,k≠g->(∀ o,h' k o=h k o)/\w'.heap[k]?=w.heap[k]?) (hsize:w'.heap.size=w.heap.size)
  (hos:w'.os=w.os) (htape:w'.tape=w.tape) (hout:w'.output=w.output)
  (hprom:∀ o v,h' g o=some v->w'.cell? ⟨g,o,none⟩=some v) (hb:GZ h' ρ w' i blk) :
  Sim G h' ρ (An H [(i,blk)]) w'/\Bg h ρ w h' ρ w':=by
 have st:Bg h ρ w h' ρ w':=⟨hos,htape,hout,by omega,fun k _ hn=>(hother k (fun e=>hn i S (e▸hρ))).2,hh,fun k _ hn o=>(hother k (fun e=>hn i S (e▸hρ))).1 o,Place.le_refl _,fun j g S e=>.inl ⟨j,S,e⟩⟩;have hpr:∀ b o v,h' b o=some v->w'.cell? ⟨b,o,none⟩=some v:=by
  intro b o v e;by_cases hbg:b=g;·subst hbg;exact hprom o v e
  rw[(hother b hbg).1] at e;have:=s.prom b o v e;rw[<-this];simp[World.cell?,(hother b hbg).2]
 refine ⟨⟨hpr,?_,?_,?_,?_⟩,st⟩;·intro k ds e;obtain ⟨vs,h1,h2⟩:=s.glob k ds e;exact ⟨vs,fun j x e=>hh _ _ _ (h1 j x e),fun j x e=>(h2 j x e).mono hh⟩
 ·intro j b e;by_cases hj:j=i;·subst hj;simp[An] at e;subst e;exact hb
  simp[An,hj] at e;by_cases hbd:b=.dead;·subst hbd;trivial
  refine (s.blk j b e).frame st.n hpr hh (Place.le_refl _) (fun k S' hk=>?_) id;have hne:k≠g:=fun hkg=>hj (s.inj j i g S' S (hkg▸hk) hρ ⟨b,e,hbd⟩ hl);exact ⟨(hother k hne).2,(hother k hne).1⟩
 ·intro j k S' e;obtain ⟨h1,b,h2⟩:=s.dom j k S' e;refine ⟨by omega,?_⟩;by_cases hj:j=i;·exact ⟨blk,by simp[An,hj]⟩
  exact ⟨b,by simp[An,hj,h2]⟩
 intro j k g' S1 S2 e1 e2 l1 l2;have lv:∀ {x:Nat},BP (An H [(i,blk)]) x->BP H x:=by
  intro x ⟨b,h1,h2⟩;by_cases hx:x=i;·subst hx;exact hl
  exact ⟨b,by simpa[An,hx] using h1,h2⟩
 exact s.inj j k g' S1 S2 e1 e2 (lv l1) (lv l2)
end
end Go.Abs
namespace Go.Abs
open Go
inductive TK where
 | int (k:IntKind) | bool | string | slice (e:Nat) | array (n e:Nat) | struct (fs:List (Nat × Nat × Nat)) | ptr (e:Nat) | map (k e:Nat) | func | other
structure TI where
 k:TK
 size:Nat
 bytes:Nat
 zero:List D
def IG (P:Program):TypeDesc->TK
 | .int k=>.int k
 | .bool=>.bool
 | .string=>.string
 | .slice e=>.slice e
 | .array n e=>.array n e
 | .struct fs=>.struct (fs.toList.map fun f=>(f.offset,f.type,((P.info? f.type).map (·.size)).getD 0))
 | .pointer e=>.ptr e
 | .map k e=>.map k e
 | .func _ _ _=>.func
 | _=>.other
def RR:Value->Option D
 | .int k n=>some (.int k n)
 | .bool b=>some (.bool b)
 | .string s=>some (.str s)
 | .slice none 0 0=>some (.sl 0 true [])
 | .pointer none=>some .nilp
 | .map none=>some .nilm
 | .nilIface=>some .nili
 | .nilFunc=>some .nilf
 | _=>none
def Et:List Value->Option (List D)
 | []=>some []
 | v::r=>match RR v,Et r with
   | some x,some l=>some (x::l)
   | _,_=>none
def Wn {h:Aj} {v:Value} {x:D} (e:RR v=some x):RD h v x:=by unfold RR at e;split at e<;>first | cases e;constructor | cases e
def Xu {v:Value} (e:RR v=some .nilp):v=.pointer none:=by unfold RR at e;split at e<;>first | rfl | cases e
def Xt {v:Value} (e:RR v=some (.sl 0 true [])):v=.slice none 0 0:=by unfold RR at e;split at e<;>first | rfl | cases e
def Xs {c:Array Value} (e:Et c.toList=some [.nilp,.sl 0 true []]):c=#[.pointer none,.slice none 0 0]:=by
 obtain ⟨l⟩:=c
 match l,e with
 | [],e=>simp[Et] at e
 | [a],e =>
  simp only[Et] at e;split at e;·rename_i x l h1 h2;cases h2;cases e
  cases e
 | [a,b],e =>
  simp only[Et] at e;split at e
  ·rename_i x l h1 h2;split at h2;·rename_i y m h3 h4;cases h4;cases h2;cases e;rw[Xu h1,Xt h3]
   cases h2
  cases e
 | a::b::d::r,e =>
  simp only[Et] at e;split at e
  ·rename_i x l h1 h2;split at h2
   ·rename_i y m h3 h4;split at h4;·cases h4;cases h2;cases e
    cases h4
   cases h2
  cases e
def CZ {h:Aj}:∀ {l:List Value} {ds:List D},Et l=some ds->l.length=ds.length/\∀ (i:Nat) v x,l[i]?=some v->ds[i]?=some x->RD h v x
 | [],ds,e=>by simp[Et] at e;subst e;simp
 | v::r,ds,e=>by
   simp only[Et] at e;split at e
   ·rename_i x l hx hl;cases e;have ih:=CZ (h:=h) hl;refine ⟨by simp[ih.1],fun i u y hu hy=>?_⟩;cases i with
    | zero=>simp at hu hy;subst hu;subst hy;exact Wn hx
    | succ i=>simp at hu hy;exact ih.2 i u y hu hy
   cases e
def A5 (P:Program) (t:Nat):Option TI :=
 match P.info? t,P.underlying t with
 | some i,some u=>match i.zero with
   | some z=>match Et z.cells.toList with
     | some ds=>if ds.length=i.size then some ⟨IG P u,i.size,i.bytes,ds⟩ else none
     | none=>none
   | none=>none
 | _,_=>none
def AY {P:Program} {t:Nat} {ti:TI} (e:A5 P t=some ti) :
  ∃ i u z,P.info? t=some i/\P.underlying t=some u/\i.zero=some z/\IG P u=ti.k/\i.size=ti.size/\i.bytes=ti.bytes/\Et z.cells.toList=some ti.zero:=by
 unfold A5 at e;split at e
 ·rename_i i u hi hu;split at e
  ·rename_i z hz;split at e
   ·rename_i ds hds;split at e;·cases e;exact ⟨i,u,z,hi,hu,hz,rfl,rfl,rfl,hds⟩
    cases e
   cases e
  cases e
 cases e
def Nn {P:Program} {t:Nat} {ti:TI} (e:A5 P t=some ti):ti.zero.length=ti.size:=by
 unfold A5 at e;split at e
 ·split at e
  ·split at e
   ·split at e;·cases e;assumption
    cases e
   cases e
  cases e
 cases e
structure Eff where
 res:AV
 w:List (Nat × Ae)
 r:List Nat
def Al (P:Program) (G:Ah) (o:Oper) (ev:Operand->AV) (H:Bf) (e:Eff):Prop :=
 ∀ (h:Aj) (ρ:Place) (H':Bf) (a:Act) (w:World),Sim G h ρ H' w->(∀ x,x∈o.op.operands.toList->R h ρ (a.eval x) (ev x))->(∀ b,b∈e.r->H' b=H b) ->
  o.wp P a w (fun a' w'=>∃ v h' ρ',a'=a.put o.dst v/\Sim G h' ρ' (An H' e.w) w'/\R h' ρ' v e.res/\Bg h ρ w h' ρ' w') (fun _ _ _=>False)
section
variable {P:Program} {G:Ah} {o:Oper} {ev:Operand->AV} {H:Bf}
def Al.val {res:AV} {r:List Nat}
  (hq:∀ (h:Aj) (ρ:Place) (H':Bf) (a:Act) (w:World),Sim G h ρ H' w->(∀ x,x∈o.op.operands.toList->R h ρ (a.eval x) (ev x))->(∀ b,b∈r->H' b=H b) ->
   ∃ v,(execOp a.eval o).run P w=.ok (.value v) w/\R h ρ v res):Al P G o ev H ⟨res,[],r⟩:=by
 intro h ρ H' a w hs hx hr;obtain ⟨v,h1,h2⟩:=hq h ρ H' a w hs hx hr;unfold Oper.wp;rw[h1];exact ⟨v,h,ρ,rfl,hs,h2,Bg.refl h ρ w⟩
def Al.gen {res:AV} {ws:List (Nat × Ae)} {r:List Nat}
  (hq:∀ (h:Aj) (ρ:Place) (H':Bf) (a:Act) (w:World),Sim G h ρ H' w->(∀ x,x∈o.op.operands.toList->R h ρ (a.eval x) (ev x))->(∀ b,b∈r->H' b=H b) ->
   ∃ v w' h' ρ',(execOp a.eval o).run P w=.ok (.value v) w'/\Sim G h' ρ' (An H' ws) w'/\R h' ρ' v res/\Bg h ρ w h' ρ' w'):Al P G o ev H ⟨res,ws,r⟩:=by
 intro h ρ H' a w hs hx hr;obtain ⟨v,w',h',ρ',h1,h2,h3,h4⟩:=hq h ρ H' a w hs hx hr;unfold Oper.wp;rw[h1];exact ⟨v,h',ρ',rfl,h2,h3,h4⟩
def Al.genU {ws:List (Nat × Ae)} {r:List Nat}
  (hq:∀ (h:Aj) (ρ:Place) (H':Bf) (a:Act) (w:World),Sim G h ρ H' w->(∀ x,x∈o.op.operands.toList->R h ρ (a.eval x) (ev x))->(∀ b,b∈r->H' b=H b) ->
   ∃ w' h' ρ',(execOp a.eval o).run P w=.ok .skip w'/\Sim G h' ρ' (An H' ws) w'/\Bg h ρ w h' ρ' w'):Al P G o ev H ⟨.undef,ws,r⟩:=by
 intro h ρ H' a w hs hx hr;obtain ⟨w',h',ρ',h1,h2,h4⟩:=hq h ρ H' a w hs hx hr;unfold Oper.wp;rw[h1];exact ⟨undef,h',ρ',rfl,h2,.undef _,h4⟩
end
def R.int_inv {h:Aj} {ρ:Place} {v:Value} {k:IntKind} {n:Int} (r:R h ρ v (.d (.int k n))):v=.int k n:=by cases r with | d _ _ hx=>cases hx;rfl
def R.bool_inv {h:Aj} {ρ:Place} {v:Value} {b:Bool} (r:R h ρ v (.d (.bool b))):v=.bool b:=by cases r with | d _ _ hx=>cases hx;rfl
def R.str_inv {h:Aj} {ρ:Place} {v:Value} {s:ByteArray} (r:R h ρ v (.d (.str s))):v=.string s:=by cases r with | d _ _ hx=>cases hx;rfl
def R.ptr_inv {h:Aj} {ρ:Place} {v:Value} {b off:Nat} (r:R h ρ v (.ptr b off)):∃ g S,v=.pointer (some ⟨g,off,none⟩)/\ρ b=some (g,S):=by cases r with | ptr _ _ g S hρ=>exact ⟨g,S,rfl,hρ⟩
def AL:AV->Option (List AV)
 | .agg cs=>some cs
 | .d (.agg cs)=>some (cs.map .d)
 | .d (.tup _)=>none
 | .d (.val _)=>none
 | .tup _=>none
 | .undef=>none
 | x=>some [x]
def Yx {v:Value} (h:v.cells=#[v]) {i:Nat} {u:Value} (e:v.cells[i]?=some u):i=0/\u=v:=by
 rw[h] at e;cases i with
 | zero=>simp at e;exact ⟨rfl,e.symm⟩
 | succ i=>simp at e
def Jg {h:Aj} {ρ:Place} {v:Value} {x:AV} {cs:List AV} (r:R h ρ v x) (e:AL x=some cs) :
  v.cells.size=cs.length/\∀ (i:Nat) u y,v.cells[i]?=some u->cs[i]?=some y->R h ρ u y:=by
 have one:∀ {v:Value} {x:AV},v.cells=#[v]->R h ρ v x->cs=[x]->v.cells.size=cs.length/\∀ (i:Nat) u y,v.cells[i]?=some u->cs[i]?=some y->R h ρ u y:=by intro v x hv r e;subst e;refine ⟨by simp[hv],fun i u y hu hy=>?_⟩;obtain ⟨rfl,rfl⟩:=Yx hv hu;simp at hy;subst hy;exact r
 cases r with
 | d v x hx =>
  cases hx with
  | agg vs cells hl hr =>
   simp only[AL,Option.some.injEq] at e;subst e;refine ⟨by simp[Value.cells,hl],fun i u y hu hy=>?_⟩;simp only[Ada] at hy;cases hc:cells[i]? with
   | none=>simp[hc] at hy
   | some z=>simp[hc] at hy;subst hy;exact .d _ _ (hr i u z hu hc)
  | tup=>simp[AL] at e
  | int=>exact one rfl (.d _ _ (.int _ _)) (by simpa[AL] using e.symm)
  | bool=>exact one rfl (.d _ _ (.bool _)) (by simpa[AL] using e.symm)
  | str=>exact one rfl (.d _ _ (.str _)) (by simpa[AL] using e.symm)
  | sl0=>exact one rfl (.d _ _ (.sl0 _ _)) (by simpa[AL] using e.symm)
  | sl g off n cap full cells vs a b c d e'=>exact one rfl (.d _ _ (.sl g off n cap full cells vs a b c d e')) (by simpa[AL] using e.symm)
  | fn f vs us a b c d x y=>exact one rfl (.d _ _ (.fn f vs us a b c d x y)) (by simpa[AL] using e.symm)
  | nilp=>exact one rfl (.d _ _ .nilp) (by simpa[AL] using e.symm)
  | nilm=>exact one rfl (.d _ _ .nilm) (by simpa[AL] using e.symm)
  | nili=>exact one rfl (.d _ _ .nili) (by simpa[AL] using e.symm)
  | ifc t v=>exact one rfl (.d _ _ (.ifc t v)) (by simpa[AL] using e.symm)
  | nilf=>exact one rfl (.d _ _ .nilf) (by simpa[AL] using e.symm)
  | esl a=>exact one rfl (.d _ _ (.esl a)) (by simpa[AL] using e.symm)
  | val v=>simp[AL] at e
 | lsl0 base b sz off=>exact one rfl (.lsl0 base b sz off) (by simpa[AL] using e.symm)
 | lsl b sz off n cap g S h1 h2 h3=>exact one rfl (.lsl b sz off n cap g S h1 h2 h3) (by simpa[AL] using e.symm)
 | ptr b off g S h1=>exact one rfl (.ptr b off g S h1) (by simpa[AL] using e.symm)
 | rptr g base off cells vs h1 h2=>exact one rfl (.rptr g base off cells vs h1 h2) (by simpa[AL] using e.symm)
 | mp b g S h1=>exact one rfl (.mp b g S h1) (by simpa[AL] using e.symm)
 | agg vs cells hl hr =>simp only[AL,Option.some.injEq] at e;subst e;exact ⟨hl,hr⟩
 | tup=>simp[AL] at e
 | fn f vs us a b c d x y=>exact one rfl (.fn f vs us a b c d x y) (by simpa[AL] using e.symm)
 | undef=>simp[AL] at e
def AV.one:AV->Bool
 | .d x=>x.one
 | .agg _ | .tup _ | .undef=>false
 | _=>true
def AV.one_ok {h:Aj} {ρ:Place} {v:Value} {x:AV} (r:R h ρ v x) (e:x.one=true):v.oneCell'=true:=by
 cases r with
 | d v x hx=>cases hx<;>first | rfl | simp[AV.one,D.one] at e
 | agg=>simp[AV.one] at e
 | tup=>simp[AV.one] at e
 | undef=>simp[AV.one] at e
 | _=>rfl
section
variable {P:Program} {G:Ah} {o:Oper} {ev:Operand->AV} {H:List Ae}
abbrev hp (H:List Ae):Bf:=fun i=>H[i]?
def Ts {x:Operand} {h0:Bf} (ho:o.op=.move x\/o.op=.assign x):Al P G o ev h0 ⟨ev x,[],[]⟩:=by
 refine Al.val fun h ρ H' a w hs hx _=>⟨a.eval x,?_,hx x ?_⟩;·rcases ho with ho | ho<;>simp[execOp,ho]
 rcases ho with ho | ho<;>simp[Op.operands,ho]
def Zd {c x y:Operand} {b:Bool} {h0:Bf} (ho:o.op=.pick c x y) (hc:ev c=.d (.bool b)):Al P G o ev h0 ⟨if b then ev x else ev y,[],[]⟩:=by
 refine Al.val fun h ρ H' a w hs hx _=>⟨if b then a.eval x else a.eval y,?_,?_⟩;·have h1:=hx c (by simp[Op.operands,ho]);rw[hc] at h1;simp[execOp,ho,h1.bool_inv,asBool]
 cases b;·exact hx y (by simp[Op.operands,ho])
 exact hx x (by simp[Op.operands,ho])
def XI {e:Nat} {ti:TI} (ho:o.op=.alloc e) (ht:A5 P e=some ti) :
  Al P G o ev (hp H) ⟨.ptr H.length 0,[(H.length,.box (ti.zero.map .d))],[H.length]⟩:=by
 refine Al.gen fun h ρ H' a w hs hx hr=>?_;obtain ⟨i,u,z,h1,h2,h3,h4,h5,h6,h7⟩:=AY ht;have hn:H' H.length=none:=by rw[hr _ (by simp)];simp[hp]
 have hd:=CZ (h:=h) h7;obtain ⟨s1,s2⟩:=hs.alloc H.length hn (.cells z.cells e) z.cells.size (.box (ti.zero.map .d)) (by
  refine ⟨w.heap.size,z.cells.size,z.cells,e,(0,0),Ax _ _ _,heap_alloc_new w _,rfl,fun j _=>by simp,Afu (by simp[<-hd.1]),fun j x v hxj hv=>?_,fun j=>hs.held_none j⟩;simp only[Ada] at hxj;cases hc:ti.zero[j]? with
  | none=>simp[hc] at hxj
  | some y=>simp[hc] at hxj;subst hxj;exact .d _ _ (hd.2 j v y (by simpa using hv) hc))
 refine ⟨_,_,_,_,?_,s1,.ptr _ _ w.heap.size z.cells.size (Ax _ _ _),s2⟩;simp[execOp,ho,Instr.alloc,zeroValue,typeInfo,h1,h3,newVar,newRow,newObj,Sem.run]
def Vl {e:Nat} {ti:TI} (ho:o.op=.alloc e) (ht:A5 P e=some ti) (hz:ti.zero=[.nilp,.sl 0 true []]) :
  Al P G o ev (hp H) ⟨.ptr H.length 0,[(H.length,.bld e false 0 none)],[H.length]⟩:=by
 refine Al.gen fun h ρ H' a w hs hx hr=>?_;obtain ⟨i,u,z,h1,h2,h3,h4,h5,h6,h7⟩:=AY ht;have hn:H' H.length=none:=by rw[hr _ (by simp)];simp[hp]
 have hd:=CZ (h:=h) h7;have hzc:z.cells=#[.pointer none,.slice none 0 0]:=by rw[hz] at h7;exact Xs h7
 obtain ⟨s1,s2⟩:=hs.alloc H.length hn (.cells z.cells e) z.cells.size (.bld e false 0 none) (by refine ⟨w.heap.size,z.cells.size,.slice none 0 0,Ax _ _ _,by rw[hzc];exact heap_alloc_new w _,⟨rfl,rfl⟩,fun j=>hs.held_none j⟩);refine ⟨_,_,_,_,?_,s1,.ptr _ _ w.heap.size z.cells.size (Ax _ _ _),s2⟩;simp[execOp,ho,Instr.alloc,zeroValue,typeInfo,h1,h3,newVar,newRow,newObj,Sem.run]
def Abk {e:Nat} {x:Operand} {cs:List AV} (ho:o.op=.box e x) (hc:AL (ev x)=some cs) :
  Al P G o ev (hp H) ⟨.ptr H.length 0,[(H.length,.box cs)],[H.length]⟩:=by
 refine Al.gen fun h ρ H' a w hs hx hr=>?_;have hn:H' H.length=none:=by rw[hr _ (by simp)];simp[hp]
 have hv:=Jg (hx x (by simp[Op.operands,ho])) hc;have hρ:ρ H.length=none:=by
  cases e:ρ H.length with
  | none=>rfl
  | some y=>obtain ⟨_,b,hb⟩:=hs.dom _ y.1 y.2 e;rw[hn] at hb;cases hb
 obtain ⟨s1,s2⟩:=hs.alloc H.length hn (.cells (a.eval x).cells e) (a.eval x).cells.size (.box cs) (by refine ⟨w.heap.size,_,(a.eval x).cells,e,(0,0),Ax _ _ _,heap_alloc_new w _,rfl,fun j _=>by simp,Afu hv.1.symm,fun j y v hy hv'=>?_,fun j=>hs.held_none j⟩;exact (hv.2 j v y hv' hy).mono (Aj.le_refl _) (IQ _ hρ));refine ⟨_,_,_,_,?_,s1,.ptr _ _ w.heap.size _ (Ax _ _ _),s2⟩;simp[execOp,ho,Instr.box,newVar,newRow,newObj,Sem.run]
end
end Go.Abs
namespace Go.Abs
open Go
def EP {w:World} {g off:Nat} {c:Array Value} {E:Nat} {fr:Nat × Nat} (h:w.heap[g]?=some (.cells c E fr)):w.cell? ⟨g,off,none⟩=c[off]?:=by simp[World.cell?,h]
def Cy (P:Program) (g off:Nat):∀ (vs:List Value) (i:Nat) (c:Array Value) (E:Nat) (fr:Nat × Nat) (w:World),w.heap[g]?=some (.cells c E fr)->Kc c.size fr ->
  off+i+vs.length<=c.size->(∀ v,v∈vs->v.oneCell'=true) ->
  ∃ c',(storeCells ⟨g,off,none⟩ vs i).run P w=.ok () (w.setRow g c')/\c'.size=c.size/\∀ j,c'[j]?=if off+i<=j/\j<off+i+vs.length then vs[j-(off+i)]? else c[j]?
 | [],i,c,E,fr,w,hg,hu,hl,h1=>by
   refine ⟨c,?_,rfl,fun j=>?_⟩;·simp only[storeCells];rw[setRow_self w g c E fr hg];rfl
   rw[if_neg];simp
 | v::rest,i,c,E,fr,w,hg,hu,hl,h1=>by
   have hi:off+i<c.size:=(by simp at hl;omega);have hcell:w.cell? ⟨g,off+i,none⟩=some c[off+i]:=(by simp[World.cell?,hg,hi]);have hfro:w.frozen? ⟨g,off+i,none⟩=false:=(by have:=hu (off+i) hi;simp[World.frozen?,hg];omega);have hst:(store ((⟨g,off,none⟩:Addr).add i) v).run P w=.ok () (w.setRow g (c.setIfInBounds (off+i) v)):=(by rw[Addr.add_lit,run_store P w _ v _ (h1 v (by simp)),hcell];simp[hfro,setCell_eq_setRow w g (off+i) c E fr v hg]);obtain ⟨c',e1,e2,e3⟩:=Cy P g off rest (i+1) (c.setIfInBounds (off+i) v) E fr (w.setRow g (c.setIfInBounds (off+i) v)) (setRow_heap w g c _ E fr hg)
    (by simpa using hu) (by simp at hl ⊢;omega) (fun x hx=>h1 x (by simp[hx]))
   refine ⟨c',?_,by simpa using e2,fun j=>?_⟩;·simp only[storeCells,Sem.run_bind,hst,Result.andThen_ok,e1,setRow_setRow]
   rw[e3 j];by_cases hj:j=off+i;·subst hj;rw[if_neg (by omega),if_pos (by simp)];simp[hi]
   by_cases hin:off+(i+1)<=j/\j<off+(i+1)+rest.length
   ·rw[if_pos hin,if_pos (by simp;omega)];have:j-(off+i)=(j-(off+(i+1)))+1:=by omega
    rw[this];simp
   rw[if_neg hin,if_neg (by simp;omega)];simp[Ne.symm hj]
def Cm:TK->Bool
 | .struct _ | .array _ _=>true
 | _=>false
def Pw {P:Program} {t:Nat} {ti:TI} (ht:A5 P t=some ti) (w:World):(isAgg t).run P w=.ok (Cm ti.k) w:=by obtain ⟨i,u,z,h1,h2,h3,h4,h5,h6,h7⟩:=AY ht;rw[<-h4];simp only[isAgg,Sem.run_bind,run_underlying h2,Result.andThen_ok];cases u<;>rfl
def run_sizeOf {P:Program} {t:Nat} {ti:TI} (ht:A5 P t=some ti) (w:World):(sizeOf t).run P w=.ok ti.size w:=by obtain ⟨i,u,z,h1,h2,h3,h4,h5,h6,h7⟩:=AY ht;simp[sizeOf,typeInfo,h1,h5]
def LW {P:Program} {t:Nat} {ti:TI} (ht:A5 P t=some ti) (w:World) (g off:Nat) (f:Nat->Value)
  (hc:∀ j,j<(if Cm ti.k then ti.size else 1)->w.cell? ⟨g,off+j,none⟩=some (f j)) :
  (loadVar t ⟨g,off,none⟩).run P w=.ok (if Cm ti.k then .agg ((Ado ti.size).map f).toArray else f 0) w:=by
 simp only[loadVar,Sem.run_bind,Pw ht,Result.andThen_ok];cases ha:Cm ti.k;·have:=hc 0 (by simp[ha]);simp at this;simp[run_load,this]
 have h2:=run_loadCells (P:=P) w ⟨g,off,none⟩ ti.size f (fun j hj=>by rw[Addr.add_lit];exact hc j (by simpa[ha] using hj));simp[run_sizeOf ht,h2]
def mkA (ti:TI) (off:Nat) (cs:List AV):AV:=if Cm ti.k then .agg ((cs.drop off).take ti.size) else cs.getD off .undef
def mkD (ti:TI) (off:Nat) (cs:List D):AV:=if Cm ti.k then .d (.agg ((cs.drop off).take ti.size)) else .d (cs.getD off .nilp)
def W4 (P:Program) (H:List Ae) (t:Nat) (p:AV) (k:Eff->Prop):Prop :=
 match A5 P t with
 | some ti=>match p with
   | .ptr b off=>match H[b]? with
     | some (.box cs)=>off+(if Cm ti.k then ti.size else 1)<=cs.length/\k ⟨mkA ti off cs,[],[b]⟩
     | some (.row _ cs)=>off+(if Cm ti.k then ti.size else 1)<=cs.length/\k ⟨mkD ti off cs,[],[b]⟩
     | _=>False
   | .rptr off cs=>off+(if Cm ti.k then ti.size else 1)<=cs.length/\k ⟨mkD ti off cs,[],[]⟩
   | _=>False
 | none=>False
section
variable {P:Program} {G:Ah} {o:Oper} {ev:Operand->AV} {H:List Ae}
def ZR {h:Aj} {ρ:Place} {ti:TI} {off:Nat} {cs:List AV} {c:Nat->Value} (hb:off+(if Cm ti.k then ti.size else 1)<=cs.length)
  (hr:∀ (j:Nat) x,cs[j]?=some x->R h ρ (c j) x):R h ρ (if Cm ti.k then .agg ((Ado ti.size).map fun j=>c (off+j)).toArray else c (off+0)) (mkA ti off cs):=by
 unfold mkA;cases ha:Cm ti.k<;>simp[ha] at hb ⊢
 ·have:off<cs.length:=by omega
  rw[Aa0 this];exact hr off _ (Aa0 this)
 refine .agg _ _ (by simp;omega) (fun i v x hv hx=>?_);simp only[AeL,Ada] at hv;rw[Adl] at hx;split at hx;·rename_i hlt;simp[hlt] at hv;subst hv;rw[Aet] at hx;exact hr (off+i) x hx
 cases hx
def ZQ {h:Aj} {ρ:Place} {ti:TI} {off:Nat} {cs:List D} {c:Nat->Value} (hb:off+(if Cm ti.k then ti.size else 1)<=cs.length)
  (hr:∀ (j:Nat) x,cs[j]?=some x->RD h (c j) x):R h ρ (if Cm ti.k then .agg ((Ado ti.size).map fun j=>c (off+j)).toArray else c (off+0)) (mkD ti off cs):=by
 unfold mkD;cases ha:Cm ti.k<;>simp[ha] at hb ⊢
 ·have:off<cs.length:=by omega
  rw[Aa0 this];exact .d _ _ (hr off _ (Aa0 this))
 refine .d _ _ (.agg _ _ (by simp;omega) (fun i v x hv hx=>?_));simp only[AeL,Ada] at hv;rw[Adl] at hx;split at hx;·rename_i hlt;simp[hlt] at hv;subst hv;rw[Aet] at hx;exact hr (off+i) x hx
 cases hx
def N8 {t:Nat} {x:Operand} {ti:TI} (ho:o.op=.load t x) (ht:A5 P t=some ti) {a:Act} {w:World} {g off:Nat} (c:Nat->Value)
  (hp:a.eval x=.pointer (some ⟨g,off,none⟩)) (hc:∀ j,j<(if Cm ti.k then ti.size else 1)->w.cell? ⟨g,off+j,none⟩=some (c (off+j))) :
  (execOp a.eval o).run P w=.ok (.value (if Cm ti.k then .agg ((Ado ti.size).map fun j=>c (off+j)).toArray else c (off+0))) w:=by
 have:=LW ht w g off (fun j=>c (off+j)) hc;simp[execOp,ho,hp,Instr.loadAt,Instr.sureAddr,this]
def ZU {t:Nat} {x:Operand} {k:Eff->Prop} (ho:o.op=.load t x) (hk:W4 P H t (ev x) k):∃ e,Al P G o ev (hp H) e/\k e:=by
 unfold W4 at hk;split at hk
 ·rename_i ti ht;split at hk
  ·rename_i b off hx;split at hk
   ·rename_i cs hb;refine ⟨_,Al.val fun h ρ H' a w hs hops hr=>?_,hk.2⟩;obtain ⟨g,S,e1,e2⟩:=(hx▸hops x (by simp[Op.operands,ho])).ptr_inv;obtain ⟨g',S',c,E,fr,b1,b2,b3,b4,b5,b6,b7⟩:=hs.blk b (.box cs) (by rw[hr b (by simp)];exact hb);rw[e2] at b1;cases b1;have hlen:∀ j,j<cs.length->c[j]?=some (c.getD j undef):=fun j hj=>by
     have:j<c.size:=by omega
     simp[Ac7 this]
    refine ⟨_,N8 ho ht (fun j=>c.getD j undef) e1 (fun j hj=>?_),ZR (c:=fun j=>c.getD j undef) hk.1 (fun j y hy=>?_)⟩;·rw[EP b2];exact hlen _ (by omega)
    exact b6 j y _ hy (hlen j (AaZ.1 hy).1)
   ·rename_i fz cs hb;refine ⟨_,Al.val fun h ρ H' a w hs hops hr=>?_,hk.2⟩;obtain ⟨g,S,e1,e2⟩:=(hx▸hops x (by simp[Op.operands,ho])).ptr_inv;rcases (hs.blk b (.row fz cs) (by rw[hr b (by simp)];exact hb)).2 with ⟨b1,_⟩ | ⟨g',S',c,E,fr,b1,b2,b3,b4,b5,b6,b7⟩
    ·rw[e2] at b1;cases b1
    rw[e2] at b1;cases b1;have hlen:∀ j,j<cs.length->c[j]?=some (c.getD j undef):=fun j hj=>by
     have:j<c.size:=by omega
     simp[Ac7 this]
    refine ⟨_,N8 ho ht (fun j=>c.getD j undef) e1 (fun j hj=>?_),ZQ (c:=fun j=>c.getD j undef) hk.1 (fun j y hy=>?_)⟩;·rw[EP b2];exact hlen _ (by omega)
    exact b6 j y _ hy (hlen j (AaZ.1 hy).1)
   exact hk.elim
  ·rename_i off cs hx;refine ⟨_,Al.val fun h ρ H' a w hs hops hr=>?_,hk.2⟩;have hv:=hx▸hops x (by simp[Op.operands,ho]);generalize he:a.eval x=v at hv;cases hv with
   | rptr g base _ _ vs h1 h2 =>
    have hlt:=hk.1;refine ⟨_,N8 ho ht (fun j=>vs (j-base)) he (fun j hj=>?_),?_⟩;·have hj':off+j<cs.length:=(by omega);have:=hs.prom _ _ _ (h1 (off+j) _ (Aa0 hj'));rw[Aff,this];congr 2;omega
    have:=ZQ (ρ:=ρ) (c:=vs) hk.1 h2;have e:∀ j,base+off+j-base=off+j:=fun j=>by omega
    simpa[e] using this
  exact hk.elim
 exact hk.elim
end
end Go.Abs
namespace Go.Abs
open Go
def cut {α:Type} (cells:List α) (off n:Nat):List α:=(cells.drop off).take n
def IB {α:Type} {cells:List α} {n:Nat} (h:cells.length=n):cut cells 0 n=cells:=by unfold cut;rw[List.drop_zero,List.take_of_length_le (by omega)]
def El {α:Type} {cells:List α} {off n i:Nat} {x:α} (h:(cut cells off n)[i]?=some x):i<n/\cells[off+i]?=some x:=by
 unfold cut at h;rw[Adl] at h;split at h;·rw[Aet] at h;exact ⟨by assumption,h⟩
 cases h
mutual
def sealA (H:List Ae):AV->Option D
 | .d x=>some x
 | .lsl b sz off n=>match H[b]? with
   | some (.row _ cells)=>some (.sl n false (cut cells off (n*sz)))
   | _=>none
 | .agg cs=>match sealL H cs with | some l=>some (.agg l) | none=>none
 | .tup cs=>match sealL H cs with | some l=>some (.tup l) | none=>none
 | .fn f a b=>match sealL H a,sealL H b with | some l,some m=>some (.fn f l m) | _,_=>none
 | .ptr _ _=>none
 | .rptr _ _=>none
 | .mp _=>none
 | .undef=>none
def sealL (H:List Ae):List AV->Option (List D)
 | []=>some []
 | x::r=>match sealA H x,sealL H r with | some y,some l=>some (y::l) | _,_=>none
end
mutual
def A3:AV->List Nat
 | .lsl b _ _ _=>[b]
 | .agg cs=>idsL cs
 | .tup cs=>idsL cs
 | .fn _ a b=>idsL a++idsL b
 | _=>[]
def idsL:List AV->List Nat
 | []=>[]
 | x::r=>A3 x++idsL r
end
def Ex {H:List Ae}:∀ {cs:List AV} {l:List D},sealL H cs=some l->cs.length=l.length/\∀ (i:Nat) x d,cs[i]?=some x->l[i]?=some d->sealA H x=some d
 | [],l,e=>by simp[sealL] at e;subst e;simp
 | x::r,l,e=>by
   simp only[sealL] at e;split at e
   ·rename_i y m hy hm;cases e;have ih:=Ex hm;refine ⟨by simp[ih.1],fun i u d hu hd=>?_⟩;cases i with
    | zero=>simp at hu hd;subst hu;subst hd;exact hy
    | succ i=>simp at hu hd;exact ih.2 i u d hu hd
   cases e
def GR {b:Nat}:∀ {cs:List AV} {i:Nat} {x:AV},cs[i]?=some x->b∈A3 x->b∈idsL cs
 | [],_,_,e,_=>by simp at e
 | y::r,0,x,e,h=>by simp at e;subst e;simp[idsL,h]
 | y::r,i+1,x,e,h=>by simp at e;simp[idsL,GR e h]
def U0 (h:Aj) (ρ:Place) (H:List Ae) (b:Nat):Prop :=
 ∀ fz cells,H[b]?=some (.row fz cells)->∀ g S,ρ b=some (g,S)->∀ (j:Nat) x,cells[j]?=some x->x.one=true/\∃ v,h g j=some v/\RD h v x
def Cn {h:Aj} {ρ:Place} {H:List Ae} {v:Value} {x:AV} (r:R h ρ v x):∀ {d:D},sealA H x=some d->(∀ b,b∈A3 x->U0 h ρ H b)->RD h v d:=by
 induction r with
 | d v x hx=>intro d e _;simp[sealA] at e;subst e;exact hx
 | lsl0 base b sz off =>
  intro d e _;simp only[sealA] at e;split at e;·cases e;simp[cut];exact .sl0 _ _
  cases e
 | lsl b sz off n cap g S hρ hn hc =>
  intro d e hf;simp only[sealA] at e;split at e
  ·rename_i fz cells hb;cases e;have hfx:=hf b (by simp[A3]) fz cells hb g S hρ;refine .sl g off n cap false _ (fun i=>((h g (off+i)).getD undef)) hn (by simp) (fun i x hx=>?_) (fun i x hx=>?_) (fun i x hx=>(hfx _ _ (El hx).2).1)
   ·obtain ⟨_,v,e1,e2⟩:=hfx _ _ (El hx).2;simp[e1]
   obtain ⟨_,v,e1,e2⟩:=hfx _ _ (El hx).2;simpa[e1] using e2
  cases e
 | ptr=>intro d e;simp[sealA] at e
 | rptr=>intro d e;simp[sealA] at e
 | mp=>intro d e;simp[sealA] at e
 | undef=>intro d e;simp[sealA] at e
 | agg vs cells hl _ ih =>
  intro d e hf;simp only[sealA] at e;split at e
  ·rename_i l hs;cases e;have hg:=Ex hs;refine .agg vs l (by omega) (fun i v y hv hy=>?_);have hi:i<cells.length:=(by have:=(AaZ.1 hy).1;omega)
   have hx:=Aa0 hi;exact ih i v _ hv hx (hg.2 i _ y hx hy) (fun b hb=>hf b (by simp[A3];exact GR hx hb))
  cases e
 | tup vs cells hl _ ih =>
  intro d e hf;simp only[sealA] at e;split at e
  ·rename_i l hs;cases e;have hg:=Ex hs;refine .tup vs l (by omega) (fun i v y hv hy=>?_);have hi:i<cells.length:=(by have:=(AaZ.1 hy).1;omega)
   have hx:=Aa0 hi;exact ih i v _ hv hx (hg.2 i _ y hx hy) (fun b hb=>hf b (by simp[A3];exact GR hx hb))
  cases e
 | fn f vs us first captured hl hl' _ _ ih ih' =>
  intro d e hf;simp only[sealA] at e;split at e
  ·rename_i l m hs hs';cases e;have hg:=Ex hs;have hg':=Ex hs';refine .fn f vs us l m (by omega) (by omega) (fun i v y hv hy=>?_) (fun i v y hv hy=>?_)
   ·have hi:i<first.length:=(by have:=(AaZ.1 hy).1;omega)
    have hx:=Aa0 hi;exact ih i v _ hv hx (hg.2 i _ y hx hy) (fun b hb=>hf b (by simp[A3];exact .inl (GR hx hb)))
   have hi:i<captured.length:=(by have:=(AaZ.1 hy).1;omega);have hx:=Aa0 hi;exact ih' i v _ hv hx (hg'.2 i _ y hx hy) (fun b hb=>hf b (by simp[A3];exact .inr (GR hx hb)))
  cases e
def Ze {H:List Ae} {x:AV} {d:D} (e:sealA H x=some d) (h:x.one=true):d.one=true:=by
 cases x with
 | d y=>simp[sealA] at e;subst e;exact h
 | lsl b sz off n =>
  simp only[sealA] at e;split at e;·cases e;rfl
  cases e
 | ptr=>simp[sealA] at e
 | rptr=>simp[sealA] at e
 | mp=>simp[sealA] at e
 | undef=>simp[sealA] at e
 | agg=>simp[AV.one] at h
 | tup=>simp[AV.one] at h
 | fn f a b =>
  simp only[sealA] at e;split at e;·cases e;rfl
  cases e
def Pr {H:List Ae} {xs:List AV} {ds:List D} (e:sealL H xs=some ds) (h:xs.all AV.one=true):∀ (j:Nat) d,ds[j]?=some d->d.one=true:=by
 intro j d hd;have hg:=Ex e;have hi:j<xs.length:=by have:=(AaZ.1 hd).1;omega
 have hx:=Aa0 hi;exact Ze (hg.2 j _ d hx hd) (Afx.1 h _ (Afy hi))
def Nx {h:Aj} {ρ:Place} {H:List Ae} {vs:Array Value} {xs:List AV} {ds:List D} (r:RL h ρ vs xs) (e:sealL H xs=some ds) (hf:∀ b,b∈idsL xs->U0 h ρ H b) :
  vs.size=ds.length/\∀ (i:Nat) v d,vs[i]?=some v->ds[i]?=some d->RD h v d:=by
 have hg:=Ex e;refine ⟨by have:=r.1;omega,fun i v d hv hd=>?_⟩;have hi:i<xs.length:=by have:=(AaZ.1 hd).1;omega
 have hx:=Aa0 hi;exact Cn (r.2 i v _ hv hx) (hg.2 i _ d hx hd) (fun b hb=>hf b (GR hx hb))
def unf0:D->D
 | .sl n _ cs=>.sl n false cs
 | x=>x
def unf1:D->D
 | .agg cs=>.agg (cs.map unf0)
 | x=>unf0 x
def unf:D->D
 | .tup cs=>.tup (cs.map unf1)
 | x=>unf1 x
def unf_int (k:IntKind) (n:Int):unf (.int k n)=.int k n:=rfl
def unf_bool (b:Bool):unf (.bool b)=.bool b:=rfl
def unf_str (s:ByteArray):unf (.str s)=.str s:=rfl
def unf_sl (n:Nat) (f:Bool) (cs:List D):unf (.sl n f cs)=.sl n false cs:=rfl
def unf_agg (cs:List D):unf (.agg cs)=.agg (cs.map unf0):=rfl
def unf_tup (cs:List D):unf (.tup cs)=.tup (cs.map unf1):=rfl
def unf1_int (k:IntKind) (n:Int):unf1 (.int k n)=.int k n:=rfl
def unf1_bool (b:Bool):unf1 (.bool b)=.bool b:=rfl
def unf1_str (s:ByteArray):unf1 (.str s)=.str s:=rfl
def unf1_sl (n:Nat) (f:Bool) (cs:List D):unf1 (.sl n f cs)=.sl n false cs:=rfl
def unf1_agg (cs:List D):unf1 (.agg cs)=.agg (cs.map unf0):=rfl
def unf0_int (k:IntKind) (n:Int):unf0 (.int k n)=.int k n:=rfl
def unf0_bool (b:Bool):unf0 (.bool b)=.bool b:=rfl
def unf0_str (s:ByteArray):unf0 (.str s)=.str s:=rfl
def unf0_sl (n:Nat) (f:Bool) (cs:List D):unf0 (.sl n f cs)=.sl n false cs:=rfl
def unf_esl:unf .esl=.esl:=rfl
def RD.unf0 {h:Aj} {v:Value} {x:D} (r:RD h v x):RD h v (unf0 x):=by
 cases r with
 | sl0 base full=>exact .sl0 base false
 | sl g off n cap full cells vs hn hf hh hr ho=>exact .sl g off n cap false cells vs hn (by simp) hh hr ho
 | int=>exact .int _ _
 | bool=>exact .bool _
 | str=>exact .str _
 | agg vs cells hl hr=>exact .agg vs cells hl hr
 | tup vs cells hl hr=>exact .tup vs cells hl hr
 | fn f vs us a b hl hl' hr hr'=>exact .fn f vs us a b hl hl' hr hr'
 | nilp=>exact .nilp
 | nilm=>exact .nilm
 | nili=>exact .nili
 | ifc t v=>exact .ifc t v
 | nilf=>exact .nilf
 | esl a=>exact .esl a
 | val v=>exact .val v
def RD.mapL {h:Aj} {vs:Array Value} {cells:List D} {f:D->D} (hf:∀ {v:Value} {x:D},RD h v x->RD h v (f x)) (hr:∀ (i:Nat) v x,vs[i]?=some v->cells[i]?=some x->RD h v x) :
  ∀ (i:Nat) v x,vs[i]?=some v->(cells.map f)[i]?=some x->RD h v x:=by
 intro i v x hv hx;simp only[Ada] at hx;cases hc:cells[i]? with
 | none=>simp[hc] at hx
 | some y=>simp[hc] at hx;subst hx;exact hf (hr i v y hv hc)
def RD.unf1 {h:Aj} {v:Value} {x:D} (r:RD h v x):RD h v (unf1 x):=by
 cases r with
 | agg vs cells hl hr=>exact .agg vs _ (by simpa using hl) (RD.mapL RD.unf0 hr)
 | int=>exact RD.unf0 (.int _ _)
 | bool=>exact RD.unf0 (.bool _)
 | str=>exact RD.unf0 (.str _)
 | sl0 base full=>exact RD.unf0 (.sl0 base full)
 | sl g off n cap full cells vs hn hf hh hr ho=>exact RD.unf0 (.sl g off n cap full cells vs hn hf hh hr ho)
 | tup vs cells hl hr=>exact RD.unf0 (.tup vs cells hl hr)
 | fn f vs us a b hl hl' hr hr'=>exact RD.unf0 (.fn f vs us a b hl hl' hr hr')
 | nilp=>exact RD.unf0 .nilp
 | nilm=>exact RD.unf0 .nilm
 | nili=>exact RD.unf0 .nili
 | ifc t v=>exact RD.unf0 (.ifc t v)
 | nilf=>exact RD.unf0 .nilf
 | esl a=>exact RD.unf0 (.esl a)
 | val v=>exact RD.unf0 (.val v)
def RD.unf {h:Aj} {v:Value} {x:D} (r:RD h v x):RD h v (unf x):=by
 cases r with
 | tup vs cells hl hr=>exact .tup vs _ (by simpa using hl) (RD.mapL RD.unf1 hr)
 | int=>exact RD.unf1 (.int _ _)
 | bool=>exact RD.unf1 (.bool _)
 | str=>exact RD.unf1 (.str _)
 | sl0 base full=>exact RD.unf1 (.sl0 base full)
 | sl g off n cap full cells vs hn hf hh hr ho=>exact RD.unf1 (.sl g off n cap full cells vs hn hf hh hr ho)
 | agg vs cells hl hr=>exact RD.unf1 (.agg vs cells hl hr)
 | fn f vs us a b hl hl' hr hr'=>exact RD.unf1 (.fn f vs us a b hl hl' hr hr')
 | nilp=>exact RD.unf1 .nilp
 | nilm=>exact RD.unf1 .nilm
 | nili=>exact RD.unf1 .nili
 | ifc t v=>exact RD.unf1 (.ifc t v)
 | nilf=>exact RD.unf1 .nilf
 | esl a=>exact RD.unf1 (.esl a)
 | val v=>exact RD.unf1 (.val v)
def sealR (H:List Ae) (xs:List AV):Option (List D):=match sealL H xs with | some l=>some (l.map unf0) | none=>none
def Jz {H:List Ae} {xs:List AV} {ds:List D} (e:sealR H xs=some ds):∃ l,sealL H xs=some l/\ds=l.map unf0:=by
 unfold sealR at e;split at e;·rename_i l hl;cases e;exact ⟨l,hl,rfl⟩
 cases e
def Nw {h:Aj} {ρ:Place} {H:List Ae} {vs:Array Value} {xs:List AV} {ds:List D} (r:RL h ρ vs xs) (e:sealR H xs=some ds) (hf:∀ b,b∈idsL xs->U0 h ρ H b) :
  vs.size=ds.length/\∀ (i:Nat) v d,vs[i]?=some v->ds[i]?=some d->RD h v d:=by
 obtain ⟨l,hl,rfl⟩:=Jz e;have:=Nx r hl hf;exact ⟨by simpa using this.1,RD.mapL RD.unf0 this.2⟩
def Lf {H:List Ae} {xs:List AV} {ds:List D} (e:sealR H xs=some ds) (h:xs.all AV.one=true):∀ (j:Nat) d,ds[j]?=some d->d.one=true:=by
 obtain ⟨l,hl,rfl⟩:=Jz e;intro j d hd;simp only[Ada] at hd;cases hc:l[j]? with
 | none=>simp[hc] at hd
 | some y =>simp[hc] at hd;subst hd;have:=Pr hl h j y hc;cases y<;>first | exact this | rfl
def CP (H:Bf) (a b:List (Nat × Ae)):An H (a++b)=An (An H a) b:=by
 induction a generalizing H with
 | nil=>rfl
 | cons x r ih=>obtain ⟨i,y⟩:=x;simp[An,ih]
def AG (H:Bf):∀ (a:List (Nat × Ae)) (i:Nat),(∀ p,p∈a->p.1≠i)->An H a i=H i
 | [],_,_=>rfl
 | (j,y)::r,i,hn=>by rw[An,AG _ r i (fun p hp=>hn p (by simp[hp]))];have:=hn (j,y) (by simp);simp at this;simp[Ne.symm this]
section
variable {G:Ah} {h:Aj} {ρ:Place} {H:Bf} {w:World}
def Sim.reblk (s:Sim G h ρ H w) (i:Nat) (hl:BP H i) (blk:Ae) (hb:GZ h ρ w i blk):Sim G h ρ (An H [(i,blk)]) w:=by
 refine ⟨s.prom,s.glob,?_,?_,?_⟩
 ·intro j b e;by_cases hj:j=i;·subst hj;simp[An] at e;subst e;exact hb
  simp[An,hj] at e;exact s.blk j b e
 ·intro j g S e;obtain ⟨h1,b,h2⟩:=s.dom j g S e;refine ⟨h1,?_⟩;by_cases hj:j=i;·exact ⟨blk,by simp[An,hj]⟩
  exact ⟨b,by simp[An,hj,h2]⟩
 intro j k g S1 S2 e1 e2 l1 l2;have lv:∀ {x:Nat},BP (An H [(i,blk)]) x->BP H x:=by
  intro x ⟨b,h1,h2⟩;by_cases hx:x=i;·subst hx;exact hl
  exact ⟨b,by simpa[An,hx] using h1,h2⟩
 exact s.inj j k g S1 S2 e1 e2 (lv l1) (lv l2)
def W7 (s:Sim G h ρ H w) (b:Nat) (fz:Bool) (cells:List D) (hb:H b=some (.row fz cells)) :
  ∃ h',Sim G h' ρ (An H [(b,.row true cells)]) w/\Bg h ρ w h' ρ w/\(∀ g S,ρ b=some (g,S)->∀ (j:Nat) x,cells[j]?=some x->x.one=true/\∃ v,h' g j=some v/\RD h' v x):=by
 have hl:BP H b:=⟨_,hb,by simp⟩;obtain ⟨ho,hblk⟩:=s.blk b _ hb;rcases hblk with ⟨h1,h2⟩ | ⟨g,S,c,E,fr,h1,h2,h3,h4,h5,h6,h7,h8⟩
 ·exact ⟨h,s.reblk b hl _ ⟨ho,.inl ⟨h1,h2⟩⟩,Bg.refl _ _ _,fun g S e=>by rw[h1] at e;cases e⟩
 cases fz with
 | true =>
  refine ⟨h,s.reblk b hl _ ⟨ho,.inr ⟨g,S,c,E,fr,h1,h2,h3,h4,h5,h6,h7,h8⟩⟩,Bg.refl _ _ _,fun g' S' e j x hx=>?_⟩;rw[h1] at e;cases e;have hj:=(AaZ.1 hx).1;have hc:j<c.size:=by omega
  have e2:c[j]?=some c[j]:=Ac7 hc;exact ⟨ho j x hx,c[j],by rw[h7 rfl j hj,e2],h6 j x _ hx e2⟩
 | false =>
  let h':Aj:=fun k o=>if k=g/\o<cells.length then c[o]? else h k o
  have hno:∀ j,h g j=none:=fun j=>h8 j (by simp);have hle:h.le h':=by
   intro k o v e;have:¬(k=g/\o<cells.length):=by rintro ⟨rfl,_⟩;rw[hno o] at e;cases e
   simp only[h',this,if_false];exact e
  have hR:∀ (j:Nat) x v,cells[j]?=some x->c[j]?=some v->RD h' v x:=fun j x v a b=>(h6 j x v a b).mono hle;obtain ⟨t1,t2⟩:=s.change b hl g S h1 (.row true cells) h' w hle (fun k hk=>⟨fun o=>by simp[h',hk],rfl⟩) rfl rfl rfl rfl
   (fun o v e=>by
    simp only[h',true_and] at e;split at e;·rw[EP h2];exact e
    rw[hno o] at e;cases e)
   ⟨ho,.inr ⟨g,S,c,E,fr,h1,h2,h3,h4,h5,hR,fun _ j hj=>by simp[h',hj],fun j hj=>by have:=hj rfl;simp only[h',true_and];rw[if_neg (by omega)];exact hno j⟩⟩
  refine ⟨h',t1,t2,fun g' S' e j x hx=>?_⟩;rw[h1] at e;cases e;have hj:=(AaZ.1 hx).1;have hc:j<c.size:=by omega
  have e2:c[j]?=some c[j]:=Ac7 hc;exact ⟨ho j x hx,c[j],by simp[h',hj,e2],hR j x _ hx e2⟩
end
def frz (H:List Ae):List Nat->List (Nat × Ae)
 | []=>[]
 | b::r=>match H[b]? with
   | some (.row false cells)=>(b,.row true cells)::frz H r
   | _=>frz H r
def B4 {H:List Ae} {p:Nat × Ae}:∀ {ids:List Nat},p∈frz H ids->p.1∈ids
 | [],e=>by simp[frz] at e
 | b::r,e=>by
   simp only[frz] at e;split at e
   ·rcases Afg.1 e with e | e
    ·subst e;simp
    exact Afp _ (B4 e)
   exact Afp _ (B4 e)
def B8 {G:Ah} {ρ:Place} {w:World} (H:List Ae):∀ (ids:List Nat) (h:Aj) (H':Bf),Sim G h ρ H' w ->
  (∀ b,b∈ids->H' b=H[b]?\/∃ cells,H[b]?=some (.row false cells)/\H' b=some (.row true cells)) ->
  ∃ h',Sim G h' ρ (An H' (frz H ids)) w/\Bg h ρ w h' ρ w/\∀ b,b∈ids->U0 h' ρ H b
 | [],h,H',s,_=>⟨h,s,Bg.refl _ _ _,by simp⟩
 | b::r,h,H',s,hag=>by
   by_cases hrow:∃ fz cells,H[b]?=some (.row fz cells)
   ·obtain ⟨fz,cells,hb⟩:=hrow;have hH':∃ fz',H' b=some (.row fz' cells):=by
     rcases hag b (by simp) with e | ⟨cells',e1,e2⟩
     ·exact ⟨fz,e.trans hb⟩
     rw[hb] at e1;cases e1;exact ⟨true,e2⟩
    obtain ⟨fz',hb'⟩:=hH';obtain ⟨h1,s1,t1,f1⟩:=W7 s b fz' cells hb';have hsame:fz=true->H' b=some (.row true cells):=by
     intro hf;rcases hag b (by simp) with e | ⟨cells',e1,e2⟩
     ·rw[e,hb,hf]
     rw[hb] at e1;cases e1;exact e2
    have hag':∀ x,x∈r->(An H' [(b,.row true cells)]) x=H[x]?\/∃ cs,H[x]?=some (.row false cs)/\(An H' [(b,.row true cells)]) x=some (.row true cs):=by
     intro x hx;by_cases hxb:x=b
     ·subst hxb;cases fz with
      | true=>exact .inl (by simp[An,hb])
      | false=>exact .inr ⟨cells,hb,by simp[An]⟩
     have:=hag x (by simp[hx]);simpa[An,hxb] using this
    obtain ⟨h2,s2,t2,f2⟩:=B8 H r h1 _ s1 hag';have hupd:An H' (frz H (b::r))=An (An H' [(b,.row true cells)]) (frz H r):=by
     cases fz with
     | false=>simp[frz,hb,An]
     | true =>
      have e1:An H' [(b,.row true cells)]=H':=by
       funext j;by_cases hj:j=b;·subst hj;simp[An,hsame rfl]
       simp[An,hj]
      rw[e1];simp[frz,hb]
    refine ⟨h2,by rw[hupd];exact s2,t1.trans t2,fun x hx=>?_⟩;rcases Afg.1 hx with rfl | hx
    ·intro fz2 cells2 e g S hρ j y hy;rw[hb] at e;cases e;obtain ⟨e0,v,e1,e2⟩:=f1 g S hρ j y hy;exact ⟨e0,v,t2.mono _ _ _ e1,e2.mono t2.mono⟩
    exact f2 x hx
   have hf:frz H (b::r)=frz H r:=by
    simp only[frz];split;·rename_i cells e;exact absurd ⟨false,cells,e⟩ hrow
    rfl
   obtain ⟨h2,s2,t2,f2⟩:=B8 H r h H' s (fun x hx=>hag x (by simp[hx]));refine ⟨h2,by rw[hf];exact s2,t2,fun x hx=>?_⟩;rcases Afg.1 hx with rfl | hx
   ·intro fz cells e;exact absurd ⟨fz,cells,e⟩ hrow
   exact f2 x hx
end Go.Abs
namespace Go.Abs
open Go
def Dj {α:Type} (cs:List α) (off:Nat):List α->List α
 | [x]=>cs.set off x
 | xs=>cs.take off++xs++cs.drop (off+xs.length)
def EW {α:Type} {cs:List α} {off:Nat} {xs:List α} (h:off+xs.length<=cs.length):(Dj cs off xs).length=cs.length:=by
 unfold Dj;split;·simp
 simp at h ⊢;omega
def FD {α:Type} {cs:List α} {off:Nat} {xs:List α} (h:off+xs.length<=cs.length) (j:Nat) :
  (Dj cs off xs)[j]?=if off<=j/\j<off+xs.length then xs[j-off]? else cs[j]?:=by
 have key:∀ ys:List α,off+ys.length<=cs.length->(cs.take off++ys++cs.drop (off+ys.length))[j]?=if off<=j/\j<off+ys.length then ys[j-off]? else cs[j]?:=by
  intro ys h;rw[Adn,Adn];simp only[Adm,Afj,Adl,Aet];have hm:min off cs.length=off:=by omega
  rw[hm];by_cases h1:j<off;·rw[if_pos (by omega),if_pos h1,if_pos h1,if_neg (by omega)]
  by_cases h2:j<off+ys.length;·rw[if_pos h2,if_neg h1,if_pos ⟨by omega,h2⟩]
  rw[if_neg h2,if_neg (by omega)];congr 1;omega
 unfold Dj;split
 ·rename_i x;rw[Aft];simp at h;by_cases e:off=j;·subst e;simp;omega
  rw[if_neg e,if_neg (by simp;omega)]
 exact key _ h
def RL.put {h:Aj} {ρ:Place} {c c' vs:Array Value} {cs xs:List AV} {off:Nat} (r:RL h ρ c cs) (r':RL h ρ vs xs) (hb:off+xs.length<=cs.length) (hs:c'.size=c.size)
  (hc:∀ j,c'[j]?=if off<=j/\j<off+vs.size then vs[j-off]? else c[j]?):RL h ρ c' (Dj cs off xs):=by
 refine ⟨by rw[EW hb,hs,r.1],fun j v x hv hx=>?_⟩;rw[hc j] at hv;rw[FD hb] at hx;have e:=r'.1;by_cases hin:off<=j/\j<off+xs.length
 ·rw[if_pos hin] at hx;rw[if_pos (by omega)] at hv;exact r'.2 _ v x hv hx
 rw[if_neg hin] at hx;rw[if_neg (by omega)] at hv;exact r.2 _ v x hv hx
def AeV {h:Aj} {ρ:Place} {c c' vs:Array Value} {cs xs:List AV} {off:Nat} (r:∀ (j:Nat) v x,c[j]?=some v->cs[j]?=some x->R h ρ v x) (r':RL h ρ vs xs) (hb:off+xs.length<=cs.length)
  (hc:∀ j,c'[j]?=if off<=j/\j<off+vs.size then vs[j-off]? else c[j]?):∀ (j:Nat) v x,c'[j]?=some v->(Dj cs off xs)[j]?=some x->R h ρ v x:=by
 intro j v x hv hx;rw[hc j] at hv;rw[FD hb] at hx;have e:=r'.1;by_cases hin:off<=j/\j<off+xs.length
 ·rw[if_pos hin] at hx;rw[if_pos (by omega)] at hv;exact r'.2 _ v x hv hx
 rw[if_neg hin] at hx;rw[if_neg (by omega)] at hv;exact r _ v x hv hx
def RX (P:Program) (H:List Ae) (t:Nat) (p xv:AV) (k:Eff->Prop):Prop :=
 match A5 P t with
 | some ti=>match p with
   | .ptr b off=>match H[b]? with
     | some (.box cs)=>match AL xv with
       | some xs=>xs.length=ti.size/\xs.all AV.one=true/\off+xs.length<=cs.length/\k ⟨.undef,[(b,.box (Dj cs off xs))],[b]⟩
       | none=>False
     | some (.row false cs)=>match AL xv with
       | some xs=>match sealR H xs with
         | some ds=>xs.length=ti.size/\xs.all AV.one=true/\off+ds.length<=cs.length/\b∉idsL xs /\
           k ⟨.undef,frz H (idsL xs)++[(b,.row false (Dj cs off ds))],b::idsL xs⟩
         | none=>False
       | none=>False
     | _=>False
   | _=>False
 | none=>False
section
variable {P:Program} {G:Ah} {o:Oper} {ev:Operand->AV} {H:List Ae}
def Sc {h:Aj} {ρ:Place} {vs:Array Value} {xs:List AV} (r:RL h ρ vs xs) (e:xs.all AV.one=true):∀ v,v∈vs.toList->v.oneCell'=true:=by
 intro v hv;obtain ⟨i,hi,rfl⟩:=Ae8 hv;have hlt:i<xs.length:=by have:=r.1;simp at hi;omega
 refine AV.one_ok (r.2 i _ xs[i] (by simp) (Aa0 hlt)) ?_;exact Afx.1 e _ (Afy hlt)
def XD {t:Nat} {p x:Operand} {k:Eff->Prop} (ho:o.op=.store t p x) (hk:RX P H t (ev p) (ev x) k):∃ e,Al P G o ev (hp H) e/\k e:=by
 unfold RX at hk;split at hk
 ·rename_i ti ht;split at hk
  ·rename_i b off hpx;split at hk
   ·rename_i cs hb;split at hk
    ·rename_i xs hxs;obtain ⟨k1,k2,k3,k4⟩:=hk;refine ⟨_,Al.genU fun h ρ H' a w hs hops hr=>?_,k4⟩;obtain ⟨g,S,e1,e2⟩:=(hpx▸hops p (by simp[Op.operands,ho])).ptr_inv;have hrl:RL h ρ (a.eval x).cells xs:=Jg (hops x (by simp[Op.operands,ho])) hxs;have hblk:=hs.blk b (.box cs) (by rw[hr b (by simp)];exact hb);obtain ⟨g',S',c,E,fr,b1,b2,b3,b4,b5,b6,b7⟩:=hblk;rw[e2] at b1;cases b1;obtain ⟨c',r1,r2,r3⟩:=Cy P g off (a.eval x).cells.toList 0 c E fr w b2 (by rw[b3];exact b4) (by have:=hrl.1;simp;omega) (Sc hrl k2);have hl:BP H' b:=⟨_,(hr b (by simp)).trans hb,by simp⟩;have hrl2:=AeV (vs:=(a.eval x).cells) (fun j v x hv hx=>b6 j x v hx hv) hrl k3 (fun j=>by simpa using r3 j);obtain ⟨t1,t2⟩:=hs.change b hl g S e2 (.box (Dj cs off xs)) h (w.setRow g c') (Aj.le_refl _) (fun k hk=>⟨fun _=>rfl,setRow_other w g k c' hk⟩) (by simp) rfl rfl rfl
      (fun o v e=>by rw[b7 o] at e;cases e)
      ⟨g,S,c',E,fr,e2,setRow_heap w g c c' E fr b2,by omega,b4,by rw[EW k3];exact b5,fun j x v hx hv=>hrl2 j v x hv hx,b7⟩
     refine ⟨_,_,_,?_,t1,t2⟩;have hsz:(a.eval x).cells.size=ti.size:=(by have:=hrl.1;omega)
     simp[execOp,ho,e1,Instr.storeAt,Instr.sureAddr,storeVar,run_sizeOf ht,hsz,r1]
    exact hk.elim
   ·rename_i cs hb;split at hk
    ·rename_i xs hxs;split at hk
     ·rename_i ds hds;obtain ⟨k1,k2,k3,k4,k5⟩:=hk;refine ⟨_,Al.genU fun h ρ H' a w hs hops hr=>?_,k5⟩;obtain ⟨g,S,e1,e2⟩:=(hpx▸hops p (by simp[Op.operands,ho])).ptr_inv;have hrl:RL h ρ (a.eval x).cells xs:=Jg (hops x (by simp[Op.operands,ho])) hxs;obtain ⟨h1,s1,t1,f1⟩:=B8 H (idsL xs) h H' hs (fun y hy=>.inl (hr y (by simp[hy])));have hds':=Nw (hrl.mono t1.mono (Place.le_refl _)) hds f1;have hbb:An H' (frz H (idsL xs)) b=some (.row false cs):=by
       rw[AG _ _ b (fun q hq e=>k4 (e▸B4 hq)),hr b (by simp)];exact hb
      obtain ⟨ho1,hblk⟩:=s1.blk b _ hbb;rcases hblk with ⟨b1,_⟩ | ⟨g',S',c,E,fr,b1,b2,b3,b4,b5,b6,b7,b8⟩
      ·rw[e2] at b1;cases b1
      rw[e2] at b1;cases b1;have hlen:xs.length=ds.length:=(by have:=hrl.1;have:=hds'.1;omega)
      obtain ⟨c',r1,r2,r3⟩:=Cy P g off (a.eval x).cells.toList 0 c E fr w b2 (by rw[b3];exact b4) (by have:=hds'.1;simp;omega) (Sc hrl k2);have hno:∀ j,h1 g j=none:=fun j=>b8 j (by simp);obtain ⟨t3,t4⟩:=s1.change b ⟨_,hbb,by simp⟩ g S e2 (.row false (Dj cs off ds)) h1 (w.setRow g c') (Aj.le_refl _) (fun k hk=>⟨fun _=>rfl,setRow_other w g k c' hk⟩) (by simp) rfl rfl rfl
       (fun o v e=>by rw[hno o] at e;cases e)
       ⟨fun j x' hx=>by
        rw[FD k3] at hx;split at hx;·exact Lf hds k2 _ x' hx
        ·exact ho1 j x' hx,.inr ⟨g,S,c',E,fr,e2,setRow_heap w g c c' E fr b2,by omega,b4,by rw[EW k3];exact b5,fun j x' v hx hv=>by
        rw[FD k3] at hx;rw[r3 j] at hv;have e:=hds'.1;by_cases hin:off<=j/\j<off+ds.length
        ·rw[if_pos hin] at hx;rw[if_pos (by simp;omega)] at hv;exact hds'.2 _ v x' (by simpa using hv) hx
        rw[if_neg hin] at hx;rw[if_neg (by simp;omega)] at hv;exact b6 j x' v hx hv,(fun e=>by cases e),fun j _=>hno j⟩⟩
      refine ⟨_,_,_,?_,by rw[CP];exact t3,t1.trans t4⟩;have hsz:(a.eval x).cells.size=ti.size:=(by have:=hrl.1;omega)
      simp[execOp,ho,e1,Instr.storeAt,Instr.sureAddr,storeVar,run_sizeOf ht,hsz,r1]
     exact hk.elim
    exact hk.elim
   exact hk.elim
  exact hk.elim
 exact hk.elim
def fillA {α:Type} (place:Nat->Option (Nat × Nat)) (cs:List α):List (Nat × List α)->Option (List α)
 | []=>some cs
 | (i,xs)::rest=>match place i with
   | none=>none
   | some (off,size)=>if xs.length=size/\off+xs.length<=cs.length then fillA place (Dj cs off xs) rest else none
def P9 (off:Nat):∀ (l:List Value) (n:Nat) (c:Array Value),
  ((l.zipIdx n).foldl (fun (cs:Array Value) (p:Value × Nat)=>cs.setIfInBounds (off+p.2) p.1) c).size=c.size /\
  (off+n+l.length<=c.size->∀ j,((l.zipIdx n).foldl (fun (cs:Array Value) (p:Value × Nat)=>cs.setIfInBounds (off+p.2) p.1) c)[j]?=if off+n<=j/\j<off+n+l.length then l[j-(off+n)]? else c[j]?)
 | [],n,c=>by refine ⟨rfl,fun _ j=>?_⟩;rw[if_neg (by simp)];rfl
 | x::r,n,c=>by
   obtain ⟨h1,h2⟩:=P9 off r (n+1) (c.setIfInBounds (off+n) x);simp only[List.zipIdx_cons,List.foldl_cons];refine ⟨by rw[h1];simp,fun hl j=>?_⟩;simp at hl;rw[h2 (by simp;omega) j];by_cases hj:j=off+n
   ·subst hj;rw[if_neg (by omega),if_pos (by simp)];have:off+n<c.size:=by omega
    simp[this]
   by_cases hin:off+(n+1)<=j/\j<off+(n+1)+r.length
   ·rw[if_pos hin,if_pos (by simp;omega)];have:j-(off+n)=(j-(off+(n+1)))+1:=by omega
    rw[this];simp
   rw[if_neg hin,if_neg (by simp;omega)];simp[Ne.symm hj]
def KD {h:Aj} {ρ:Place} (place:Nat->Option (Nat × Nat)):∀ (parts:List (Nat × Value)) (ps:List (Nat × List AV)) (c:Array Value) (cs cs':List AV),
  RL h ρ c cs->parts.length=ps.length->(∀ (i:Nat) p q,parts[i]?=some p->ps[i]?=some q->p.1=q.1/\RL h ρ p.2.cells q.2)->fillA place cs ps=some cs' ->
  ∃ c',Instr.fill place c parts=some c'/\RL h ρ c' cs'
 | [],[],c,cs,cs',r,_,_,e=>by simp[fillA] at e;subst e;exact ⟨c,rfl,r⟩
 | (i,v)::rest,(i',xs)::ps,c,cs,cs',r,hl,hr,e=>by
   obtain ⟨hi,hv⟩:=hr 0 (i,v) (i',xs) rfl rfl;simp only at hi hv;subst hi;simp only[fillA] at e;split at e;·cases e
   rename_i off size hp;split at e
   ·rename_i hc;obtain ⟨z1,z2⟩:=P9 off v.cells.toList 0 c;have hvs:=hv.1;have hr1:=r.1;have r2:RL h ρ (v.cells.zipIdx.foldl (fun (cs:Array Value) (p:Value × Nat)=>cs.setIfInBounds (off+p.2) p.1) c) (Dj cs off xs):=by
     have ef:v.cells.zipIdx.foldl (fun (cs:Array Value) (p:Value × Nat)=>cs.setIfInBounds (off+p.2) p.1) c=(v.cells.toList.zipIdx 0).foldl (fun (cs:Array Value) (p:Value × Nat)=>cs.setIfInBounds (off+p.2) p.1) c:=(by rw[<-Array.foldl_toList,Array.toList_zipIdx]);rw[ef];exact RL.put r hv hc.2 z1 (fun j=>by simpa using z2 (by simp;omega) j)
    obtain ⟨c',e1,e2⟩:=KD place rest ps _ _ cs' r2 (by simpa using hl) (fun j p q hp hq=>hr (j+1) p q (by simpa using hp) (by simpa using hq)) e;refine ⟨c',?_,e2⟩;simp only[Instr.fill,hp];rw[if_neg (by simp;omega)];exact e1
   cases e
 | [],_::_,_,_,_,_,hl,_,_=>by simp at hl
 | _::_,[],_,_,_,_,hl,_,_=>by simp at hl
def partsA (ev:Operand->AV):List (Nat × Operand)->Option (List (Nat × List AV))
 | []=>some []
 | (i,x)::r=>match AL (ev x),partsA ev r with
   | some xs,some l=>some ((i,xs)::l)
   | _,_=>none
def GK {h:Aj} {ρ:Place} {a:Act}:∀ {parts:List (Nat × Operand)} {ps:List (Nat × List AV)},partsA ev parts=some ps->(∀ x,x∈parts.map (·.2)->R h ρ (a.eval x) (ev x)) ->
  (parts.map fun (i,x)=>(i,a.eval x)).length=ps.length/\∀ (i:Nat) p q,(parts.map fun (i,x)=>(i,a.eval x))[i]?=some p->ps[i]?=some q->p.1=q.1/\RL h ρ p.2.cells q.2
 | [],ps,e,_=>by simp[partsA] at e;subst e;simp
 | (i,x)::r,ps,e,hr=>by
   simp only[partsA] at e;split at e
   ·rename_i xs l hx hl;cases e;have ih:=GK hl (fun y hy=>hr y (by simp at hy ⊢;exact .inr hy));refine ⟨by simpa using ih.1,fun j p q hp hq=>?_⟩;cases j with
    | zero =>simp at hp hq;subst hp;subst hq;exact ⟨rfl,Jg (hr x (by simp)) hx⟩
    | succ j=>exact ih.2 j p q (by simpa using hp) (by simpa using hq)
   cases e
def structPlace (fs:List (Nat × Nat × Nat)) (i:Nat):Option (Nat × Nat):=fs[i]?.map fun f=>(f.1,f.2.2)
def SK (P:Program) (ev:Operand->AV) (t:Nat) (parts:Array (Nat × Operand)) (k:Eff->Prop):Prop :=
 match A5 P t with
 | some ti=>match partsA ev parts.toList with
   | some ps=>match ti.k with
     | .struct fs=>match fillA (structPlace fs) (ti.zero.map AV.d) ps with
       | some cs=>(fs.all fun f=>(A5 P f.2.1).isSome)=true/\k ⟨.agg cs,[],[]⟩
       | none=>False
     | .array _ e=>match fillA (fun i=>some (i*((A5 P e).map (·.size)).getD 0,((A5 P e).map (·.size)).getD 0)) (ti.zero.map AV.d) ps with
       | some cs=>(A5 P e).isSome=true/\k ⟨.agg cs,[],[]⟩
       | none=>False
     | _=>False
   | none=>False
 | none=>False
def Xm {h:Aj} {ρ:Place} {z:Value} {ds:List D} (e:Et z.cells.toList=some ds):RL h ρ z.cells (ds.map AV.d):=by
 have hd:=CZ (h:=h) e;refine ⟨by simpa using hd.1,fun i v x hv hx=>?_⟩;simp only[Ada] at hx;cases hc:ds[i]? with
 | none=>simp[hc] at hx
 | some y=>simp[hc] at hx;subst hx;exact .d _ _ (hd.2 i v y (by simpa using hv) hc)
def L9 (P:Program):∀ (fs:List Field),((fs.map fun f=>(f.offset,f.type,((P.info? f.type).map (·.size)).getD 0)).all fun f=>(A5 P f.2.1).isSome)=true ->
  fs.mapM (fun f=>(P.info? f.type).map fun i=>(f.offset,i.size))=some (fs.map fun f=>(f.offset,((P.info? f.type).map (·.size)).getD 0))
 | [],_=>by simp
 | f::r,h=>by simp only[Afh,List.all_cons,Afk] at h;obtain ⟨ti,hti⟩:=Afi.1 h.1;obtain ⟨i,u,z,h1,_⟩:=AY hti;have ih:=L9 P r h.2;simp[List.mapM_cons,ih,h1]
def YA {t:Nat} {parts:Array (Nat × Operand)} {k:Eff->Prop} (ho:o.op=.build t parts) (hk:SK P ev t parts k):∃ e,Al P G o ev (hp H) e/\k e:=by
 have hmem:∀ x,x∈parts.toList.map (·.2)->x∈o.op.operands.toList:=fun x hx=>by simpa[Op.operands,ho] using hx
 unfold SK at hk;split at hk
 ·rename_i ti ht;obtain ⟨i,u,z,h1,h2,h3,h4,h5,h6,h7⟩:=AY ht;split at hk
  ·rename_i ps hps;split at hk
   ·rename_i fs hfs;split at hk
    ·rename_i cs hcs;refine ⟨_,Al.val fun h ρ H' a w hs hops hr=>?_,hk.2⟩;have hpa:=GK (a:=a) hps (fun x hx=>hops x (hmem x hx));obtain ⟨c',e1,e2⟩:=KD (structPlace fs) _ ps z.cells _ cs (Xm h7) hpa.1 hpa.2 hcs;refine ⟨.agg c',?_,.agg c' cs e2.1 e2.2⟩;rw[hfs] at h4;cases u with
     | struct fields =>
      simp only[IG,TK.struct.injEq] at h4;subst h4;have hpl:=L9 P fields.toList hk.1;have epl:(fun x=>(fields.toList.map fun f=>(f.offset,((P.info? f.type).map (·.size)).getD 0)).toArray[x]?)=structPlace (fields.toList.map fun f=>(f.offset,f.type,((P.info? f.type).map (·.size)).getD 0)):=(by funext x;simp[structPlace,Function.comp_def])
      have hb:P.built t (parts.map fun (i,x)=>(i,a.eval x)).toList=some c':=(by unfold Program.built;simp only[h1,h2,h3,hpl,epl];simpa using e1);simp only[execOp,ho,Sem.run_bind,run_build w t _ c' hb,Result.andThen_ok,Sem.run_pure]
     | _=>simp[IG] at h4
    exact hk.elim
   ·rename_i n e he;split at hk
    ·rename_i cs hcs;refine ⟨_,Al.val fun h ρ H' a w hs hops hr=>?_,hk.2⟩;have hpa:=GK (a:=a) hps (fun x hx=>hops x (hmem x hx));obtain ⟨c',e1,e2⟩:=KD _ _ ps z.cells _ cs (Xm h7) hpa.1 hpa.2 hcs;refine ⟨.agg c',?_,.agg c' cs e2.1 e2.2⟩;rw[he] at h4;cases u with
     | array n' e' =>
      simp only[IG,TK.array.injEq] at h4;obtain ⟨rfl,rfl⟩:=h4;obtain ⟨te,hte⟩:=Afi.1 hk.1;obtain ⟨i',u',z',g1,g2,g3,g4,g5,g6,g7⟩:=AY hte;have hb:P.built t (parts.map fun (i,x)=>(i,a.eval x)).toList=some c':=(by unfold Program.built;simp only[h1,h2,h3,g1];simp only[hte,Adf,Afl,<-g5] at e1;simpa using e1)
      simp only[execOp,ho,Sem.run_bind,run_build w t _ c' hb,Result.andThen_ok,Sem.run_pure]
     | _=>simp[IG] at h4
    exact hk.elim
   exact hk.elim
  exact hk.elim
 exact hk.elim
end
end Go.Abs
namespace Go.Abs
open Go
def Ou {α:Type} (place:Nat->Option (Nat × Nat)):∀ (ps:List (Nat × List α)) (cs cs':List α),fillA place cs ps=some cs'->cs'.length=cs.length
 | [],cs,cs',e=>by simp[fillA] at e;subst e;rfl
 | (i,xs)::r,cs,cs',e=>by
   simp only[fillA] at e;split at e;·cases e
   split at e;·rename_i off size _ hc;rw[Ou place r _ cs' e,EW hc.2]
   cases e
def AZ (z:List D) (n:Nat):List D:=(Ado n).map fun i=>z.getD (i % z.length) .nilp
def C8 (z:List D) (n:Nat):(AZ z n).length=n:=by simp[AZ]
def Nf (x:D) (n:Nat):AZ [x] n=List.replicate n x:=by
 apply List.ext_getElem;·simp[AZ]
 intro i h1 h2;simp[AZ,Nat.mod_one]
def GX {h:Aj} {z:Array Value} {ds:List D} (e:Et z.toList=some ds) (h0:0<ds.length) (i:Nat):RD h (z[i % z.size]!) (ds.getD (i % ds.length) .nilp):=by
 have hd:=CZ (h:=h) e;have hs:z.size=ds.length:=by simpa using hd.1
 have hlt:i % ds.length<ds.length:=Nat.mod_lt _ h0;have h1:i % z.size<z.size:=by rw[hs];exact hlt
 have e1:z[i % z.size]! = z[i % z.size]:=getElem!_pos z _ h1;rw[e1];refine hd.2 (i % z.size) _ _ (by simp) ?_;rw[hs,Aa0 hlt];simp[List.getD,Aa0 hlt]
def Pi:∀ {l:List Value} {ds:List D},Et l=some ds->∀ x,x∈ds->x.one=true
 | [],ds,e,x,hx=>by simp[Et] at e;subst e;simp at hx
 | v::r,ds,e,x,hx=>by
   simp only[Et] at e;split at e
   ·rename_i y l hy hl;cases e;rcases Afg.1 hx with rfl | hx
    ·unfold RR at hy;split at hy<;>first | cases hy;rfl | cases hy
    exact Pi hl x hx
   cases e
def HZ {l:List Value} {ds:List D} (e:Et l=some ds) (n:Nat):∀ (j:Nat) x,(AZ ds n)[j]?=some x->x.one=true:=by
 intro j x hx;simp only[AZ,Ada] at hx;cases hc:(Ado n)[j]? with
 | none=>simp[hc] at hx
 | some i =>
  simp[hc] at hx;subst hx;cases hg:ds[i % ds.length]? with
  | none=>rfl
  | some y=>exact Pi e y (List.mem_of_getElem? hg)
def U6 {P:Program} {t e:Nat} {ti:TI} (ht:A5 P t=some ti) (hk:ti.k=.slice e):P.underlying t=some (.slice e):=by obtain ⟨i,u,z,h1,h2,h3,h4,h5,h6,h7⟩:=AY ht;rw[hk] at h4;cases u<;>simp[IG] at h4;subst h4;exact h2
def Au (P:Program) (t:Nat):Option (Nat × TI) :=
 match A5 P t with
 | some ti=>match ti.k with
   | .slice e=>match A5 P e with
     | some te=>some (e,te)
     | none=>none
   | _=>none
 | none=>none
def AO {P:Program} {t e:Nat} {te:TI} (h:Au P t=some (e,te)):P.underlying t=some (.slice e)/\A5 P e=some te:=by
 unfold Au at h;split at h
 ·rename_i ti ht;split at h
  ·rename_i e' hk;split at h;·rename_i te' hte;cases h;exact ⟨U6 ht hk,hte⟩
   cases h
  cases h
 cases h
def Gm (P:Program) (ev:Operand->AV) (H:List Ae) (t len:Nat) (parts:Array (Nat × Operand)) (k:Eff->Prop):Prop :=
 match Au P t with
 | some (_,te)=>match partsA ev parts.toList with
   | some ps=>match fillA (fun i=>some (i*te.size,te.size)) ((AZ te.zero (len*te.size)).map AV.d) ps with
     | some cs=>match sealR H cs with
       | some ds=>len*te.size<=16777216/\0<te.zero.length/\cs.all AV.one=true/\k ⟨.lsl H.length te.size 0 len,frz H (idsL cs)++[(H.length,.row false ds)],H.length::idsL cs⟩
       | none=>False
     | none=>False
   | none=>False
 | none=>False
def He (P:Program) (H:List Ae) (t:Nat) (l c:AV) (k:Eff->Prop):Prop :=
 match Au P t,l,c with
 | some (_,te),.d (.int _ l),.d (.int _ c)=>0<=l/\l<=c/\(te.bytes:Int)*c<=281474976710656/\c<=9223372036854775807/\0<te.zero.length /\
   k ⟨.lsl H.length te.size 0 l.toNat,[(H.length,.row false (AZ te.zero (l.toNat*te.size)))],[H.length]⟩
 | _,_,_=>False
section
variable {P:Program} {G:Ah} {o:Oper} {ev:Operand->AV} {H:List Ae}
def Sim.newRow {h:Aj} {ρ:Place} {H':Bf} {w:World} (s:Sim G h ρ H' w) (n:Nat) (hn:H' n=none) (c:Array Value) (E:Nat) (fz:Bool) (ds:List D) (hl:ds.length<=c.size)
  (hr:∀ (j:Nat) x v,ds[j]?=some x->c[j]?=some v->RD h v x) (ho:∀ (j:Nat) x,ds[j]?=some x->x.one=true) :
  ∃ h',Sim G h' (Fg ρ n (w.heap.size,c.size)) (An H' [(n,.row fz ds)]) (w.alloc (.cells c E))/\Bg h ρ w h' (Fg ρ n (w.heap.size,c.size)) (w.alloc (.cells c E)):=by
 obtain ⟨s1,t1⟩:=s.alloc n hn (.cells c E) c.size (.row false ds)
  ⟨ho,.inr ⟨w.heap.size,c.size,c,E,(0,0),Ax _ _ _,heap_alloc_new w _,rfl,fun j _=>by simp,hl,hr,(fun e=>by cases e),fun j _=>s.held_none j⟩⟩
 cases fz with
 | false=>exact ⟨h,s1,t1⟩
 | true =>
  obtain ⟨h',s2,t2,_⟩:=W7 s1 n false ds (by simp[An]);refine ⟨h',?_,t1.trans t2⟩;have:An (An H' [(n,.row false ds)]) [(n,.row true ds)]=An H' [(n,.row true ds)]:=by funext j;by_cases hj:j=n<;>simp[An,hj]
  rwa[this] at s2
def AbE {H:List Ae}:∀ {cs:List AV} {ds:List D},sealL H cs=some ds->∀ b,b∈idsL cs->∃ x,H[b]?=some x:=by
 have key:(∀ (x:AV) (d:D),sealA H x=some d->∀ b,b∈A3 x->∃ y,H[b]?=some y):=by
  intro x;induction x using AV.rec (motive_2:=fun cs=>∀ ds,sealL H cs=some ds->∀ b,b∈idsL cs->∃ y,H[b]?=some y) with
  | d x=>intro d _ b hb;simp[A3] at hb
  | lsl c sz off n =>
   intro d e b hb;simp[A3] at hb;subst hb;simp only[sealA] at e;split at e;·rename_i hc;exact ⟨_,hc⟩
   cases e
  | ptr=>intro d _ b hb;simp[A3] at hb
  | rptr=>intro d _ b hb;simp[A3] at hb
  | mp=>intro d _ b hb;simp[A3] at hb
  | undef=>intro d _ b hb;simp[A3] at hb
  | agg cs ih =>
   intro d e b hb;simp only[sealA] at e;split at e;·rename_i l hl;exact ih l hl b (by simpa[A3] using hb)
   cases e
  | tup cs ih =>
   intro d e b hb;simp only[sealA] at e;split at e;·rename_i l hl;exact ih l hl b (by simpa[A3] using hb)
   cases e
  | fn f a c ih1 ih2 =>
   intro d e b hb;simp only[sealA] at e;split at e
   ·rename_i l m hl hm;simp[A3] at hb;rcases hb with hb | hb
    ·exact ih1 l hl b hb
    exact ih2 m hm b hb
   cases e
  | nil=>rename_i b hb;simp[idsL] at hb
  | cons x r ih1 ih2 =>
   rename_i ds e b hb;simp only[sealL] at e;split at e
   ·rename_i y l hy hl;simp[idsL] at hb;rcases hb with hb | hb
    ·exact ih1 y hy b hb
    exact ih2 l hl b hb
   cases e
 intro cs;induction cs with
 | nil=>intro ds _ b hb;simp[idsL] at hb
 | cons x r ih =>
  intro ds e b hb;simp only[sealL] at e;split at e
  ·rename_i y l hy hl;simp[idsL] at hb;rcases hb with hb | hb
   ·exact key x y hy b hb
   exact ih hl b hb
  cases e
def Ji (P:Program) (ev:Operand->AV) (H:List Ae) (t len:Nat) (parts:Array (Nat × Operand)) (k:Eff->Prop):Prop :=
 match Au P t with
 | some (_,te)=>match partsA ev parts.toList with
   | some ps=>match fillA (fun i=>some (i*te.size,te.size)) ((AZ te.zero (len*te.size)).map AV.d) ps with
     | some cs=>len*te.size<=16777216/\0<te.zero.length/\k ⟨.lsl H.length te.size 0 len,[(H.length,.box cs)],[H.length]⟩
     | none=>False
   | none=>False
 | none=>False
def SM {t len:Nat} {parts:Array (Nat × Operand)} {k:Eff->Prop} (ho:o.op=.buildSlice t len parts) (hk:Ji P ev H t len parts k):∃ e,Al P G o ev (hp H) e/\k e:=by
 have hmem:∀ x,x∈parts.toList.map (·.2)->x∈o.op.operands.toList:=fun x hx=>by simpa[Op.operands,ho] using hx
 unfold Ji at hk;split at hk
 ·rename_i e te hse;obtain ⟨hu,hte⟩:=AO hse;obtain ⟨i,u,z,h1,h2,h3,h4,h5,h6,h7⟩:=AY hte;split at hk
  ·rename_i ps hps;split at hk
   ·rename_i cs hcs;obtain ⟨k1,k2,k3⟩:=hk;refine ⟨_,Al.gen fun h ρ H' a w hs hops hr=>?_,k3⟩;have hpa:=GK (a:=a) hps (fun x hx=>hops x (hmem x hx))
    let zc:Array Value:=(AfH (len*i.size)).map ((if len*i.size=0 then #[] else z.cells)[· % (if len*i.size=0 then #[] else z.cells).size]!)
    have hz:RL h ρ zc ((AZ te.zero (len*te.size)).map AV.d):=by
     refine ⟨by simp[zc,AZ,h5],fun j v x hv hx=>?_⟩;have hj:j<len*te.size:=(by have:=(AaZ.1 hx).1;simpa[AZ] using this)
     have hne:¬len*i.size=0:=(by rw[h5];omega);have hj':j<len*i.size:=(by rw[h5];exact hj);simp only[zc,hne,if_false,AeI,AeU,hj',if_true,Adf,Option.some.injEq] at hv;simp only[AZ,Afv,Ada,Adi hj,Adf,Afq,Option.some.injEq] at hx;subst hv;subst hx;exact .d _ _ (GX h7 k2 j)
    obtain ⟨c',e1,e2⟩:=KD _ _ ps zc _ cs hz hpa.1 hpa.2 hcs;have hn:H' H.length=none:=(by rw[hr _ (by simp)];simp[hp])
    have hρ:ρ H.length=none:=by
     cases e:ρ H.length with
     | none=>rfl
     | some y=>obtain ⟨_,b,hb⟩:=hs.dom _ y.1 y.2 e;rw[hn] at hb;cases hb
    have hsz:c'.size=len*te.size:=by
     have:=e2.1;have hfl:cs.length=len*te.size:=(by have:=(Ou _ _ _ _ hcs);simpa[AZ] using this)
     omega
    obtain ⟨s2,t2⟩:=hs.alloc H.length hn (.cells c' e) c'.size (.box cs)
     ⟨w.heap.size,c'.size,c',e,(0,0),Ax _ _ _,heap_alloc_new w _,rfl,fun j _=>by simp,Afu e2.1.symm,fun j x v hx hv=>(e2.2 j v x hv hx).mono (Aj.le_refl _) (IQ _ hρ),fun j=>hs.held_none j⟩
    refine ⟨_,_,h,_,?_,s2,.lsl H.length te.size 0 len len w.heap.size c'.size (Ax _ _ _) (AeJ _) (by omega),t2⟩;have k1':¬(16777216<len*i.size):=(by rw[h5];omega)
    have e1':Instr.fill (fun x=>some (x*i.size,i.size)) zc (parts.map fun (i,x)=>(i,a.eval x)).toList=some c':=(by rw[h5];simpa using e1);by_cases hz0:len*i.size=0;·simp only[zc,hz0,if_true] at e1';simp[execOp,ho,Instr.buildSlice,run_underlying hu,sizeOf,typeInfo,h1,hz0];simp at e1';simp[e1',newRow,newObj,Sem.run]
    simp only[zc,hz0,if_false] at e1';simp[execOp,ho,Instr.buildSlice,run_underlying hu,sizeOf,typeInfo,h1,hz0,k1',zeroValue,h3];simp at e1';simp[e1',newRow,newObj,Sem.run]
   exact hk.elim
  exact hk.elim
 exact hk.elim
def OI {t len:Nat} {parts:Array (Nat × Operand)} {k:Eff->Prop} (ho:o.op=.buildSlice t len parts) (hk:Gm P ev H t len parts k):∃ e,Al P G o ev (hp H) e/\k e:=by
 have hmem:∀ x,x∈parts.toList.map (·.2)->x∈o.op.operands.toList:=fun x hx=>by simpa[Op.operands,ho] using hx
 unfold Gm at hk;split at hk
 ·rename_i e te hse;obtain ⟨hu,hte⟩:=AO hse;obtain ⟨i,u,z,h1,h2,h3,h4,h5,h6,h7⟩:=AY hte;split at hk
  ·rename_i ps hps;split at hk
   ·rename_i cs hcs;split at hk
    ·rename_i ds hds;obtain ⟨k1,k2,k0,k3⟩:=hk;refine ⟨_,Al.gen fun h ρ H' a w hs hops hr=>?_,k3⟩;have hpa:=GK (a:=a) hps (fun x hx=>hops x (hmem x hx))
     let zc:Array Value:=(AfH (len*i.size)).map ((if len*i.size=0 then #[] else z.cells)[· % (if len*i.size=0 then #[] else z.cells).size]!)
     have hz:RL h ρ zc ((AZ te.zero (len*te.size)).map AV.d):=by
      refine ⟨by simp[zc,AZ,h5],fun j v x hv hx=>?_⟩;have hj:j<len*te.size:=(by have:=(AaZ.1 hx).1;simpa[AZ] using this)
      have hne:¬len*i.size=0:=(by rw[h5];omega);have hj':j<len*i.size:=(by rw[h5];exact hj);simp only[zc,hne,if_false,AeI,AeU,hj',if_true,Adf,Option.some.injEq] at hv;simp only[AZ,Afv,Ada,Adi hj,Adf,Afq,Option.some.injEq] at hx;subst hv;subst hx;exact .d _ _ (GX h7 k2 j)
     obtain ⟨c',e1,e2⟩:=KD _ _ ps zc _ cs hz hpa.1 hpa.2 hcs;obtain ⟨h',s1,t1,f1⟩:=B8 H (idsL cs) h H' hs (fun b hb=>.inl (hr b (by simp[hb])));have hds':=Nw (e2.mono t1.mono (Place.le_refl _)) hds f1;have hn:(An H' (frz H (idsL cs))) H.length=none:=by
      rw[AG,hr _ (by simp)];·simp[hp]
      intro p hp' e;obtain ⟨y,hy⟩:=(by obtain ⟨l,hl,_⟩:=Jz hds;exact AbE hl p.1 (B4 hp'):∃ x,H[p.1]?=some x);have:=(AaZ.1 hy).1;omega
     have hsz:c'.size=len*te.size:=by
      have:=e2.1;have hfl:cs.length=len*te.size:=(by have:=(Ou _ _ _ _ hcs);simpa[AZ] using this)
      omega
     obtain ⟨h'',s2,t2⟩:=s1.newRow H.length hn c' e false ds (by have:=hds'.1;omega) (fun j x v hx hv=>hds'.2 j v x hv hx) (Lf hds k0);refine ⟨_,_,h'',_,?_,by rw[CP];exact s2,.lsl H.length te.size 0 len len w.heap.size c'.size (Ax _ _ _) (AeJ _) (by omega),t1.trans t2⟩;have k1':¬(16777216<len*i.size):=(by rw[h5];omega)
     have e1':Instr.fill (fun x=>some (x*i.size,i.size)) zc (parts.map fun (i,x)=>(i,a.eval x)).toList=some c':=(by rw[h5];simpa using e1);by_cases hz0:len*i.size=0;·simp only[zc,hz0,if_true] at e1';simp[execOp,ho,Instr.buildSlice,run_underlying hu,sizeOf,typeInfo,h1,hz0];simp at e1';simp[e1',newRow,newObj,Sem.run]
     simp only[zc,hz0,if_false] at e1';simp[execOp,ho,Instr.buildSlice,run_underlying hu,sizeOf,typeInfo,h1,hz0,k1',zeroValue,h3];simp at e1';simp[e1',newRow,newObj,Sem.run]
    exact hk.elim
   exact hk.elim
  exact hk.elim
 exact hk.elim
end
end Go.Abs
namespace Go.Abs
open Go
section
variable {P:Program} {G:Ah} {o:Oper} {ev:Operand->AV} {H:List Ae}
def Pa {t:Nat} {l c:Operand} {k:Eff->Prop} (ho:o.op=.makeSlice t l c) (hk:He P H t (ev l) (ev c) k):∃ e,Al P G o ev (hp H) e/\k e:=by
 unfold He at hk;split at hk
 ·rename_i e te kl li kc ci hse hl hc;obtain ⟨hu,hte⟩:=AO hse;obtain ⟨i,u,z,h1,h2,h3,h4,h5,h6,h7⟩:=AY hte;obtain ⟨k1,k2,k3,k4,k5,k6⟩:=hk;refine ⟨_,Al.gen fun h ρ H' a w hs hops hr=>?_,k6⟩;have e1:=(hl▸hops l (by simp[Op.operands,ho])).int_inv;have e2:=(hc▸hops c (by simp[Op.operands,ho])).int_inv;have hn:H' H.length=none:=by rw[hr _ (by simp)];simp[hp]
  have hrun:=run_make (P:=P) w t e i z hu h1 h3 kl kc li ci k1 k2 (by rw[h6];exact k3) k4;have hz:z.cells.size=te.zero.length:=by have:=(CZ (h:=h) h7).1;simpa using this
  have hle:li.toNat*te.size<=ci.toNat*i.size:=by rw[h5];exact Adk _ (by omega)
  obtain ⟨h',s1,t1⟩:=hs.newRow H.length hn (madeCells z.cells (ci.toNat*i.size)) e false (AZ te.zero (li.toNat*te.size)) (by rw[size_madeCells,C8];exact hle)
   (fun j x v hx hv=>by have hj:j<li.toNat*te.size:=(by have:=(AaZ.1 hx).1;simpa[AZ] using this);simp only[madeCells,AeI,AeU] at hv;rw[if_pos (by omega)] at hv;simp only[Adf,Option.some.injEq] at hv;simp only[AZ,Ada,Adi hj,Adf,Option.some.injEq] at hx;subst hv;subst hx;exact GX h7 k5 j) (HZ h7 _)
  refine ⟨_,_,h',_,?_,s1,.lsl H.length te.size 0 li.toNat ci.toNat w.heap.size _ (Ax _ _ _) (by omega) ?_,t1⟩;·simp[execOp,ho,e1,e2,hrun]
  rw[size_madeCells,h5];omega
 exact hk.elim
def Kx (P:Program) (H:List Ae) (t:Nat) (l c:AV) (k:Eff->Prop):Prop :=
 match Au P t,l,c with
 | some (_,te),.d (.int _ l),.d (.int _ c)=>0<=l/\l<=c/\(te.bytes:Int)*c<=281474976710656/\c<=9223372036854775807/\0<te.zero.length /\
   k ⟨.lsl H.length te.size 0 l.toNat,[(H.length,.box ((AZ te.zero (l.toNat*te.size)).map .d))],[H.length]⟩
 | _,_,_=>False
def T6 {t:Nat} {l c:Operand} {k:Eff->Prop} (ho:o.op=.makeSlice t l c) (hk:Kx P H t (ev l) (ev c) k):∃ e,Al P G o ev (hp H) e/\k e:=by
 unfold Kx at hk;split at hk
 ·rename_i e te kl li kc ci hse hl hc;obtain ⟨hu,hte⟩:=AO hse;obtain ⟨i,u,z,h1,h2,h3,h4,h5,h6,h7⟩:=AY hte;obtain ⟨k1,k2,k3,k4,k5,k6⟩:=hk;refine ⟨_,Al.gen fun h ρ H' a w hs hops hr=>?_,k6⟩;have e1:=(hl▸hops l (by simp[Op.operands,ho])).int_inv;have e2:=(hc▸hops c (by simp[Op.operands,ho])).int_inv;have hn:H' H.length=none:=by rw[hr _ (by simp)];simp[hp]
  have hrun:=run_make (P:=P) w t e i z hu h1 h3 kl kc li ci k1 k2 (by rw[h6];exact k3) k4;have hz:z.cells.size=te.zero.length:=by have:=(CZ (h:=h) h7).1;simpa using this
  have hle:li.toNat*te.size<=ci.toNat*i.size:=by rw[h5];exact Adk _ (by omega)
  obtain ⟨s1,t1⟩:=hs.alloc H.length hn (.cells (madeCells z.cells (ci.toNat*i.size)) e) (madeCells z.cells (ci.toNat*i.size)).size (.box ((AZ te.zero (li.toNat*te.size)).map .d))
   ⟨w.heap.size,_,_,e,(0,0),Ax _ _ _,heap_alloc_new w _,rfl,fun j _=>by simp,by rw[size_madeCells,AfA,C8];exact hle,fun j x v hx hv=>by have hj:j<li.toNat*te.size:=(by have:=(AaZ.1 hx).1;simpa[AZ] using this);simp only[madeCells,AeI,AeU] at hv;rw[if_pos (by omega)] at hv;simp only[Adf,Option.some.injEq] at hv;simp only[AZ,Afv,Ada,Adi hj,Adf,Afq,Option.some.injEq] at hx;subst hv;subst hx;exact .d _ _ (GX h7 k5 j),fun j=>hs.held_none j⟩
  refine ⟨_,_,h,_,?_,s1,.lsl H.length te.size 0 li.toNat ci.toNat w.heap.size _ (Ax _ _ _) (by omega) ?_,t1⟩;·simp[execOp,ho,e1,e2,hrun]
  rw[size_madeCells,h5];omega
 exact hk.elim
def DT (H:List Ae) (sz:Nat):AV->Option (Nat × List D × List Nat)
 | .lsl b _ off n=>match H[b]? with
   | some (.row _ cells)=>some (n,cut cells off (n*sz),[b])
   | _=>none
 | .d (.sl n _ cells)=>some (n,cells,[])
 | .d (.str s)=>some (s.size,s.data.toList.map (fun b=>.int .u8 b.toNat),[])
 | _=>none
def Bx (P:Program) (t:Nat):Bool :=
 match A5 P t with
 | some ti=>match ti.k with | .slice _=>true | .string=>true | _=>false
 | none=>false
def FSa (P:Program) (H:List Ae) (te:TI) (t':Nat) (s x:AV) (k:Eff->Prop):Prop :=
 match x with
 | .lsl b' _ 0 m=>match H[b']? with
   | some (.box xs)=>Bx P t'=true/\xs.length=m*te.size/\0<te.size/\0<m/\xs.all AV.one=true /\
     match s with
     | .d (.sl n true cells)=>cells.length=n*te.size/\n+m<=9223372036854775807/\(n+m)*te.bytes<=140737488355328 /\
       k ⟨.lsl H.length te.size 0 (n+m),[(H.length,.box (cells.map .d++xs))],[H.length,b']⟩
     | .lsl b sz 0 n=>match H[b]? with
       | some (.box cells)=>sz=te.size/\b≠b'/\cells.length=n*te.size/\n+m<=9223372036854775807/\(n+m)*te.bytes<=140737488355328 /\
         k ⟨.lsl H.length te.size 0 (n+m),[(b,.dead),(H.length,.box (cells++xs))],[H.length,b,b']⟩
       | some (.row false [])=>n=0/\sz=te.size/\m<=9223372036854775807/\m*te.bytes<=140737488355328 /\
         k ⟨.lsl H.length te.size 0 m,[(b,.dead),(H.length,.box xs)],[H.length,b,b']⟩
       | _=>False
     | _=>False
   | _=>False
 | _=>False
def De (P:Program) (H:List Ae) (ts:Array TypeId) (s x:AV) (k:Eff->Prop):Prop :=
 match ts.toList with
 | [t,t']=>match Au P t with
   | some (_,te)=>match DT H te.size x with
     | some (m,ds,ids)=>Bx P t'=true/\ds.length=m*te.size/\0<te.size /\
       match s with
       | .d (.sl n true cells)=>cells.length=n*te.size/\(n=0\/0<m)/\n+m<=9223372036854775807/\(n+m)*te.bytes<=140737488355328 /\
         k ⟨.lsl H.length te.size 0 (n+m),[(H.length,.row false (cells++ds))],H.length::ids⟩
       | .lsl b sz 0 n=>match H[b]? with
         | some (.row fz cells)=>sz=te.size/\cells.length=n*te.size/\n+m<=9223372036854775807/\(n+m)*te.bytes<=140737488355328 /\
           k ⟨.lsl H.length te.size 0 (n+m),[(b,.dead),(H.length,.row fz (cells++ds))],H.length::b::ids⟩
         | _=>False
       | _=>False
     | none=>FSa P H te t' s x k
   | none=>False
 | _=>False
def WD {h:Aj} {ρ:Place} {H':Bf} {w:World} {sz m:Nat} {x:AV} {v:Value} {ds:List D} {ids:List Nat} (hs:Sim G h ρ H' w) (hv:R h ρ v x) (e:DT H sz x=some (m,ds,ids))
  (hr:∀ b,b∈ids->H' b=H[b]?) (hl:ds.length=m*sz) :
  Builtin.lenOf v=pure m/\∃ vs:List Value,vs.length=m*sz/\(∀ (j:Nat) d u,ds[j]?=some d->vs[j]?=some u->RD h u d)/\(∀ (j:Nat) d,ds[j]?=some d->d.one=true) /\
   (∀ w':World,(∀ g:Nat,w'.heap[g]?=w.heap[g]?)->(Builtin.firstCells sz m v).run P w'=.ok vs.toArray w'):=by
 cases hv with
 | d v y hy =>
  cases hy with
  | str s =>
   simp only[DT,Option.some.injEq,Prod.mk.injEq] at e;obtain ⟨rfl,rfl,rfl⟩:=e;refine ⟨rfl,s.data.toList.map (fun b=>Value.int .u8 b.toNat),by simpa using hl,fun j d u hd hu=>?_,fun j d hd=>?_,fun w' _=>?_⟩
   ·simp only[Ada] at hd hu;cases hc:s.data.toList[j]? with
    | none=>simp[hc] at hd
    | some b=>simp[hc] at hd hu;subst hd;subst hu;exact .int _ _
   ·simp only[Ada] at hd;cases hc:s.data.toList[j]? with
    | none=>simp[hc] at hd
    | some b=>simp[hc] at hd;subst hd;rfl
   simp only[Builtin.firstCells,Sem.run_pure];congr 1;apply AfI;have:(s.extract 0 s.size)=s:=by simp
   rw[this];simp
  | sl0 base full =>
   simp only[DT,Option.some.injEq,Prod.mk.injEq] at e;obtain ⟨rfl,rfl,rfl⟩:=e;refine ⟨rfl,[],by simp,by simp,by simp,fun w' _=>?_⟩;cases base with
   | none=>simp[Builtin.firstCells]
   | some b=>simp[Builtin.firstCells,loadCells,loadCellsFrom]
  | sl g off n cap full cells vs hn hf hh hr' ho =>
   simp only[DT,Option.some.injEq,Prod.mk.injEq] at e;obtain ⟨rfl,rfl,rfl⟩:=e;refine ⟨rfl,(Ado cells.length).map vs,by simpa using hl,fun j d u hd hu=>?_,ho,fun w' hw'=>?_⟩;·have hj:=(AaZ.1 hd).1;simp[Adi hj] at hu;subst hu;exact hr' j d hd
   refine run_firstCells_some w' sz n _ _ _ _ (by simpa using hl) (fun j u hu=>?_);have hj:j<cells.length:=(by have:=(AaZ.1 hu).1;simpa using this)
   simp[Adi hj] at hu;subst hu;rw[Addr.add_lit];have:=hs.prom _ _ _ (hh j _ (Aa0 hj));rw[<-this];simp[World.cell?,hw' g]
  | _=>simp[DT] at e
 | lsl0 base b sz' off =>
  simp only[DT] at e;split at e
  ·cases e;refine ⟨rfl,[],by simp,by simp,by simp[cut],fun w' _=>?_⟩;cases base with
   | none=>simp[Builtin.firstCells]
   | some b=>simp[Builtin.firstCells,loadCells,loadCellsFrom]
  cases e
 | lsl b sz' off n cap g S hρ hn hc =>
  simp only[DT] at e;split at e
  ·rename_i fz cells hb;cases e;obtain ⟨ho,hblk⟩:=hs.blk b (.row fz cells) (by rw[hr b (by simp)];exact hb);rcases hblk with ⟨b1,_⟩ | ⟨g',S',c,E,fr,b1,b2,b3,b4,b5,b6,b7,b8⟩
   ·rw[hρ] at b1;cases b1
   rw[hρ] at b1;cases b1;have hin:∀ j,j<(cut cells off (m*sz)).length->off+j<cells.length:=fun j hj=>by have:=El (Aa0 hj);exact (AaZ.1 this.2).1
   refine ⟨rfl,(Ado (cut cells off (m*sz)).length).map (fun j=>c.getD (off+j) undef),by simpa using hl,fun j d u hd hu=>?_,fun j d hd=>ho _ d (El hd).2,fun w' hw'=>?_⟩
   ·have hj:=(AaZ.1 hd).1;simp only[Ada,Adi hj,Adf,Option.some.injEq] at hu;subst hu;have hlt:=hin j hj;have hcl:off+j<c.size:=(by omega)
    exact b6 (off+j) d _ (El hd).2 (by simp[Ac7 hcl])
   refine run_firstCells_some w' sz m _ _ _ _ (by simpa using hl) (fun j u hu=>?_);have hj:j<(cut cells off (m*sz)).length:=(by have:=(AaZ.1 hu).1;simpa using this)
   simp only[Ada,Adi hj,Adf,Option.some.injEq] at hu;subst hu;have hlt:=hin j hj;have hcl:off+j<c.size:=(by omega)
   rw[Addr.add_lit];have e1:w'.cell? ⟨g,off+j,none⟩=w.cell? ⟨g,off+j,none⟩:=(by simp[World.cell?,hw' g])
   rw[e1,EP b2];simp[Ac7 hcl]
  cases e
 | _=>simp[DT] at e
def ZF {t':Nat} (h:Bx P t'=true):∃ u,P.underlying t'=some u/\((∃ e',u=.slice e')\/u=.string):=by
 unfold Bx at h;split at h;·rename_i ti ht;obtain ⟨i,u,z,h1,h2,h3,h4,h5,h6,h7⟩:=AY ht;refine ⟨u,h2,?_⟩;rw[<-h4] at h;cases u<;>simp[IG] at h ⊢
 cases h
def FB {w:World} {t t' ty e:Nat} {i:TypeInfo} {z:Value} {u:TypeDesc} (ht:P.underlying t=some (.slice e)) (hu:P.underlying t'=some u) (hni:(∃ e',u=.slice e')\/u=.string)
  (hi:P.info? e=some i) (hz:i.zero=some z) {base:Option Addr} {sLen sCap m:Nat} {x:Value} {olds news:List Value} (hx:Builtin.lenOf x=pure m)
  (ho:(Builtin.firstCells i.size sLen (.slice base sLen sCap)).run P w.drew=.ok olds.toArray w.drew) (hn:(Builtin.firstCells i.size m x).run P w.drew=.ok news.toArray w.drew)
  (hg:sCap<sLen+m) (h63:sLen+m<=9223372036854775807) (hb:(sLen+m)*i.bytes<=140737488355328) :
  (Builtin.append_ #[t,t'] ty #[.slice base sLen sCap,x]).run P w =
   .ok (.slice (some ⟨w.heap.size,0,none⟩) (sLen+m) (grownCap w (sLen+m) sCap e))
    (w.drew.alloc (.cells (olds.toArray++news.toArray++Builtin.zeroCells z.cells (grownCap w (sLen+m) sCap e-(sLen+m))) e)):=by
 have hn':¬(sLen+m<=sCap):=by omega
 have h63':¬(9223372036854775807<((sLen:Int)+(m:Int))):=by omega
 have h48':¬(281474976710656<Builtin.nextslicecap (sLen+m) sCap*i.bytes):=by have:=growslice_fits hg hb;omega
 rcases hni with ⟨e',rfl⟩ | rfl <;>
 ·simp[Builtin.append_,run_underlying ht,run_underlying hu,sizeOf,typeInfo,zeroValue,hi,hz,hx,hn',h63',h48',Question.forced,ho,hn,newRow,grownCap];congr 2;apply AfI;simp[List.append_assoc]
def EL {w:World} {t t' ty e:Nat} {i:TypeInfo} {u:TypeDesc} (ht:P.underlying t=some (.slice e)) (hu:P.underlying t'=some u) (hni:(∃ e',u=.slice e')\/u=.string)
  (hi:P.info? e=some i) {base:Option Addr} {sLen sCap m:Nat} {x:Value} {news:List Value} (hx:Builtin.lenOf x=pure m)
  (hn:(Builtin.firstCells i.size m x).run P w=.ok news.toArray w) (hg:sLen+m<=sCap) {w':World}
  (hst:(match base with | some a=>storeCells (a.add (sLen*i.size)) news | none=>pure ()).run P w=.ok () w') :
  (Builtin.append_ #[t,t'] ty #[.slice base sLen sCap,x]).run P w=.ok (.slice base (sLen+m) sCap) w':=by
 cases base with
 | none =>simp at hst;subst hst;rcases hni with ⟨e',rfl⟩ | rfl<;>simp[Builtin.append_,run_underlying ht,run_underlying hu,sizeOf,typeInfo,hi,hx,hg,hn]
 | some a =>simp only at hst;rcases hni with ⟨e',rfl⟩ | rfl<;>simp[Builtin.append_,run_underlying ht,run_underlying hu,sizeOf,typeInfo,hi,hx,hg,hn,hst]
end
end Go.Abs
namespace Go.Abs
open Go
section
variable {G:Ah} {h:Aj} {ρ:Place} {H:Bf} {w:World}
def Sim.adopt (s:Sim G h ρ H w) (n:Nat) (hn:H n=none) (g S i0:Nat) (h0:ρ i0=some (g,S)) (hd:∀ i S',ρ i=some (g,S')->¬BP H i) (blk:Ae) (h':Aj) (w':World)
  (hh:h.le h') (hother:∀ k,k≠g->(∀ o,h' k o=h k o)/\w'.heap[k]?=w.heap[k]?) (hsize:w'.heap.size=w.heap.size)
  (hos:w'.os=w.os) (htape:w'.tape=w.tape) (hout:w'.output=w.output)
  (hprom:∀ o v,h' g o=some v->w'.cell? ⟨g,o,none⟩=some v) (hb:GZ h' (Fg ρ n (g,S)) w' n blk) :
  Sim G h' (Fg ρ n (g,S)) (An H [(n,blk)]) w'/\Bg h ρ w h' (Fg ρ n (g,S)) w':=by
 have hρ:ρ n=none:=by
  cases e:ρ n with
  | none=>rfl
  | some x=>obtain ⟨_,b,hb⟩:=s.dom n x.1 x.2 e;rw[hn] at hb;cases hb
 have hle:=IQ (g,S) hρ;have hrn:∀ j k S',Fg ρ n (g,S) j=some (k,S')->(∃ j S',ρ j=some (k,S'))\/w.heap.size<=k:=by
  intro j k S' e;by_cases hj:j=n;·subst hj;rw[Ax] at e;cases e;exact .inl ⟨i0,S,h0⟩
  rw[BG ρ _ hj] at e;exact .inl ⟨j,S',e⟩
 have st:Bg h ρ w h' (Fg ρ n (g,S)) w':=⟨hos,htape,hout,by omega,fun k _ hk=>(hother k (fun e=>hk i0 S (e▸h0))).2,hh,fun k _ hk o=>(hother k (fun e=>hk i0 S (e▸h0))).1 o,hle,hrn⟩;have hpr:∀ b o v,h' b o=some v->w'.cell? ⟨b,o,none⟩=some v:=by
  intro b o v e;by_cases hbg:b=g;·subst hbg;exact hprom o v e
  rw[(hother b hbg).1] at e;have:=s.prom b o v e;rw[<-this];simp[World.cell?,(hother b hbg).2]
 refine ⟨⟨hpr,?_,?_,?_,?_⟩,st⟩;·intro k ds e;obtain ⟨vs,h1,h2⟩:=s.glob k ds e;exact ⟨vs,fun j x e=>hh _ _ _ (h1 j x e),fun j x e=>(h2 j x e).mono hh⟩
 ·intro j b e;by_cases hj:j=n;·subst hj;simp[An] at e;subst e;exact hb
  simp[An,hj] at e;by_cases hbd:b=.dead;·subst hbd;trivial
  refine (s.blk j b e).frame st.n hpr hh hle (fun k S' hk=>?_) (fun hx=>by rw[BG ρ _ hj];exact hx);have hne:k≠g:=fun hkg=>hd j S' (hkg▸hk) ⟨b,e,hbd⟩;exact ⟨(hother k hne).2,(hother k hne).1⟩
 ·intro j k S' e;by_cases hj:j=n;·subst hj;rw[Ax] at e;cases e;exact ⟨by have:=(s.dom i0 g S h0).1;omega,blk,by simp[An]⟩
  rw[BG ρ _ hj] at e;obtain ⟨h1,b,h2⟩:=s.dom j k S' e;exact ⟨by omega,b,by simp[An,hj,h2]⟩
 intro j k g' S1 S2 e1 e2 l1 l2;have lv:∀ {x:Nat},x≠n->BP (An H [(n,blk)]) x->BP H x:=fun {x} hx ⟨b,h1,h2⟩=>⟨b,by simpa[An,hx] using h1,h2⟩;by_cases hj:j=n<;>by_cases hk:k=n;·omega
 ·subst hj;rw[Ax] at e1;rw[BG ρ _ hk] at e2;cases e1;exact absurd (lv hk l2) (hd k S2 e2)
 ·subst hk;rw[Ax] at e2;rw[BG ρ _ hj] at e1;cases e2;exact absurd (lv hj l1) (hd j S1 e1)
 rw[BG ρ _ hj] at e1;rw[BG ρ _ hk] at e2;exact s.inj j k g' S1 S2 e1 e2 (lv hj l1) (lv hk l2)
def Sim.virt (s:Sim G h ρ H w) (n:Nat) (hn:H n=none) (fz:Bool):Sim G h ρ (An H [(n,.row fz [])]) w:=by
 have hρ:ρ n=none:=by
  cases e:ρ n with
  | none=>rfl
  | some x=>obtain ⟨_,b,hb⟩:=s.dom n x.1 x.2 e;rw[hn] at hb;cases hb
 refine ⟨s.prom,s.glob,?_,?_,?_⟩
 ·intro j b e;by_cases hj:j=n;·subst hj;simp[An] at e;subst e;exact ⟨by simp,.inl ⟨hρ,rfl⟩⟩
  simp[An,hj] at e;exact s.blk j b e
 ·intro j g S e;obtain ⟨h1,b,h2⟩:=s.dom j g S e;refine ⟨h1,?_⟩;by_cases hj:j=n;·exact ⟨.row fz [],by simp[An,hj]⟩
  exact ⟨b,by simp[An,hj,h2]⟩
 intro j k g S1 S2 e1 e2 l1 l2;have lv:∀ {x:Nat} {y:Nat × Nat},ρ x=some y->BP (An H [(n,.row fz [])]) x->BP H x:=by
  intro x y e ⟨b,h1,h2⟩;by_cases hx:x=n;·subst hx;rw[hρ] at e;cases e
  exact ⟨b,by simpa[An,hx] using h1,h2⟩
 exact s.inj j k g S1 S2 e1 e2 (lv e1 l1) (lv e2 l2)
end
section
variable {P:Program} {G:Ah} {o:Oper} {ev:Operand->AV} {H:List Ae}
def Gw {h:Aj} {ρ:Place} {H':Bf} {w w':World} (hs:Sim G h ρ H' w) {g off n cap sz:Nat} {cells:List D} {vs:Nat->Value} (hl:cells.length=n*sz)
  (hh:∀ (i:Nat) x,cells[i]?=some x->h g (off+i)=some (vs i)) (hw:∀ g:Nat,w'.heap[g]?=w.heap[g]?) :
  (Builtin.firstCells sz n (.slice (some ⟨g,off,none⟩) n cap)).run P w'=.ok ((Ado cells.length).map vs).toArray w':=by
 refine run_firstCells_some w' sz n _ _ _ _ (by simpa using hl) (fun j u hu=>?_);have hj:j<cells.length:=by have:=(AaZ.1 hu).1;simpa using this
 simp[Adi hj] at hu;subst hu;rw[Addr.add_lit];have:=hs.prom _ _ _ (hh j _ (Aa0 hj));rw[<-this];simp[World.cell?,hw g]
def AaS {h:Aj} {ars bs:List Value} {xs ys:List D} (h1:ars.length=xs.length) (ha:∀ (j:Nat) d u,xs[j]?=some d->ars[j]?=some u->RD h u d)
  (hb:∀ (j:Nat) d u,ys[j]?=some d->bs[j]?=some u->RD h u d) (rest:Array Value) (hl:bs.length=ys.length) :
  ∀ (j:Nat) x v,(xs++ys)[j]?=some x->(ars.toArray++bs.toArray++rest)[j]?=some v->RD h v x:=by
 intro j x v hx hv;rw[Adn] at hx;rw[AeQ,AeQ] at hv;simp only[AeR,AeT,AeL] at hv;by_cases hj:j<xs.length;·rw[if_pos hj] at hx;rw[if_pos (by omega),if_pos (by omega)] at hv;exact ha j x v hx hv
 rw[if_neg hj] at hx;have:=(AaZ.1 hx).1;rw[if_pos (by omega),if_neg (by omega)] at hv;exact hb _ x v hx (by rw[<-h1];exact hv)
def MV {xs ys:List D} (h1:∀ (j:Nat) x,xs[j]?=some x->x.one=true) (h2:∀ (j:Nat) x,ys[j]?=some x->x.one=true):∀ (j:Nat) x,(xs++ys)[j]?=some x->x.one=true:=by
 intro j x hx;rw[Adn] at hx;split at hx;·exact h1 _ x hx
 exact h2 _ x hx
def RD.one_ok {h:Aj} {v:Value} {x:D} (r:RD h v x) (e:x.one=true):v.oneCell'=true:=by cases r<;>first | rfl | simp[D.one] at e
def Abf {h:Aj} {ρ:Place} {v:Value} {n:Nat} {full:Bool} {cells:List D} (r:R h ρ v (.d (.sl n full cells))):∀ (j:Nat) x,cells[j]?=some x->x.one=true:=by
 cases r with
 | d _ _ hx=>cases hx with
   | sl0=>simp
   | sl _ _ _ _ _ _ _ _ _ _ _ ho=>exact ho
def Sim.newBox {h:Aj} {ρ:Place} {H':Bf} {w:World} (s:Sim G h ρ H' w) (n:Nat) (hn:H' n=none) (c:Array Value) (E:Nat) (cs:List AV) (hl:cs.length<=c.size)
  (hr:∀ (j:Nat) x v,cs[j]?=some x->c[j]?=some v->R h ρ v x) :
  Sim G h (Fg ρ n (w.heap.size,c.size)) (An H' [(n,.box cs)]) (w.alloc (.cells c E))/\Bg h ρ w h (Fg ρ n (w.heap.size,c.size)) (w.alloc (.cells c E)):=by
 have hρ:ρ n=none:=by
  cases e:ρ n with
  | none=>rfl
  | some x=>obtain ⟨_,b,hb⟩:=s.dom n x.1 x.2 e;rw[hn] at hb;cases hb
 exact s.alloc n hn (.cells c E) c.size (.box cs)
  ⟨w.heap.size,c.size,c,E,(0,0),Ax _ _ _,heap_alloc_new w _,rfl,fun j _=>by simp,hl,fun j x v hx hv=>(hr j x v hx hv).mono (Aj.le_refl _) (IQ _ hρ),fun j=>s.held_none j⟩
def AeW {h:Aj} {ρ:Place} {ars bs:List Value} {xs ys:List AV} (h1:ars.length=xs.length) (ha:∀ (j:Nat) d u,xs[j]?=some d->ars[j]?=some u->R h ρ u d)
  (hb:∀ (j:Nat) d u,ys[j]?=some d->bs[j]?=some u->R h ρ u d) (rest:Array Value) (hl:bs.length=ys.length) :
  ∀ (j:Nat) x v,(xs++ys)[j]?=some x->(ars.toArray++bs.toArray++rest)[j]?=some v->R h ρ v x:=by
 intro j x v hx hv;rw[Adn] at hx;rw[AeQ,AeQ] at hv;simp only[AeR,AeT,AeL] at hv;by_cases hj:j<xs.length;·rw[if_pos hj] at hx;rw[if_pos (by omega),if_pos (by omega)] at hv;exact ha j x v hx hv
 rw[if_neg hj] at hx;have:=(AaZ.1 hx).1;rw[if_pos (by omega),if_neg (by omega)] at hv;exact hb _ x v hx (by rw[<-h1];exact hv)
def SN {h:Aj} {ρ:Place} {H':Bf} {w:World} {sz sz' m b:Nat} {v:Value} {xs:List AV} (hs:Sim G h ρ H' w) (hv:R h ρ v (.lsl b sz' 0 m)) (hb:H' b=some (.box xs)) (hl:xs.length=m*sz) :
  Builtin.lenOf v=pure m/\∃ vs:List Value,vs.length=m*sz/\(∀ (j:Nat) d u,xs[j]?=some d->vs[j]?=some u->R h ρ u d) /\
   (∀ w':World,(∀ g:Nat,w'.heap[g]?=w.heap[g]?)->(Builtin.firstCells sz m v).run P w'=.ok vs.toArray w'):=by
 cases hv with
 | lsl0 base _ _ _ =>
  refine ⟨rfl,[],by simp,by simp,fun w' _=>?_⟩;cases base with
  | none=>simp[Builtin.firstCells]
  | some b=>simp[Builtin.firstCells,loadCells,loadCellsFrom]
 | lsl _ _ _ _ cap g S hρ hn hc =>
  obtain ⟨g',S',c,E,fr,b1,b2,b3,b4,b5,b6,b7⟩:=hs.blk b (.box xs) hb;rw[hρ] at b1;cases b1;refine ⟨rfl,(Ado xs.length).map (fun j=>c.getD j undef),by simpa using hl,fun j d u hd hu=>?_,fun w' hw'=>?_⟩
  ·have hj:=(AaZ.1 hd).1;simp only[Ada,Adi hj,Adf,Option.some.injEq] at hu;subst hu;have hcl:j<c.size:=(by omega)
   exact b6 j d _ hd (by simp[Ac7 hcl])
  refine run_firstCells_some w' sz m _ _ _ _ (by simpa using hl) (fun j u hu=>?_);have hj:j<xs.length:=by have:=(AaZ.1 hu).1;simpa using this
  simp only[Ada,Adi hj,Adf,Option.some.injEq] at hu;subst hu;have hcl:j<c.size:=by omega
  rw[Addr.add_lit,Afc];have e1:w'.cell? ⟨g,j,none⟩=w.cell? ⟨g,j,none⟩:=by simp[World.cell?,hw' g]
  rw[e1,EP b2];simp[Ac7 hcl]
set_option maxHeartbeats 1000000 in
def Pe {t t' e:Nat} {te:TI} {s x:Operand} {k:Eff->Prop} (ho:o.op=.call {callee:=.builtin .append,args:=#[s,x],argTypes:=#[t,t']}) (hse:Au P t=some (e,te))
  (hk:FSa P H te t' (ev s) (ev x) k):∃ e,Al P G o ev (hp H) e/\k e:=by
 obtain ⟨hu,hte⟩:=AO hse;obtain ⟨i,u,z,h1,h2,h3,h4,h5,h6,h7⟩:=AY hte;have exec:∀ (a:Act) (w w':World) (v:Value),(Builtin.append_ #[t,t'] o.type #[a.eval s,a.eval x]).run P w=.ok v w'->(execOp a.eval o).run P w=.ok (.value v) w':=by intro a w w' v hr;simp only[execOp,ho,resolve,invoke,builtin,Sem.run_bind,Sem.run_pure,Result.andThen_ok,Afz,Afh,AfG,hr]
 have mx:x∈o.op.operands.toList:=by simp[Op.operands,Call.operands,ho]
 have ms:s∈o.op.operands.toList:=by simp[Op.operands,Call.operands,ho]
 unfold FSa at hk;split at hk
 ·rename_i b' sz' m hx;split at hk
  ·rename_i xs hb';obtain ⟨k1,k2,k3,k4,k5,hk⟩:=hk;obtain ⟨u',hu',hni⟩:=ZF k1
   have grow:∀ (h:Aj) (ρ:Place) (Hx:Bf) (w:World) (a:Act) (v:Value) (vs:List Value),Sim G h ρ Hx w->Hx H.length=none->a.eval x=v->Builtin.lenOf v=pure m->vs.length=m*te.size ->
     (∀ (j:Nat) d u,xs[j]?=some d->vs[j]?=some u->R h ρ u d)->(∀ w':World,(∀ g:Nat,w'.heap[g]?=w.heap[g]?)->(Builtin.firstCells te.size m v).run P w'=.ok vs.toArray w') ->
     ∀ (base:Option Addr) (n sCap:Nat) (olds:List Value) (cells:List AV),a.eval s=.slice base n sCap->sCap<n+m->cells.length=n*te.size->n+m<=9223372036854775807->(n+m)*te.bytes<=140737488355328 ->
     olds.length=cells.length->(∀ (j:Nat) d u,cells[j]?=some d->olds[j]?=some u->R h ρ u d)->(Builtin.firstCells i.size n (.slice base n sCap)).run P w.drew=.ok olds.toArray w.drew ->
     ∃ v w' h' ρ',(execOp a.eval o).run P w=.ok (.value v) w'/\Sim G h' ρ' (An Hx [(H.length,.box (cells++xs))]) w'/\R h' ρ' v (.lsl H.length te.size 0 (n+m))/\Bg h ρ w h' ρ' w':=by
    intro h ρ Hx w a v vs hs hn hax q1 q2 q3 q4 base n sCap olds cells hb hm c1 c3 c4 hlo hro hfo;have hzl:z.cells.size=te.size:=(by have h8:=(CZ (h:=h) h7).1;have h9:=Nn hte;simp at h8;omega)
    have hrun:=FB (P:=P) (w:=w) (ty:=o.type) hu hu' hni h1 h3 (base:=base) (sLen:=n) (sCap:=sCap) q1 hfo (by rw[h5];exact q4 w.drew (fun _=>rfl)) hm c3 (by rw[h6];exact c4);have hge:=grownCap_ge w (n+m) sCap e;have hcs:(olds.toArray++vs.toArray++Builtin.zeroCells z.cells (grownCap w (n+m) sCap e-(n+m))).size=grownCap w (n+m) sCap e*te.size:=(by simp only[AeR,AeT,size_zeroCells,hzl,hlo,c1,q2,<-Adp];congr 1;omega)
    have hle:(n+m)*te.size<=grownCap w (n+m) sCap e*te.size:=Adk _ hge;obtain ⟨s1,t1⟩:=hs.drew.newBox H.length hn (olds.toArray++vs.toArray++Builtin.zeroCells z.cells (grownCap w (n+m) sCap e-(n+m))) e (cells++xs)
     (by rw[hcs,Adm,c1,k2,<-Adp];exact hle) (AeW hlo hro q3 _ (by omega))
    exact ⟨_,_,h,_,exec a w _ _ (by rw[hb,hax];exact hrun),s1,.lsl H.length te.size 0 (n+m) _ w.heap.size _ (Ax _ _ _) hge (by rw[hcs];omega),Bg.drew.trans t1⟩
   have place:∀ (h:Aj) (ρ:Place) (H':Bf) (w:World) (a:Act) (v:Value) (vs:List Value),Sim G h ρ H' w->H' H.length=none->a.eval x=v->Builtin.lenOf v=pure m->vs.length=m*te.size ->
     (∀ (j:Nat) d u,xs[j]?=some d->vs[j]?=some u->R h ρ u d)->(∀ w':World,(∀ g:Nat,w'.heap[g]?=w.heap[g]?)->(Builtin.firstCells te.size m v).run P w'=.ok vs.toArray w') ->
     ∀ (b n cap g S E:Nat) (c:Array Value) (fr:Nat × Nat) (cells:List AV),BP H' b->b≠H.length->a.eval s=.slice (some ⟨g,0,none⟩) n cap->ρ b=some (g,S)->w.heap[g]?=some (.cells c E fr)->c.size=S->Kc S fr ->
     n<=cap->0+cap*te.size<=S->cells.length=n*te.size->n+m<=9223372036854775807->(n+m)*te.bytes<=140737488355328->(∀ (j:Nat) x v,cells[j]?=some x->c[j]?=some v->R h ρ v x)->(∀ j,h g j=none) ->
     ∃ v w' h' ρ',(execOp a.eval o).run P w=.ok (.value v) w'/\Sim G h' ρ' (An H' [(b,.dead),(H.length,.box (cells++xs))]) w'/\R h' ρ' v (.lsl H.length te.size 0 (n+m))/\Bg h ρ w h' ρ' w':=by
    intro h ρ H' w a v vs hs hn hax q1 q2 q3 q4 b n cap g S E c fr cells hlive hbn hav hρ b2 b3 b4 hnc hcap c1 c3 c4 b6 b7;have s0:=hs.reblk b hlive .dead trivial;have hn0:(An H' [(b,.dead)]) H.length=none:=(by simp[An,Ne.symm hbn,hn])
    have hupd:An (An H' [(b,.dead)]) [(H.length,Ae.box (cells++xs))]=An H' [(b,.dead),(H.length,.box (cells++xs))]:=rfl;by_cases hroom:n+m<=cap
    ·have hfit:n*te.size+m*te.size<=cap*te.size:=(by rw[<-Adp];exact Adk _ hroom);have hones:∀ v,v∈vs->v.oneCell'=true:=(by intro v hv;obtain ⟨j,hj,rfl⟩:=Ae8 hv;exact Sc (vs:=vs.toArray) (xs:=xs) (h:=h) (ρ:=ρ) ⟨by simp;omega,fun j v x hv hx=>q3 j x v hx (by simpa using hv)⟩ k5 _ (by simp));obtain ⟨c',r1,r2,r3⟩:=Cy P g (0+n*i.size) vs 0 c E fr w b2 (by rw[b3];exact b4) (by rw[h5];omega) hones;have hrun:=EL (P:=P) (w:=w) (t:=t) (t':=t') (ty:=o.type) hu hu' hni h1 (base:=some ⟨g,0,none⟩) (sLen:=n) (sCap:=cap) q1 (by rw[h5];exact q4 w (fun _=>rfl)) hroom (by simp only[Addr.add_lit];exact r1);have hsame:∀ j,j<cells.length->c'[j]?=c[j]?:=fun j hj=>by rw[r3 j,if_neg (by rw[h5];omega)]
     have hR0:∀ (j:Nat) x v,(cells++xs)[j]?=some x->c'[j]?=some v->R h ρ v x:=by
      intro j x v hx hv;rw[Adn] at hx;by_cases hj:j<cells.length;·rw[if_pos hj] at hx;rw[hsame j hj] at hv;exact b6 j x v hx hv
      rw[if_neg hj] at hx;have hlt:=(AaZ.1 hx).1;rw[r3 j,if_pos (by rw[h5];omega)] at hv;refine q3 (j-cells.length) x v hx ?_;have e9:j-(0+n*i.size+0)=j-cells.length:=(by rw[h5];omega)
      rw[<-e9];exact hv
     have hdead:∀ i S',ρ i=some (g,S')->¬BP (An H' [(b,.dead)]) i:=by
      intro j S' hj ⟨y,hy1,hy2⟩;by_cases hjb:j=b;·subst hjb;simp[An] at hy1;exact hy2 hy1.symm
      exact hjb (hs.inj j b g S' S hj hρ ⟨y,by simpa[An,hjb] using hy1,hy2⟩ hlive)
     have hρn:ρ H.length=none:=by
      cases e:ρ H.length with
      | none=>rfl
      | some x=>obtain ⟨_,b,hb⟩:=hs.dom _ x.1 x.2 e;rw[hn] at hb;cases hb
     have hlen2:(cells++xs).length<=S:=(by rw[Adm];omega);obtain ⟨s1,t1⟩:=s0.adopt H.length hn0 g S b hρ hdead (.box (cells++xs)) h (w.setRow g c') (Aj.le_refl _) (fun k hk=>⟨fun _=>rfl,setRow_other w g k c' hk⟩) (by simp) rfl rfl rfl
      (fun o v e=>by rw[b7 o] at e;cases e)
      ⟨g,S,c',E,fr,Ax _ _ _,setRow_heap w g c c' E fr b2,by omega,b4,hlen2,fun j x v hx hv=>(hR0 j x v hx hv).mono (Aj.le_refl _) (IQ _ hρn),b7⟩
     exact ⟨_,_,h,_,exec a w _ _ (by rw[hav,hax];exact hrun),s1,.lsl H.length te.size 0 (n+m) cap g S (Ax _ _ _) hroom hcap,t1⟩
    have hc:∀ j,j<cells.length->c[j]?=some (c.getD j undef):=fun j hj=>by
     have hle:n*te.size<=cap*te.size:=Adk _ hnc;have:j<c.size:=by omega
     simp[Ac7 this]
    rw[<-hupd];refine grow h ρ _ w a v vs s0 hn0 hax q1 q2 q3 q4 (some ⟨g,0,none⟩) n cap ((Ado cells.length).map fun j=>c.getD j undef) cells hav (by omega) c1 c3 c4 (by simp) (fun j d u hd hu=>?_) ?_;·have hj:=(AaZ.1 hd).1;simp only[Ada,Adi hj,Adf,Option.some.injEq] at hu;subst hu;exact b6 j d _ hd (hc j hj)
    rw[h5];refine run_firstCells_some w.drew te.size n _ _ _ _ (by simpa using c1) (fun j u hu=>?_);have hj:j<cells.length:=(by have:=(AaZ.1 hu).1;simpa using this)
    simp only[Ada,Adi hj,Adf,Option.some.injEq] at hu;subst hu;rw[Addr.add_lit,Afc];exact (EP (w:=w) b2).trans (hc j hj)
   split at hk
   ·rename_i n cells hsv;obtain ⟨c1,c3,c4,c5⟩:=hk;refine ⟨_,Al.gen fun h ρ H' a w hs hops hr=>?_,c5⟩;have hn:H' H.length=none:=(by rw[hr _ (by simp)];simp[hp])
    obtain ⟨q1,vs,q2,q3,q4⟩:=SN (P:=P) hs (hx▸hops x mx) (by rw[hr b' (by simp)];exact hb') k2;have hvs:=hsv▸hops s ms;have hmap:(cells.map AV.d).length=n*te.size:=(by simpa using c1)
    generalize hav:a.eval s=av at hvs;cases hvs with
    | d _ _ hx2 =>
     cases hx2 with
     | sl0 base full =>
      refine grow h ρ H' w a _ vs hs hn rfl q1 q2 q3 q4 base 0 0 [] _ hav (by omega) hmap c3 c4 (by simp) (by simp) ?_;cases base with
      | none=>simp[Builtin.firstCells]
      | some b=>simp[Builtin.firstCells,loadCells,loadCellsFrom]
     | sl g off n' cap full' cells' us hn' hf hh hr' _ =>
      have hcap:=hf rfl;subst hcap;refine grow h ρ H' w a _ vs hs hn rfl q1 q2 q3 q4 _ _ _ ((Ado cells.length).map us) _ hav (by omega) hmap c3 c4 (by simp) (fun j d u hd hu=>?_) (by rw[h5];exact Gw hs c1 hh (fun _=>rfl));have hj:=(AaZ.1 hd).1;have hj':j<cells.length:=(by simpa using hj)
      simp[Adi hj'] at hu;subst hu;simp only[Ada,Aa0 hj',Adf,Option.some.injEq] at hd;subst hd;exact .d _ _ (hr' j _ (Aa0 hj'))
   ·rename_i b sz n hsv;split at hk
    ·rename_i cells hb;obtain ⟨c0,cb,c1,c3,c4,c5⟩:=hk;refine ⟨_,Al.gen fun h ρ H' a w hs hops hr=>?_,c5⟩;have hn:H' H.length=none:=(by rw[hr _ (by simp)];simp[hp])
     have hHb:H' b=some (.box cells):=(by rw[hr b (by simp)];exact hb);have hlt:b<H.length:=(AaZ.1 hb).1;obtain ⟨q1,vs,q2,q3,q4⟩:=SN (P:=P) hs (hx▸hops x mx) (by rw[hr b' (by simp)];exact hb') k2;have hvs:=hsv▸hops s ms;have hlive:BP H' b:=⟨_,hHb,by simp⟩;have hbn:b≠H.length:=(by omega)
     subst c0;generalize hav:a.eval s=av at hvs;cases hvs with
     | lsl0 base _ _ _ =>
      have s0:=hs.reblk b hlive .dead trivial;have hn0:(An H' [(b,.dead)]) H.length=none:=(by simp[An,Ne.symm hbn,hn])
      have hupd:An (An H' [(b,.dead)]) [(H.length,Ae.box (cells++xs))]=An H' [(b,.dead),(H.length,.box (cells++xs))]:=rfl;rw[<-hupd];have e1:cells=[]:=Adj (by omega);subst e1;refine grow h ρ _ w a _ vs s0 hn0 rfl q1 q2 q3 q4 base 0 0 [] [] hav (by omega) (by simp) c3 c4 (by simp) (by simp) ?_;cases base with
      | none=>simp[Builtin.firstCells]
      | some b=>simp[Builtin.firstCells,loadCells,loadCellsFrom]
     | lsl _ _ _ _ cap g S hρ hnc hcap =>obtain ⟨g',S',c,E,fr,b1,b2,b3,b4,b5,b6,b7⟩:=hs.blk b _ hHb;rw[hρ] at b1;cases b1;exact place h ρ H' w a _ vs hs hn rfl q1 q2 q3 q4 b n cap g S E c fr cells hlive hbn hav hρ b2 b3 b4 hnc hcap c1 c3 c4 b6 b7
    ·rename_i hb;obtain ⟨c0,c00,c3,c4,c5⟩:=hk;subst c0;refine ⟨_,Al.gen fun h ρ H' a w hs hops hr=>?_,c5⟩;have hn:H' H.length=none:=(by rw[hr _ (by simp)];simp[hp])
     have hHb:H' b=some (.row false []):=(by rw[hr b (by simp)];exact hb);have hlt:b<H.length:=(AaZ.1 hb).1;obtain ⟨q1,vs,q2,q3,q4⟩:=SN (P:=P) hs (hx▸hops x mx) (by rw[hr b' (by simp)];exact hb') k2;have hvs:=hsv▸hops s ms;have hlive:BP H' b:=⟨_,hHb,by simp⟩;have hbn:b≠H.length:=(by omega)
     subst c00;have c3':0+m<=9223372036854775807:=(by omega)
     have c4':(0+m)*te.bytes<=140737488355328:=(by rw[Afc];exact c4);have key:∃ v w' h' ρ',(execOp a.eval o).run P w=.ok (.value v) w'/\Sim G h' ρ' (An H' [(b,.dead),(H.length,.box ([]++xs))]) w'/\R h' ρ' v (.lsl H.length te.size 0 (0+m))/\Bg h ρ w h' ρ' w':=by
      generalize hav:a.eval s=av at hvs;cases hvs with
      | lsl0 base _ _ _ =>
       have s0:=hs.reblk b hlive .dead trivial;have hn0:(An H' [(b,.dead)]) H.length=none:=(by simp[An,Ne.symm hbn,hn])
       have hupd:An (An H' [(b,.dead)]) [(H.length,Ae.box ([]++xs))]=An H' [(b,.dead),(H.length,.box ([]++xs))]:=rfl;rw[<-hupd];refine grow h ρ _ w a _ vs s0 hn0 rfl q1 q2 q3 q4 base 0 0 [] [] hav (by omega) (by simp) c3' c4' (by simp) (by simp) ?_;cases base with
       | none=>simp[Builtin.firstCells]
       | some b=>simp[Builtin.firstCells,loadCells,loadCellsFrom]
      | lsl _ _ _ _ cap g S hρ hnc hcap =>
       rcases (hs.blk b _ hHb).2 with ⟨b1,_⟩ | ⟨g',S',c,E,fr,b1,b2,b3,b4,b5,b6,b7,b8⟩
       ·rw[hρ] at b1;cases b1
       rw[hρ] at b1;cases b1;exact place h ρ H' w a _ vs hs hn rfl q1 q2 q3 q4 b 0 cap g S E c fr [] hlive hbn hav hρ b2 b3 b4 hnc hcap (by simp) c3' c4' (by simp) (fun j=>b8 j (by simp))
     rw[Afc] at key;exact key
    exact hk.elim
   exact hk.elim
  exact hk.elim
 exact hk.elim
def Ht {ts:Array TypeId} {s x:Operand} {k:Eff->Prop} (ho:o.op=.call {callee:=.builtin .append,args:=#[s,x],argTypes:=ts})
  (hk:De P H ts (ev s) (ev x) k):∃ e,Al P G o ev (hp H) e/\k e:=by
 unfold De at hk;split at hk
 ·rename_i t t' hts;have hts':ts=#[t,t']:=by rw[<-Array.toArray_toList (xs:=ts),hts]
  subst hts';split at hk
  ·rename_i e te hse;obtain ⟨hu,hte⟩:=AO hse;obtain ⟨i,u,z,h1,h2,h3,h4,h5,h6,h7⟩:=AY hte;split at hk
   ·rename_i m ds ids hsrc;obtain ⟨k1,k2,k3,hk⟩:=hk;obtain ⟨u',hu',hni⟩:=ZF k1;have exec:∀ (a:Act) (w w':World) (v:Value),(Builtin.append_ #[t,t'] o.type #[a.eval s,a.eval x]).run P w=.ok v w'->(execOp a.eval o).run P w=.ok (.value v) w':=by
     intro a w w' v hr;simp only[execOp,ho,resolve,invoke,builtin,Sem.run_bind,Sem.run_pure,Result.andThen_ok,Afz,Afh,AfG,hr]
    split at hk
    ·rename_i n cells hsv;obtain ⟨c1,c2,c3,c4,c5⟩:=hk;refine ⟨_,Al.gen fun h ρ H' a w hs hops hr=>?_,c5⟩;have hn:H' H.length=none:=(by rw[hr _ (by simp)];simp[hp])
     have hvx:=hops x (by simp[Op.operands,Call.operands,ho]);obtain ⟨q1,vs,q2,q3,q5,q4⟩:=WD hs hvx hsrc (fun b hb=>by rw[hr b (by simp[hb])]) k2;have hvs:=hsv▸hops s (by simp[Op.operands,Call.operands,ho]);have hzl:z.cells.size=te.size:=(by have h8:=(CZ (h:=h) h7).1;have h9:=Nn hte;simp at h8;omega)
     have hone:∀ (j:Nat) x,cells[j]?=some x->x.one=true:=Abf hvs
     have grow:∀ (base:Option Addr) (olds:List Value),a.eval s=.slice base n n->0<m->olds.length=cells.length->(∀ (j:Nat) d u,cells[j]?=some d->olds[j]?=some u->RD h u d) ->
       (Builtin.firstCells i.size n (.slice base n n)).run P w.drew=.ok olds.toArray w.drew ->
       ∃ v w' h' ρ',(execOp a.eval o).run P w=.ok (.value v) w'/\Sim G h' ρ' (An H' [(H.length,.row false (cells++ds))]) w'/\R h' ρ' v (.lsl H.length te.size 0 (n+m))/\Bg h ρ w h' ρ' w':=by
      intro base olds hb hm hlo hro hfo;have hrun:=FB (P:=P) (w:=w) (ty:=o.type) hu hu' hni h1 h3 (base:=base) (sLen:=n) (sCap:=n) q1 hfo (by rw[h5];exact q4 w.drew (fun _=>rfl)) (by omega) c3 (by rw[h6];exact c4);have hge:=grownCap_ge w (n+m) n e;have hcs:(olds.toArray++vs.toArray++Builtin.zeroCells z.cells (grownCap w (n+m) n e-(n+m))).size=grownCap w (n+m) n e*te.size:=(by simp only[AeR,AeT,size_zeroCells,hzl,hlo,c1,q2,<-Adp];congr 1;omega)
      have hle:(n+m)*te.size<=grownCap w (n+m) n e*te.size:=Adk _ hge;obtain ⟨h',s1,t1⟩:=hs.drew.newRow H.length hn (olds.toArray++vs.toArray++Builtin.zeroCells z.cells (grownCap w (n+m) n e-(n+m))) e false (cells++ds)
       (by rw[hcs,Adm,c1,k2,<-Adp];exact hle) (AaS hlo hro q3 _ (by omega)) (MV hone q5)
      refine ⟨_,_,h',_,exec a w _ _ (by rw[hb];exact hrun),s1,.lsl H.length te.size 0 (n+m) _ w.heap.size _ (Ax _ _ _) hge (by rw[hcs];omega),Bg.drew.trans t1⟩
     have idle:∀ (base:Option Addr),a.eval s=.slice base 0 0->n=0->m=0 ->
       ∃ v w' h' ρ',(execOp a.eval o).run P w=.ok (.value v) w'/\Sim G h' ρ' (An H' [(H.length,.row false (cells++ds))]) w'/\R h' ρ' v (.lsl H.length te.size 0 (n+m))/\Bg h ρ w h' ρ' w':=by
      intro base hb h0 hm;subst h0;subst hm;have e1:cells=[]:=Adj (by omega);have e2:ds=[]:=Adj (by omega);have e3:vs=[]:=Adj (by omega);subst e1;subst e2;subst e3;refine ⟨.slice base 0 0,w,h,ρ,exec a w _ _ ?_,hs.virt _ hn false,.lsl0 _ _ _ _,Bg.refl _ _ _⟩;rw[hb];refine EL (P:=P) hu hu' hni h1 q1 (by rw[h5];exact q4 w (fun _=>rfl)) (by omega) ?_;cases base<;>simp[storeCells]
     generalize hav:a.eval s=av at hvs;cases hvs with
     | d _ _ hx =>
      cases hx with
      | sl0 base full =>
       rcases Afd m with hm | hm
       ·exact idle base hav rfl hm
       refine grow base [] hav hm rfl (by simp) ?_;cases base with
       | none=>simp[Builtin.firstCells]
       | some b=>simp[Builtin.firstCells,loadCells,loadCellsFrom]
      | sl g off n' cap full' cells' us hn' hf hh hr' _ =>
       have hcap:=hf rfl;subst hcap;rcases c2 with h0 | hm
       ·rcases Afd m with hm | hm
        ·subst h0;exact idle _ hav rfl hm
        exact grow _ ((Ado cells.length).map us) hav hm (by simp) (fun j d u hd hu=>by have hj:=(AaZ.1 hd).1;simp[Adi hj] at hu;subst hu;exact hr' j d hd) (by rw[h5];exact Gw hs c1 hh (fun _=>rfl))
       exact grow _ ((Ado cells.length).map us) hav hm (by simp) (fun j d u hd hu=>by have hj:=(AaZ.1 hd).1;simp[Adi hj] at hu;subst hu;exact hr' j d hd) (by rw[h5];exact Gw hs c1 hh (fun _=>rfl))
    ·rename_i b sz' n hsv;split at hk
     ·rename_i fz cells hb;obtain ⟨c0,c1,c3,c4,c5⟩:=hk;refine ⟨_,Al.gen fun h ρ H' a w hs hops hr=>?_,c5⟩;have hn:H' H.length=none:=(by rw[hr _ (by simp)];simp[hp])
      have hHb:H' b=some (.row fz cells):=(by rw[hr b (by simp)];exact hb);have hlt:b<H.length:=(AaZ.1 hb).1;have hvx:=hops x (by simp[Op.operands,Call.operands,ho]);obtain ⟨q1,vs,q2,q3,q5,q4⟩:=WD hs hvx hsrc (fun b hb=>by rw[hr b (by simp[hb])]) k2;have hvs:=hsv▸hops s (by simp[Op.operands,Call.operands,ho]);have hzl:z.cells.size=te.size:=(by have h8:=(CZ (h:=h) h7).1;have h9:=Nn hte;simp at h8;omega)
      have hlive:BP H' b:=⟨_,hHb,by simp⟩;have s0:=hs.reblk b hlive .dead trivial;have hone:∀ (j:Nat) x,cells[j]?=some x->x.one=true:=(hs.blk b _ hHb).1;have hn0:(An H' [(b,.dead)]) H.length=none:=by
       have:H.length≠b:=by omega
       simp[An,this,hn]
      have grow:∀ (base:Option Addr) (sCap:Nat) (olds:List Value),a.eval s=.slice base n sCap->sCap<n+m->olds.length=cells.length->(∀ (j:Nat) d u,cells[j]?=some d->olds[j]?=some u->RD h u d) ->
        (Builtin.firstCells i.size n (.slice base n sCap)).run P w.drew=.ok olds.toArray w.drew ->
        ∃ v w' h' ρ',(execOp a.eval o).run P w=.ok (.value v) w'/\Sim G h' ρ' (An H' [(b,.dead),(H.length,.row fz (cells++ds))]) w'/\R h' ρ' v (.lsl H.length te.size 0 (n+m))/\Bg h ρ w h' ρ' w':=by
       intro base sCap olds hb hm hlo hro hfo;have hrun:=FB (P:=P) (w:=w) (ty:=o.type) hu hu' hni h1 h3 (base:=base) (sLen:=n) (sCap:=sCap) q1 hfo (by rw[h5];exact q4 w.drew (fun _=>rfl)) hm c3 (by rw[h6];exact c4);have hge:=grownCap_ge w (n+m) sCap e;have hcs:(olds.toArray++vs.toArray++Builtin.zeroCells z.cells (grownCap w (n+m) sCap e-(n+m))).size=grownCap w (n+m) sCap e*te.size:=(by simp only[AeR,AeT,size_zeroCells,hzl,hlo,c1,q2,<-Adp];congr 1;omega)
       have hle:(n+m)*te.size<=grownCap w (n+m) sCap e*te.size:=Adk _ hge;obtain ⟨h',s1,t1⟩:=s0.drew.newRow H.length hn0 (olds.toArray++vs.toArray++Builtin.zeroCells z.cells (grownCap w (n+m) sCap e-(n+m))) e fz (cells++ds)
        (by rw[hcs,Adm,c1,k2,<-Adp];exact hle) (AaS hlo hro q3 _ (by omega)) (MV hone q5)
       refine ⟨_,_,h',_,exec a w _ _ (by rw[hb];exact hrun),s1,.lsl H.length te.size 0 (n+m) _ w.heap.size _ (Ax _ _ _) hge (by rw[hcs];omega),Bg.drew.trans t1⟩
      generalize hav:a.eval s=av at hvs;cases hvs with
      | lsl0 base _ _ _ =>
       have e1:cells=[]:=Adj (by omega);subst e1;rcases Afd m with hm | hm
       ·subst hm;have e2:ds=[]:=Adj (by omega);have e3:vs=[]:=Adj (by omega);subst e2;subst e3;refine ⟨.slice base 0 0,w,h,ρ,exec a w _ _ ?_,s0.virt _ hn0 fz,.lsl0 _ _ _ _,Bg.refl _ _ _⟩;rw[hav];refine EL (P:=P) hu hu' hni h1 q1 (by rw[h5];exact q4 w (fun _=>rfl)) (by omega) ?_;cases base<;>simp[storeCells]
       refine grow base 0 [] hav (by omega) rfl (by simp) ?_;cases base with
       | none=>simp[Builtin.firstCells]
       | some b=>simp[Builtin.firstCells,loadCells,loadCellsFrom]
      | lsl _ _ _ _ cap g S hρ hnc hcap =>
       subst c0;rcases (hs.blk b _ hHb).2 with ⟨b1,_⟩ | ⟨g',S',c,E,fr,b1,b2,b3,b4,b5,b6,b7,b8⟩
       ·rw[hρ] at b1;cases b1
       rw[hρ] at b1;cases b1;by_cases hroom:n+m<=cap
       ·
        have hfit:n*te.size+m*te.size<=cap*te.size:=(by rw[<-Adp];exact Adk _ hroom);have hones:∀ v,v∈vs->v.oneCell'=true:=by
         intro v hv;obtain ⟨j,hj,rfl⟩:=Ae8 hv;have hj':j<ds.length:=(by omega)
         exact (q3 j _ _ (Aa0 hj') (Aa0 hj)).one_ok (q5 j _ (Aa0 hj'))
        obtain ⟨c',r1,r2,r3⟩:=Cy P g (0+n*i.size) vs 0 c E fr w b2 (by rw[b3];exact b4) (by rw[h5];omega) hones;have hrun:=EL (P:=P) (w:=w) (t:=t) (t':=t') (ty:=o.type) hu hu' hni h1 (base:=some ⟨g,0,none⟩) (sLen:=n) (sCap:=cap) q1 (by rw[h5];exact q4 w (fun _=>rfl)) hroom (by simp only[Addr.add_lit];exact r1);have hsame:∀ j,j<cells.length->c'[j]?=c[j]?:=fun j hj=>by rw[r3 j,if_neg (by rw[h5];omega)]
        have hRD:∀ (j:Nat) x v,(cells++ds)[j]?=some x->c'[j]?=some v->RD h v x:=by
         intro j x v hx hv;rw[Adn] at hx;by_cases hj:j<cells.length;·rw[if_pos hj] at hx;rw[hsame j hj] at hv;exact b6 j x v hx hv
         rw[if_neg hj] at hx;have hlt:=(AaZ.1 hx).1;rw[r3 j,if_pos (by rw[h5];omega)] at hv;refine q3 (j-cells.length) x v hx ?_;have e9:j-(0+n*i.size+0)=j-cells.length:=(by rw[h5];omega)
         rw[<-e9];exact hv
        have hdead:∀ i S',ρ i=some (g,S')->¬BP (An H' [(b,.dead)]) i:=by
         intro j S' hj ⟨y,hy1,hy2⟩;by_cases hjb:j=b;·subst hjb;simp[An] at hy1;exact hy2 hy1.symm
         exact hjb (hs.inj j b g S' S hj hρ ⟨y,by simpa[An,hjb] using hy1,hy2⟩ hlive)
        have hlen2:(cells++ds).length<=S:=(by rw[Adm];omega);have hR:∀ h' ρ',h.le h'->R h' (Fg ρ' H.length (g,S)) (.slice (some ⟨g,0,none⟩) (n+m) cap) (.lsl H.length te.size 0 (n+m)):=fun h' ρ' _ =>.lsl H.length te.size 0 (n+m) cap g S (Ax _ _ _) hroom hcap;cases fz with
        | false =>
         have hno:∀ j,h g j=none:=fun j=>b8 j (by simp);obtain ⟨s1,t1⟩:=s0.adopt H.length hn0 g S b hρ hdead (.row false (cells++ds)) h (w.setRow g c') (Aj.le_refl _) (fun k hk=>⟨fun _=>rfl,setRow_other w g k c' hk⟩) (by simp) rfl rfl rfl
          (fun o v e=>by rw[hno o] at e;cases e)
          ⟨MV hone q5,.inr ⟨g,S,c',E,fr,Ax _ _ _,setRow_heap w g c c' E fr b2,by omega,b4,hlen2,hRD,(fun e=>by cases e),fun j _=>hno j⟩⟩
         exact ⟨_,_,h,_,exec a w _ _ (by rw[hav];exact hrun),s1,hR h ρ (Aj.le_refl _),t1⟩
        | true =>
         let h':Aj:=fun k o=>if k=g/\o<(cells++ds).length then c'[o]? else h k o
         have hle:h.le h':=by
          intro k o v e;by_cases hk:k=g/\o<(cells++ds).length
          ·obtain ⟨rfl,ho⟩:=hk;simp only[h',ho,and_self,if_true];by_cases hc:o<cells.length;·rw[hsame o hc,<-b7 rfl o hc];exact e
           rw[b8 o (fun _=>by omega)] at e;cases e
          simp only[h',hk,if_false];exact e
         obtain ⟨s1,t1⟩:=s0.adopt H.length hn0 g S b hρ hdead (.row true (cells++ds)) h' (w.setRow g c') hle (fun k hk=>⟨fun o=>by simp[h',hk],setRow_other w g k c' hk⟩) (by simp) rfl rfl rfl
          (fun o v e=>by
           rw[EP (setRow_heap w g c c' E fr b2)];simp only[h',true_and] at e;split at e;·exact e
           have:=s0.prom g o v e;rw[EP b2] at this;rename_i hno;rw[b8 o (fun _=>by rw[Adm] at hno;omega)] at e;cases e)
          ⟨MV hone q5,.inr ⟨g,S,c',E,fr,Ax _ _ _,setRow_heap w g c c' E fr b2,by omega,b4,hlen2,fun j x v a b=>(hRD j x v a b).mono hle,fun _ j hj=>by simp only[h',hj,and_self,if_true],fun j hj=>by have:=hj rfl;simp only[h',true_and];rw[if_neg (by omega)];exact b8 j (fun _=>by rw[Adm] at this;omega)⟩⟩
         exact ⟨_,_,h',_,exec a w _ _ (by rw[hav];exact hrun),s1,hR h' ρ hle,t1⟩
       have hc:∀ j,j<cells.length->c[j]?=some (c.getD j undef):=fun j hj=>by
        have:j<c.size:=by omega
        simp[Ac7 this]
       refine grow (some ⟨g,0,none⟩) cap ((Ado cells.length).map fun j=>c.getD j undef) hav (by omega) (by simp) (fun j d u hd hu=>?_) ?_;·have hj:=(AaZ.1 hd).1;simp only[Ada,Adi hj,Adf,Option.some.injEq] at hu;subst hu;exact b6 j d _ hd (hc j hj)
       rw[h5];refine run_firstCells_some w.drew te.size n _ _ _ _ (by simpa using c1) (fun j u hu=>?_);have hj:j<cells.length:=(by have:=(AaZ.1 hu).1;simpa using this)
       simp only[Ada,Adi hj,Adf,Option.some.injEq] at hu;subst hu;rw[Addr.add_lit,Afc];exact (EP (w:=w) b2).trans (hc j hj)
     exact hk.elim
    exact hk.elim
   exact Pe ho hse hk
  exact hk.elim
 exact hk.elim
end
def Pj (H H':Bf):∀ (w:List (Nat × Ae)) (b:Nat),(H b=H' b\/b∈w.map (·.1))->An H w b=An H' w b
 | [],b,h=>by rcases h with h | h;exact h;simp at h
 | (i,x)::r,b,h=>by
   rw[An,An];refine Pj _ _ r b ?_;by_cases hb:b=i;·exact .inl (by simp[hb])
   rcases h with h | h
   ·exact .inl (by simp[hb,h])
   simp[hb] at h;exact .inr (by simpa using h)
def KU (P:Program) (H:List Ae) (ts:Array TypeId) (s x:AV) (k:Eff->Prop):Prop :=
 match s with
 | .lsl b sz 0 n=>match H[b]? with
   | some (.row false cells)=>(match x with | .lsl b' _ _ _=>b'≠b | _=>True)/\De P (H.set b (.row false (cells.take (n*sz)))) ts s x k
   | some (.box cells)=>(match x with | .lsl b' _ _ _=>b'≠b | _=>True)/\De P (H.set b (.box (cells.take (n*sz)))) ts s x k
   | _=>False
 | _=>False
def UI {P:Program} {H:List Ae} {ts:Array TypeId} {b sz n:Nat} {x:AV} {k:Eff->Prop} (hk:De P H ts (.lsl b sz 0 n) x k) :
  De P H ts (.lsl b sz 0 n) x (fun e=>k e/\b∈e.w.map (·.1)/\b∈e.r):=by
 unfold De at hk ⊢;split at hk
 ·rename_i t t' hts;split at hk
  ·rename_i e te hse;split at hk
   ·rename_i m ds ids hsrc;obtain ⟨k1,k2,k3,hk⟩:=hk;simp only at hk;refine ⟨k1,k2,k3,?_⟩;simp only;split at hk;·rename_i fz cells hb;obtain ⟨c1,c2,c3,c4,c5⟩:=hk;exact ⟨c1,c2,c3,c4,c5,by simp,by simp⟩
    exact hk.elim
   unfold FSa at hk ⊢;split at hk
   ·rename_i b' sz' m;split at hk
    ·rename_i xs hb';obtain ⟨k1,k2,k3,k4,k5,hk⟩:=hk;refine ⟨k1,k2,k3,k4,k5,?_⟩;simp only at hk ⊢;split at hk;·obtain ⟨c1,c2,c3,c4,c5,c6⟩:=hk;exact ⟨c1,c2,c3,c4,c5,c6,by simp,by simp⟩
     ·obtain ⟨c1,c2,c3,c4,c6⟩:=hk;exact ⟨c1,c2,c3,c4,c6,by simp,by simp⟩
     exact hk.elim
    exact hk.elim
   exact hk.elim
  exact hk.elim
 exact hk.elim
def UH {P:Program} {G:Ah} {o:Oper} {ev:Operand->AV} {H:List Ae} {ts:Array TypeId} {s x:Operand} {k:Eff->Prop} (ho:o.op=.call {callee:=.builtin .append,args:=#[s,x],argTypes:=ts})
  (hk:KU P H ts (ev s) (ev x) k):∃ e,Al P G o ev (hp H) e/\k e:=by
 unfold KU at hk;split at hk
 ·rename_i b sz n hsv;have go:∀ blk blk':Ae,H[b]?=some blk->blk≠.dead->(∀ (h:Aj) (ρ:Place) (w:World),GZ h ρ w b blk->GZ h ρ w b blk')->De P (H.set b blk') ts (.lsl b sz 0 n) (ev x) k->∃ e,Al P G o ev (hp H) e/\k e:=by
   intro blk blk' hb hnd hconv hk;have hk2:=UI hk;rw[<-hsv] at hk2;obtain ⟨e,hop,hke,hw,hr0⟩:=Ht (P:=P) (G:=G) (ev:=ev) ho hk2;refine ⟨e,?_,hke⟩;intro h ρ H' a w hs hops hr;have hbl:b<H.length:=(AaZ.1 hb).1;have hbb:H' b=some blk:=(by rw[hr b hr0];exact hb)
   have hblk:=hs.blk b _ hbb;have hs2:=hs.reblk b ⟨_,hbb,hnd⟩ blk' (hconv h ρ w hblk);have hq:=hop h ρ _ a w hs2 hops (fun c hc=>by
    by_cases hcb:c=b;·subst hcb;simp[An,hp,hbl]
    simp only[An,if_neg hcb,hp];rw[List.getElem?_set_ne (fun e=>hcb e.symm)];exact hr c hc)
   have e1:An (An H' [(b,blk')]) e.w=An H' e.w:=by
    funext c;refine Pj _ _ e.w c ?_;by_cases hcb:c=b;·exact .inr (hcb▸hw)
    exact .inl (by simp[An,hcb])
   rw[e1] at hq;exact hq
  split at hk
  ·rename_i cells hb;obtain ⟨_,hk⟩:=hk;rw[hsv] at hk;refine go _ _ hb (by simp) (fun h ρ w hblk=>?_) hk;obtain ⟨o1,o2⟩:=hblk;refine ⟨fun j x hx=>?_,?_⟩
   ·rw[Adl] at hx;split at hx;·exact o1 j x hx
    cases hx
   rcases o2 with ⟨p1,p2⟩ | ⟨g,S,c,E,fr,b1,b2,b3,b4,b5,b6,b7,b8⟩
   ·exact .inl ⟨p1,by rw[p2];simp⟩
   refine .inr ⟨g,S,c,E,fr,b1,b2,b3,b4,by rw[Afj];omega,fun j x v hx hv=>?_,(fun f=>by cases f),fun j _=>b8 j (fun f=>by cases f)⟩;rw[Adl] at hx;split at hx;·exact b6 j x v hx hv
   cases hx
  ·rename_i cells hb;obtain ⟨_,hk⟩:=hk;rw[hsv] at hk;refine go _ _ hb (by simp) (fun h ρ w hblk=>?_) hk;obtain ⟨g,S,c,E,fr,b1,b2,b3,b4,b5,b6,b7⟩:=hblk;refine ⟨g,S,c,E,fr,b1,b2,b3,b4,by rw[Afj];omega,fun j x v hx hv=>?_,b7⟩;rw[Adl] at hx;split at hx;·exact b6 j x v hx hv
   cases hx
  exact hk.elim
 exact hk.elim
end Go.Abs
namespace Go.Abs
open Go
def CR (op:BinOp) (k:IntKind) (x y:Int):Int :=
 let a:=BitVec.ofInt k.bits x
 let b:=BitVec.ofInt k.bits y
 match op with
 | .and=>k.wrap (a &&& b).toNat
 | .or=>k.wrap (a ||| b).toNat
 | .xor=>k.wrap (a ^^^ b).toNat
 | _=>k.wrap (a &&& ~~~b).toNat
def Yc (op:BinOp) (k:IntKind) (a b:Int) (K:D->Prop):Prop :=
 match op with
 | .add=>K (.int k (k.wrap (a+b)))
 | .sub=>K (.int k (k.wrap (a-b)))
 | .mul=>K (.int k (k.wrap (a*b)))
 | .quo=>b≠0/\K (.int k (k.wrap (a.tdiv b)))
 | .rem=>b≠0/\K (.int k (a.tmod b))
 | .and=>K (.int k (CR .and k a b))
 | .or=>K (.int k (CR .or k a b))
 | .xor=>K (.int k (CR .xor k a b))
 | .andNot=>K (.int k (CR .andNot k a b))
 | .eql=>K (.bool (a == b))
 | .neq=>K (.bool (a != b))
 | .lss=>K (.bool (decide (a<b)))
 | .leq=>K (.bool (decide (a<=b)))
 | .gtr=>K (.bool (decide (b<a)))
 | .geq=>K (.bool (decide (b<=a)))
 | _=>False
def Za (op:BinOp) (a b:ByteArray) (K:D->Prop):Prop :=
 match op with
 | .add=>a.size+b.size<=9223372036854775807/\K (.str (a++b))
 | .eql=>K (.bool (a.toList == b.toList))
 | .neq=>K (.bool (!(a.toList == b.toList)))
 | .lss=>K (.bool (Op.bytesLess a.toList b.toList))
 | .leq=>K (.bool (Op.bytesLess a.toList b.toList || a.toList == b.toList))
 | .gtr=>K (.bool (!(Op.bytesLess a.toList b.toList || a.toList == b.toList)))
 | .geq=>K (.bool (!(Op.bytesLess a.toList b.toList)))
 | _=>False
def Lc (op:BinOp) (k:IntKind) (a b:Int) (K:D->Prop):Prop :=
 match op with
 | .shl=>0<=b/\K (.int k (k.wrap (a*2^min b.toNat k.bits)))
 | .shr=>0<=b/\K (.int k (a.fdiv (2^min b.toNat k.bits)))
 | _=>False
def B3:BinOp->Bool
 | .shl | .shr=>true
 | _=>false
def M5 (P:Program) (t:Nat):Bool :=
 match A5 P t with
 | some ti=>match ti.k with | .bool=>true | _=>false
 | none=>false
def scK (P:Program) (t:Nat):Option Nat :=
 match P.underlying t with
 | some (.int _)=>some 0
 | some .string=>some 1
 | some .bool=>some 2
 | _=>none
def Aan (P:Program):Nat->List Field->Option (List Nat)
 | _,[]=>some []
 | i,f::fs=>if f.name != "_" && f.offset == i then (match scK P f.type,Aan P (i+1) fs with | some k,some ks=>some (k::ks) | _,_=>none) else none
def eqT (P:Program) (t:Nat):Option (List Nat) :=
 if P.stoodInHeld t == false && P.eqGuardType P.depth t == false then
  match P.underlying t with
  | some (.struct fs)=>Aan P 0 fs.toList
  | _=>none
 else none
def Dz:List Nat->List D->List D->Option Bool
 | [],_,_=>some true
 | 0::ks,.int ka a::r,.int kb b::s=>if ka=kb then (match Dz ks r s with | some q=>some ((a == b) && q) | none=>none) else none
 | 1::ks,.str a::r,.str b::s=>match Dz ks r s with | some q=>some ((a.toList == b.toList) && q) | none=>none
 | 2::ks,.bool a::r,.bool b::s=>match Dz ks r s with | some q=>some ((a == b) && q) | none=>none
 | _,_,_=>none
def GW:List AV->Option (List D)
 | []=>some []
 | .d x::r=>match GW r with | some l=>some (x::l) | none=>none
 | _::_=>none
def En:AV->Option (List D)
 | .d (.agg cs)=>some cs
 | .agg cs=>GW cs
 | _=>none
def OR (P:Program) (op:BinOp) (t:Nat) (x y:AV) (k:Eff->Prop):Prop :=
 match En x,En y,eqT P t with
 | some a,some b,some ks=>match Dz ks a b with
   | some q=>match op with
     | .eql=>k ⟨.d (.bool q),[],[]⟩
     | .neq=>k ⟨.d (.bool (!q)),[],[]⟩
     | _=>False
   | none=>False
 | _,_,_=>False
def AbY (P:Program) (op:BinOp) (t:Nat) (x y:AV) (k:Eff->Prop):Prop :=
 match x,y with
 | .d (.int ka a),.d (.int kb b)=>if B3 op then Lc op ka a b (fun d=>k ⟨.d d,[],[]⟩) else ka=kb/\Yc op ka a b (fun d=>k ⟨.d d,[],[]⟩)
 | .d (.str a),.d (.str b)=>Za op a b (fun d=>k ⟨.d d,[],[]⟩)
 | .d (.bool a),.d (.bool b)=>M5 P t=true/\match op with
   | .eql=>k ⟨.d (.bool (a == b)),[],[]⟩
   | .neq=>k ⟨.d (.bool (!(a == b))),[],[]⟩
   | _=>False
 | x,y=>OR P op t x y k
section
variable {P:Program} {G:Ah} {o:Oper} {ev:Operand->AV} {H:List Ae}
def AbD {op:BinOp} {kk:IntKind} {a b:Int} {K:D->Prop} (t:Nat) (hn:B3 op=false) (h:Yc op kk a b K) :
  ∃ d,K d/\∃ v,(∀ w:World,(binOp op t (.int kk a) (.int kk b)).run P w=.ok v w)/\∀ hh:Aj,RD hh v d:=by
 cases op<;>simp only[Yc] at h;case add=>exact ⟨_,h,.int kk (kk.wrap (a+b)),fun w=>by simp[binOp,Op.intArith],fun _=>.int _ _⟩
 case sub=>exact ⟨_,h,.int kk (kk.wrap (a-b)),fun w=>by simp[binOp,Op.intArith],fun _=>.int _ _⟩
 case mul=>exact ⟨_,h,.int kk (kk.wrap (a*b)),fun w=>by simp[binOp,Op.intArith],fun _=>.int _ _⟩
 case quo=>exact ⟨_,h.2,.int kk (kk.wrap (a.tdiv b)),fun w=>by simp[binOp,Op.intDiv,h.1],fun _=>.int _ _⟩
 case rem=>exact ⟨_,h.2,.int kk (a.tmod b),fun w=>by simp[binOp,Op.intDiv,h.1],fun _=>.int _ _⟩
 case and=>exact ⟨_,h,.int kk (CR .and kk a b),fun w=>by simp[binOp,Op.intBits,CR],fun _=>.int _ _⟩
 case or=>exact ⟨_,h,.int kk (CR .or kk a b),fun w=>by simp[binOp,Op.intBits,CR],fun _=>.int _ _⟩
 case xor=>exact ⟨_,h,.int kk (CR .xor kk a b),fun w=>by simp[binOp,Op.intBits,CR],fun _=>.int _ _⟩
 case andNot=>exact ⟨_,h,.int kk (CR .andNot kk a b),fun w=>by simp[binOp,Op.intBits,CR],fun _=>.int _ _⟩
 case eql=>exact ⟨_,h,.bool (a == b),fun w=>by simp[binOp,Op.intCmp],fun _=>.bool _⟩
 case neq=>exact ⟨_,h,.bool (a != b),fun w=>by simp[binOp,Op.intCmp],fun _=>.bool _⟩
 case lss=>exact ⟨_,h,.bool (decide (a<b)),fun w=>by simp[binOp,Op.intCmp],fun _=>.bool _⟩
 case leq=>exact ⟨_,h,.bool (decide (a<=b)),fun w=>by simp[binOp,Op.intCmp],fun _=>.bool _⟩
 case gtr=>exact ⟨_,h,.bool (decide (b<a)),fun w=>by simp[binOp,Op.intCmp],fun _=>.bool _⟩
 case geq=>exact ⟨_,h,.bool (decide (b<=a)),fun w=>by simp[binOp,Op.intCmp],fun _=>.bool _⟩
def XG {op:BinOp} {kk kb:IntKind} {a b:Int} {K:D->Prop} (t:Nat) (h:Lc op kk a b K) :
  ∃ d,K d/\∃ v,(∀ w:World,(binOp op t (.int kk a) (.int kb b)).run P w=.ok v w)/\∀ hh:Aj,RD hh v d:=by
 unfold Lc at h;split at h;·exact ⟨_,h.2,.int kk (kk.wrap (a*2^min b.toNat kk.bits)),fun w=>by have:=h.1;simp[binOp,Op.shift,show ¬b<0 by omega],fun _=>.int _ _⟩
 ·exact ⟨_,h.2,.int kk (a.fdiv (2^min b.toNat kk.bits)),fun w=>by have:=h.1;simp[binOp,Op.shift,show ¬b<0 by omega],fun _=>.int _ _⟩
 exact h.elim
def Abc {op:BinOp} {a b:ByteArray} {K:D->Prop} (t:Nat) (h:Za op a b K) :
  ∃ d,K d/\∃ v,(∀ w:World,(binOp op t (.string a) (.string b)).run P w=.ok v w)/\∀ hh:Aj,RD hh v d:=by
 unfold Za at h;split at h
 ·exact ⟨_,h.2,.string (a++b),fun w=>by
   have:=h.1;have h':¬(9223372036854775807<((a.size:Int)+(b.size:Int))):=(by omega)
   simp[binOp,Op.stringOp,h'],fun _=>.str _⟩
 ·exact ⟨_,h,.bool (a.toList == b.toList),fun w=>by simp[binOp,Op.stringOp],fun _=>.bool _⟩
 ·exact ⟨_,h,.bool (!(a.toList == b.toList)),fun w=>by simp[binOp,Op.stringOp],fun _=>.bool _⟩
 ·exact ⟨_,h,.bool (Op.bytesLess a.toList b.toList),fun w=>by simp[binOp,Op.stringOp],fun _=>.bool _⟩
 ·exact ⟨_,h,.bool (Op.bytesLess a.toList b.toList || a.toList == b.toList),fun w=>by simp[binOp,Op.stringOp],fun _=>.bool _⟩
 ·exact ⟨_,h,.bool (!(Op.bytesLess a.toList b.toList || a.toList == b.toList)),fun w=>by simp[binOp,Op.stringOp],fun _=>.bool _⟩
 ·exact ⟨_,h,.bool (!(Op.bytesLess a.toList b.toList)),fun w=>by simp[binOp,Op.stringOp],fun _=>.bool _⟩
 exact h.elim
def RC {h:Aj} {ρ:Place}:∀ {cs:List AV} {ds:List D} {vs:List Value},GW cs=some ds->vs.length=cs.length->(∀ (i:Nat) v x,vs[i]?=some v->cs[i]?=some x->R h ρ v x) ->
  ds.length=cs.length/\∀ (i:Nat) v x,vs[i]?=some v->ds[i]?=some x->RD h v x
 | [],ds,vs,e,_,_=>by simp[GW] at e;subst e;simp
 | c::cs,ds,vs,e,hl,hr=>by
   cases c<;>simp only[GW] at e<;>try cases e
   rename_i x;cases hm:GW cs with
   | none=>simp[hm] at e
   | some l =>
    simp[hm] at e;subst e;cases vs with
    | nil=>simp at hl
    | cons v vs =>
     obtain ⟨q1,q2⟩:=RC (vs:=vs) hm (by simpa using hl) (fun i u z hu hz=>hr (i+1) u z (by simpa using hu) (by simpa using hz));refine ⟨by simp[q1],fun i u z hu hz=>?_⟩;cases i with
     | zero =>
      simp at hu hz;subst hu;subst hz;have:=hr 0 v (.d x) rfl rfl;cases this with
      | d _ _ hd=>exact hd
     | succ i=>exact q2 i u z (by simpa using hu) (by simpa using hz)
def RE {h:Aj} {ρ:Place} {v:Value} {x:AV} {ds:List D} (r:R h ρ v x) (e:En x=some ds):∃ vs:Array Value,v=.agg vs/\vs.size=ds.length/\∀ (i:Nat) u z,vs[i]?=some u->ds[i]?=some z->RD h u z:=by
 cases r with
 | d v d hd =>
  cases hd with
  | agg vs cells hl hr=>simp[En] at e;subst e;exact ⟨vs,rfl,hl,hr⟩
  | _=>simp[En] at e
 | agg vs cells hl hr =>simp only[En] at e;obtain ⟨q1,q2⟩:=RC (vs:=vs.toList) e (by simpa using hl) (fun i u z hu hz=>hr i u z (by simpa using hu) hz);exact ⟨vs,rfl,by omega,fun i u z hu hz=>q2 i u z (by simpa using hu) hz⟩
 | _=>simp[En] at e
def LV {ft k:Nat} (hk:scK P ft=some k) {xs:Array Value} {i:Nat} {v:Value} (hv:xs[i]?=some v) (w:World):(part ft xs i).run P w=.ok v w:=by unfold scK at hk;split at hk<;>rename_i hu<;>first | (simp[part,isAgg,run_underlying hu,hv];done) | cases hk
def KF {hh hh':Aj} {xs ys:Array Value} {w:World}:∀ (fs:List Field) (i:Nat) (ks:List Nat) (a b:List D) (q:Bool),Aan P i fs=some ks->Dz ks (a.drop i) (b.drop i)=some q->xs.size=a.length->ys.size=b.length ->
  (∀ (j:Nat) u z,xs[j]?=some u->a[j]?=some z->RD hh u z)->(∀ (j:Nat) u z,ys[j]?=some u->b[j]?=some z->RD hh' u z)->(Op.eqFields 9999 xs ys fs).run P w=.ok q w
 | [],i,ks,a,b,q,e1,e2,_,_,_,_=>by simp[Aan] at e1;subst e1;simp[Dz] at e2;subst e2;simp[Op.eqFields]
 | f::fs,i,ks,a,b,q,e1,e2,hx,hy,rx,ry=>by
   simp only[Aan] at e1;split at e1
   ·rename_i hn;simp only[Afk,bne_iff_ne,ne_eq,beq_iff_eq] at hn;obtain ⟨hn,ho⟩:=hn;split at e1
    ·rename_i k ks' hk hks;cases e1;have key:∃ x y ra rb,a.drop i=x::ra/\b.drop i=y::rb:=by
      cases ha:a.drop i with
      | nil=>rw[ha] at e2;unfold Dz at e2;split at e2<;>simp_all
      | cons x ra =>
       cases hb:b.drop i with
       | nil=>rw[ha,hb] at e2;unfold Dz at e2;split at e2<;>simp_all
       | cons y rb=>exact ⟨x,y,ra,rb,rfl,rfl⟩
     obtain ⟨x,y,ra,rb,ha,hb⟩:=key;have hia:a[i]?=some x:=(by rw[<-AfB,ha];rfl)
     have hib:b[i]?=some y:=(by rw[<-AfB,hb];rfl);have hra:a.drop (i+1)=ra:=(by rw[<-AfD,ha];rfl);have hrb:b.drop (i+1)=rb:=(by rw[<-AfD,hb];rfl);have hil:i<xs.size:=(by have:=(AaZ.1 hia).1;omega);have hil':i<ys.size:=(by have:=(AaZ.1 hib).1;omega);have hu:=Ac7 hil;have hv:=Ac7 hil';have r1:=rx i _ _ hu hia;have r2:=ry i _ _ hv hib;have p1:=LV hk hu w;have p2:=LV hk hv w;generalize xs[i]=u at hu r1 p1;generalize ys[i]=v at hv r2 p2;rw[ha,hb] at e2;have fin:∀ c:Bool,(Op.equalIn 9999 f.type u v).run P w=.ok c w->(∃ q',Dz ks' ra rb=some q'/\q=(c && q'))->(Op.eqFields 9999 xs ys (f::fs)).run P w=.ok q w:=by
      rintro c hc ⟨q',hq,rfl⟩;have ih:=KF (w:=w) fs (i+1) ks' a b q' hks (by rw[hra,hrb];exact hq) hx hy rx ry;simp only[Op.eqFields,hn,ne_eq,not_false_eq_true,if_true,ho,Sem.run_bind,p1,p2,Result.andThen_ok,hc];cases c with
      | true=>simpa using ih
      | false=>simp
     unfold scK at hk;split at hk<;>rename_i hu'<;>cases hk
     ·
      cases x with
      | int ka na=>cases y with
        | int kb nb =>
         simp only[Dz] at e2;split at e2
         ·rename_i hab;subst hab;split at e2;·rename_i q' hq;cases e2;cases r1;cases r2;exact fin _ (run_equalIn_int w 9998 f.type _ _ _ _ hu') ⟨q',hq,rfl⟩
          cases e2
         cases e2
        | _=>simp[Dz] at e2
      | _=>cases y<;>simp[Dz] at e2
     ·cases x with
      | str sa=>cases y with
        | str sb =>
         simp only[Dz] at e2;split at e2;·rename_i q' hq;cases e2;cases r1;cases r2;exact fin _ (run_equalIn_string w 9998 f.type _ _ hu') ⟨q',hq,rfl⟩
         cases e2
        | _=>simp[Dz] at e2
      | _=>cases y<;>simp[Dz] at e2
     cases x with
     | bool ba=>cases y with
       | bool bb =>
        simp only[Dz] at e2;split at e2;·rename_i q' hq;cases e2;cases r1;cases r2;exact fin _ (run_equalIn_bool' w 9998 f.type _ _ hu') ⟨q',hq,rfl⟩
        cases e2
       | _=>simp[Dz] at e2
     | _=>cases y<;>simp[Dz] at e2
    cases e1
   cases e1
def YJ {op:BinOp} {t yt:Nat} {x y:Operand} {k:Eff->Prop} (ho:o.op=.binOp op t x y yt) (hk:OR P op t (ev x) (ev y) k):∃ e,Al P G o ev (hp H) e/\k e:=by
 have mx:x∈o.op.operands.toList:=by simp[Op.operands,ho]
 have my:y∈o.op.operands.toList:=by simp[Op.operands,ho]
 unfold OR at hk;split at hk
 ·rename_i a b ks ha hb ht;split at hk
  ·rename_i q hq
   have main:∀ (h:Aj) (ρ:Place) (a':Act) (w:World),(∀ x,x∈o.op.operands.toList->R h ρ (a'.eval x) (ev x))->∃ xs ys,a'.eval x=.agg xs/\a'.eval y=.agg ys/\(eqGuard op t x y (.agg xs) (.agg ys)).run P w=.ok () w /\
     (Op.equalIn 10000 t (.agg xs) (.agg ys)).run P w=.ok q w:=by
    intro h ρ a' w hops;obtain ⟨xs,ex,lx,rx⟩:=RE (hops x mx) ha;obtain ⟨ys,ey,ly,ry⟩:=RE (hops y my) hb;unfold eqT at ht;split at ht
    ·rename_i hc;simp only[Afk,beq_iff_eq] at hc;split at ht
     ·rename_i fs hu;have hf:P.fieldsOf t=fs:=(by simp[Program.fieldsOf,hu])
      refine ⟨xs,ys,ex,ey,run_eqGuard_agg w op t x y xs ys hc.2,?_⟩;rw[run_equalIn_struct w 9999 t xs ys (by rw[hf];exact hu) hc.1,hf];exact KF fs.toList 0 ks a b q ht (by simpa using hq) lx ly rx ry
     cases ht
    cases ht
   split at hk;·refine ⟨_,Al.val fun h ρ H' a' w hs hops hr=>⟨.bool q,?_,.d _ _ (.bool _)⟩,hk⟩;obtain ⟨xs,ys,ex,ey,hg,hr⟩:=main h ρ a' w hops;simp[execOp,ho,ex,ey,hg,run_eql_struct,hr]
   ·refine ⟨_,Al.val fun h ρ H' a' w hs hops hr=>⟨.bool (!q),?_,.d _ _ (.bool _)⟩,hk⟩;obtain ⟨xs,ys,ex,ey,hg,hr⟩:=main h ρ a' w hops;simp[execOp,ho,ex,ey,hg,run_neq_struct,hr]
   exact hk.elim
  exact hk.elim
 exact hk.elim
def AbX {op:BinOp} {t yt:Nat} {x y:Operand} {k:Eff->Prop} (ho:o.op=.binOp op t x y yt) (hk:AbY P op t (ev x) (ev y) k):∃ e,Al P G o ev (hp H) e/\k e:=by
 have mx:x∈o.op.operands.toList:=by simp[Op.operands,ho]
 have my:y∈o.op.operands.toList:=by simp[Op.operands,ho]
 unfold AbY at hk;split at hk
 ·rename_i ka a kb b hx hy;have fin:∀ d:D,(∃ v,(∀ w:World,(binOp op t (.int ka a) (.int kb b)).run P w=.ok v w)/\∀ hh:Aj,RD hh v d)->Al P G o ev (hp H) ⟨.d d,[],[]⟩:=by
   rintro d ⟨v,h1,h2⟩;refine Al.val fun h ρ H' a' w hs hops hr=>⟨v,?_,.d _ _ (h2 h)⟩;have e1:=(hx▸hops x mx).int_inv;have e2:=(hy▸hops y my).int_inv;have hg:(eqGuard op t x y (.int ka a) (.int kb b)).run P w=.ok () w:=(by cases op<;>rfl)
   simp[execOp,ho,e1,e2,hg,h1 w]
  split at hk;·obtain ⟨d,hd,hv⟩:=XG (P:=P) (kb:=kb) t hk;exact ⟨_,fin d hv,hd⟩
  rename_i hsh;obtain ⟨hab,hk⟩:=hk;subst hab;obtain ⟨d,hd,hv⟩:=AbD (P:=P) t (by simpa using hsh) hk;exact ⟨_,fin d hv,hd⟩
 ·rename_i a b hx hy;obtain ⟨d,hd,v,h1,h2⟩:=Abc (P:=P) t hk;refine ⟨_,Al.val fun h ρ H' a' w hs hops hr=>⟨v,?_,.d _ _ (h2 h)⟩,hd⟩;have e1:=(hx▸hops x mx).str_inv;have e2:=(hy▸hops y my).str_inv;have hg:(eqGuard op t x y (.string a) (.string b)).run P w=.ok () w:=by cases op<;>rfl
  simp[execOp,ho,e1,e2,hg,h1 w]
 ·rename_i a b hx hy;obtain ⟨ht,hk⟩:=hk;have hu:P.underlying t=some .bool:=by
   unfold M5 at ht;split at ht
   ·rename_i ti hti;obtain ⟨i,u,z,h1,h2,h3,h4,_⟩:=AY hti;split at ht;·rename_i hkb;rw[hkb] at h4;cases u<;>simp[IG] at h4;exact h2
    cases ht
   cases ht
  split at hk;·refine ⟨_,Al.val fun h ρ H' a' w hs hops hr=>⟨.bool (a == b),?_,.d _ _ (.bool _)⟩,hk⟩;have e1:=(hx▸hops x mx).bool_inv;have e2:=(hy▸hops y my).bool_inv;have hg:(eqGuard .eql t x y (.bool a) (.bool b)).run P w=.ok () w:=rfl;simp[execOp,ho,e1,e2,hg,run_eql_bool w t a b hu]
  ·refine ⟨_,Al.val fun h ρ H' a' w hs hops hr=>⟨.bool (!(a == b)),?_,.d _ _ (.bool _)⟩,hk⟩;have e1:=(hx▸hops x mx).bool_inv;have e2:=(hy▸hops y my).bool_inv;have hg:(eqGuard .neq t x y (.bool a) (.bool b)).run P w=.ok () w:=rfl;simp[execOp,ho,e1,e2,hg,run_neq_bool w t a b hu]
  exact hk.elim
 exact YJ ho hk
def unK (op:UnOp) (x:AV) (k:Eff->Prop):Prop :=
 match op,x with
 | .neg,.d (.int kk n)=>k ⟨.d (.int kk (kk.wrap (0-n))),[],[]⟩
 | .xor,.d (.int kk n)=>k ⟨.d (.int kk (CR .xor kk (if kk.signed then -1 else kk.max) n)),[],[]⟩
 | .not,.d (.bool b)=>k ⟨.d (.bool (!b)),[],[]⟩
 | _,_=>False
def Acw {op:UnOp} {t:Nat} {x:Operand} {k:Eff->Prop} (ho:o.op=.unOp op t x) (hk:unK op (ev x) k):∃ e,Al P G o ev (hp H) e/\k e:=by
 have mx:x∈o.op.operands.toList:=by simp[Op.operands,ho]
 unfold unK at hk;split at hk;·rename_i kk n hx;refine ⟨_,Al.val fun h ρ H' a' w hs hops hr=>⟨.int kk (kk.wrap (0-n)),?_,.d _ _ (.int _ _)⟩,hk⟩;simp[execOp,ho,(hx▸hops x mx).int_inv,Op.unary,Op.intArith]
 ·rename_i kk n hx;refine ⟨_,Al.val fun h ρ H' a' w hs hops hr=>⟨.int kk (CR .xor kk (if kk.signed then -1 else kk.max) n),?_,.d _ _ (.int _ _)⟩,hk⟩;simp[execOp,ho,(hx▸hops x mx).int_inv,Op.unary,Op.intBits,CR]
 ·rename_i b hx;refine ⟨_,Al.val fun h ρ H' a' w hs hops hr=>⟨.bool (!b),?_,.d _ _ (.bool _)⟩,hk⟩;simp[execOp,ho,(hx▸hops x mx).bool_inv,Op.unary]
 exact hk.elim
def I6 (x:AV) (k:Eff->Prop):Prop :=
 match x with
 | .ptr b off=>k ⟨.ptr b off,[],[]⟩
 | .rptr off cs=>k ⟨.rptr off cs,[],[]⟩
 | .fn (.func f) a b=>k ⟨.fn (.func f) a b,[],[]⟩
 | .d (.fn (.func f) a b)=>k ⟨.d (.fn (.func f) a b),[],[]⟩
 | _=>False
def Sk {x:Operand} {k:Eff->Prop} (ho:o.op=.nilCheck x) (hk:I6 (ev x) k):∃ e,Al P G o ev (hp H) e/\k e:=by
 have mx:x∈o.op.operands.toList:=by simp[Op.operands,ho]
 have fin:(∀ (h:Aj) (ρ:Place) (v:Value),R h ρ v (ev x)->(execOp (fun _=>v) o=pure (.value v)))->Al P G o ev (hp H) ⟨ev x,[],[]⟩:=by intro hf;refine Al.val fun h ρ H' a' w hs hops hr=>⟨a'.eval x,?_,hops x mx⟩;have:=hf h ρ (a'.eval x) (hops x mx);simp only[execOp,ho] at this ⊢;rw[this];rfl
 unfold I6 at hk;split at hk<;>rename_i hx;·refine ⟨_,fin fun h ρ v hv=>?_,hx▸hk⟩;rw[hx] at hv;cases hv;simp[execOp,ho]
 ·refine ⟨_,fin fun h ρ v hv=>?_,hx▸hk⟩;rw[hx] at hv;cases hv;simp[execOp,ho]
 ·refine ⟨_,fin fun h ρ v hv=>?_,hx▸hk⟩;rw[hx] at hv;cases hv;simp[execOp,ho]
 ·refine ⟨_,fin fun h ρ v hv=>?_,hx▸hk⟩;rw[hx] at hv;cases hv with | d _ _ hd=>cases hd;simp[execOp,ho]
 exact hk.elim
def R1 {fn:Fn} {a b:Array Operand} {h0:Bf} (ho:o.op=.makeFunc fn a b):Al P G o ev h0 ⟨.fn fn (a.toList.map ev) (b.toList.map ev),[],[]⟩:=by
 refine Al.val fun h ρ H' act w hs hops _=>⟨.func fn (a.map act.eval) (b.map act.eval),?_,.fn _ _ _ _ _ (by simp) (by simp) (fun i v x hv hx=>?_) (fun i v x hv hx=>?_)⟩;·simp[execOp,ho,Instr.makeFunc]
 ·simp only[AeI] at hv;simp only[Ada,AeK] at hx;cases hc:a[i]? with
  | none=>simp[hc] at hv
  | some z =>simp[hc] at hv hx;subst hv;subst hx;exact hops z (by simp[Op.operands,ho];exact .inl (Afo hc))
 simp only[AeI] at hv;simp only[Ada,AeK] at hx;cases hc:b[i]? with
 | none=>simp[hc] at hv
 | some z =>simp[hc] at hv hx;subst hv;subst hx;exact hops z (by simp[Op.operands,ho];exact .inr (Afo hc))
def KE (x:AV) (i:Nat) (k:Eff->Prop):Prop :=
 match x with
 | .tup vs=>i<vs.length/\k ⟨vs.getD i .undef,[],[]⟩
 | .d (.tup vs)=>i<vs.length/\k ⟨.d (vs.getD i .nilp),[],[]⟩
 | _=>False
def Un {x:Operand} {i:Nat} {k:Eff->Prop} (ho:o.op=.extract x i) (hk:KE (ev x) i k):∃ e,Al P G o ev (hp H) e/\k e:=by
 have mx:x∈o.op.operands.toList:=by simp[Op.operands,ho]
 unfold KE at hk;split at hk
 ·rename_i vs hx;refine ⟨_,Al.val fun h ρ H' a' w hs hops hr=>?_,hk.2⟩;have hv:=hx▸hops x mx;generalize he:a'.eval x=v at hv;cases hv with
  | tup us _ hl hrr =>
   have hi:i<us.size:=(by rw[hl];exact hk.1);refine ⟨us[i],?_,?_⟩;·simp[execOp,ho,he,Instr.extract,Ac7 hi]
   simp only[Adq,Aa0 hk.1,Afl];exact hrr i _ _ (Ac7 hi) (Aa0 hk.1)
 ·rename_i vs hx;refine ⟨_,Al.val fun h ρ H' a' w hs hops hr=>?_,hk.2⟩;have hv:=hx▸hops x mx;generalize he:a'.eval x=v at hv;cases hv with
  | d _ _ hd=>cases hd with
    | tup us _ hl hrr =>
     have hi:i<us.size:=(by rw[hl];exact hk.1);refine ⟨us[i],?_,?_⟩;·simp[execOp,ho,he,Instr.extract,Ac7 hi]
     simp only[Adq,Aa0 hk.1,Afl];exact .d _ _ (hrr i _ _ (Ac7 hi) (Aa0 hk.1))
 exact hk.elim
end
end Go.Abs
namespace Go.Abs
open Go
def A2 (P:Program) (t f:Nat):Option (Nat × Nat × Nat) :=
 match A5 P t with
 | some ti=>match ti.k with
   | .struct fs=>fs[f]?
   | _=>none
 | none=>none
def Kj {P:Program} {t f off ty sz:Nat} (h:A2 P t f=some (off,ty,sz)) :
  ∃ fields:Array Field,P.underlying t=some (.struct fields)/\∃ fl,fields[f]?=some fl/\fl.offset=off/\fl.type=ty/\((P.info? ty).map (·.size)).getD 0=sz:=by
 unfold A2 at h;split at h
 ·rename_i ti ht;obtain ⟨i,u,z,h1,h2,h3,h4,_⟩:=AY ht;split at h
  ·rename_i fs hfs;rw[hfs] at h4;cases u<;>simp[IG] at h4;rename_i fields;refine ⟨fields,h2,?_⟩;subst h4;simp only[Ada,AeK] at h;cases hc:fields[f]? with
   | none=>simp[hc] at h
   | some fl =>simp[hc] at h;obtain ⟨rfl,rfl,rfl⟩:=h;exact ⟨fl,rfl,rfl,rfl,rfl⟩
  cases h
 cases h
def Hm (P:Program) (t:Nat) (x:AV) (f:Nat) (k:Eff->Prop):Prop :=
 match A2 P t f with
 | some (o,_,sz)=>0<sz/\match x with
   | .ptr b off=>k ⟨.ptr b (off+o),[],[]⟩
   | .rptr off cs=>k ⟨.rptr (off+o) cs,[],[]⟩
   | _=>False
 | none=>False
def Sa (P:Program) (ty off:Nat) (cs:List AV) (k:Eff->Prop):Prop :=
 match A5 P ty with
 | some ti=>if Cm ti.k then k ⟨.agg ((cs.drop off).take ti.size),[],[]⟩ else off<cs.length/\k ⟨cs.getD off .undef,[],[]⟩
 | none=>False
def WP (P:Program) (ty off:Nat) (cs:List D) (k:Eff->Prop):Prop :=
 match A5 P ty with
 | some ti=>if Cm ti.k then k ⟨.d (.agg ((cs.drop off).take ti.size)),[],[]⟩ else off<cs.length/\k ⟨.d (cs.getD off .nilp),[],[]⟩
 | none=>False
def fieldK (P:Program) (t:Nat) (x:AV) (f:Nat) (k:Eff->Prop):Prop :=
 match A2 P t f with
 | some (o,ty,_)=>match x with
   | .agg cs=>Sa P ty o cs k
   | .d (.agg cs)=>WP P ty o cs k
   | _=>False
 | none=>False
def FR (P:Program) (t:Nat):Option (Nat × Nat × Nat) :=
 match A5 P t with
 | some ti=>match ti.k with
   | .array n e=>match A5 P e with
     | some te=>some (n,e,te.size)
     | none=>none
   | _=>none
 | none=>none
def E5 {P:Program} {t n e sz:Nat} (h:FR P t=some (n,e,sz)):P.underlying t=some (.array n e)/\∃ te,A5 P e=some te/\te.size=sz:=by
 unfold FR at h;split at h
 ·rename_i ti ht;obtain ⟨i,u,z,h1,h2,h3,h4,_⟩:=AY ht;split at h
  ·rename_i n' e' hk;split at h;·rename_i te hte;cases h;rw[hk] at h4;cases u<;>simp[IG] at h4;obtain ⟨rfl,rfl⟩:=h4;exact ⟨h2,te,hte,rfl⟩
   cases h
  cases h
 cases h
def Hi (P:Program) (t:Nat) (x i:AV) (k:Eff->Prop):Prop :=
 match i with
 | .d (.int _ i)=>match Au P t with
   | some (_,te)=>match x with
     | .lsl b sz off n=>sz=te.size/\0<=i/\i<n/\k ⟨.ptr b (off+i.toNat*sz),[],[]⟩
     | .d (.sl n _ cs)=>0<=i/\i<n/\k ⟨.rptr (i.toNat*te.size) cs,[],[]⟩
     | _=>False
   | none=>match FR P t with
     | some (n,_,sz)=>0<=i/\i<n/\match x with
       | .ptr b off=>k ⟨.ptr b (off+i.toNat*sz),[],[]⟩
       | .rptr off cs=>k ⟨.rptr (off+i.toNat*sz) cs,[],[]⟩
       | _=>False
     | none=>False
 | _=>False
def DW (P:Program) (t:Nat):Bool :=
 match A5 P t with
 | some ti=>match ti.k with | .string=>true | _=>false
 | none=>false
def CD {P:Program} {t:Nat} (h:DW P t=true):P.underlying t=some .string:=by
 unfold DW at h;split at h
 ·rename_i ti ht;obtain ⟨i,u,z,h1,h2,h3,h4,_⟩:=AY ht;split at h;·rename_i hk;rw[hk] at h4;cases u<;>simp[IG] at h4;exact h2
  cases h
 cases h
def ID (s:ByteArray) (i:Nat):Int:=((s.data.toList.getD i 0).toNat:Int)
def Sr (P:Program) (t:Nat) (x i:AV) (k:Eff->Prop):Prop :=
 match i with
 | .d (.int _ i)=>match x with
   | .d (.str s)=>DW P t=true/\0<=i/\i<s.size/\k ⟨.d (.int .u8 (ID s i.toNat)),[],[]⟩
   | .agg cs=>match FR P t with
     | some (n,e,sz)=>0<=i/\i<n/\Sa P e (i.toNat*sz) cs k
     | none=>False
   | .d (.agg cs)=>match FR P t with
     | some (n,e,sz)=>0<=i/\i<n/\WP P e (i.toNat*sz) cs k
     | none=>False
   | _=>False
 | _=>False
section
variable {P:Program} {G:Ah} {o:Oper} {ev:Operand->AV} {H:List Ae}
def Pc {t f:Nat} {x:Operand} {k:Eff->Prop} (ho:o.op=.fieldAddr t x f) (hk:Hm P t (ev x) f k):∃ e,Al P G o ev (hp H) e/\k e:=by
 have mx:x∈o.op.operands.toList:=by simp[Op.operands,ho]
 unfold Hm at hk;split at hk
 ·rename_i fo ty sz hf;obtain ⟨fields,hu,fl,h1,h2,h3,h4⟩:=Kj hf;obtain ⟨hsz,hk⟩:=hk;have hsize:∀ w:World,(sizeOf fl.type).run P w=.ok sz w:=by
   intro w;rw[h3];cases hi:P.info? ty with
   | none=>simp[hi] at h4;omega
   | some i=>simp[hi] at h4;simp[sizeOf,typeInfo,hi,h4]
  have run:∀ (w:World) (g off:Nat),(Instr.fieldAt t (.pointer (some ⟨g,off,none⟩)) f).run P w=.ok (.pointer (some ⟨g,off+fo,none⟩)) w:=by
   intro w g off;have hne:sz≠0:=(by omega)
   simp[Instr.fieldAt,run_underlying hu,h1,Instr.sureAddr,fieldPlace,hsize,hne,h2,Addr.add_lit]
  split at hk;·rename_i b off hx;refine ⟨_,Al.val fun h ρ H' a' w hs hops hr=>?_,hk⟩;obtain ⟨g,S,e1,e2⟩:=(hx▸hops x mx).ptr_inv;exact ⟨_,by simp[execOp,ho,e1,run w g off],.ptr b _ g S e2⟩
  ·rename_i off cs hx;refine ⟨_,Al.val fun h ρ H' a' w hs hops hr=>?_,hk⟩;have hv:=hx▸hops x mx;generalize he:a'.eval x=v at hv;cases hv with
   | rptr g base _ _ vs q1 q2 =>exact ⟨.pointer (some ⟨g,base+(off+fo),none⟩),by simp[execOp,ho,he,run w g (base+off),Aff],.rptr g base _ cs vs q1 q2⟩
  exact hk.elim
 exact hk.elim
def Tu {w:World} {ty:Nat} {ti:TI} (ht:A5 P ty=some ti) (cs:Array Value) (off:Nat) (hb:Cm ti.k=false->off<cs.size) :
  (part ty cs off).run P w=.ok (if Cm ti.k then .agg (cs.extract off (off+ti.size)) else cs.getD off undef) w:=by
 simp only[part,Sem.run_bind,Pw ht,Result.andThen_ok];cases ha:Cm ti.k;·have:=hb ha;simp[Ac7 this]
 simp[run_sizeOf ht]
def XW {h:Aj} {ρ:Place} {us:Array Value} {cs:List AV} (r:RL h ρ us cs) {ti:TI} {off:Nat} (hb:Cm ti.k=false->off<cs.length) :
  R h ρ (if Cm ti.k then .agg (us.extract off (off+ti.size)) else us.getD off undef) (if Cm ti.k then .agg ((cs.drop off).take ti.size) else cs.getD off .undef):=by
 cases ha:Cm ti.k
 ·have h1:=hb ha;have h2:off<us.size:=by rw[r.1];exact h1
  simp[Aa0 h1,Ac7 h2];exact r.2 off _ _ (Ac7 h2) (Aa0 h1)
 simp only[if_true];refine .agg _ _ ?_ (fun i v x hv hx=>?_);·have:=r.1;simp;omega
 rw[Adl] at hx;split at hx
 ·rw[Aet] at hx;rw[Afm] at hv;split at hv;·exact r.2 _ v x hv hx
  cases hv
 cases hx
def Zu {h:Aj} {us:Array Value} {cs:List D} (hl:us.size=cs.length) (r:∀ (i:Nat) v x,us[i]?=some v->cs[i]?=some x->RD h v x) {ti:TI} {off:Nat} (hb:Cm ti.k=false->off<cs.length) :
  RD h (if Cm ti.k then .agg (us.extract off (off+ti.size)) else us.getD off undef) (if Cm ti.k then .agg ((cs.drop off).take ti.size) else cs.getD off .nilp):=by
 cases ha:Cm ti.k
 ·have h1:=hb ha;have h2:off<us.size:=by rw[hl];exact h1
  simp[Aa0 h1,Ac7 h2];exact r off _ _ (Ac7 h2) (Aa0 h1)
 simp only[if_true];refine .agg _ _ ?_ (fun i v x hv hx=>?_);·simp;omega
 rw[Adl] at hx;split at hx
 ·rw[Aet] at hx;rw[Afm] at hv;split at hv;·exact r _ v x hv hx
  cases hv
 cases hx
def NN {ty off:Nat} {x:Operand} (mx:x∈o.op.operands.toList) {k:Eff->Prop}
  (hrun:∀ (a:Act) (w:World) (us:Array Value) (v:Value),a.eval x=.agg us->(∀ y,y∈o.op.operands.toList->∃ (h:Aj) (ρ:Place),R h ρ (a.eval y) (ev y))->(part ty us off).run P w=.ok v w->(execOp a.eval o).run P w=.ok (.value v) w) :
  (∀ cs,ev x=.agg cs->Sa P ty off cs k->∃ e,Al P G o ev (hp H) e/\k e)/\(∀ cs,ev x=.d (.agg cs)->WP P ty off cs k->∃ e,Al P G o ev (hp H) e/\k e):=by
 constructor
 ·intro cs hx hk;unfold Sa at hk;split at hk
  ·rename_i ti ht;have key:(Cm ti.k=false->off<cs.length)->Al P G o ev (hp H) ⟨if Cm ti.k then .agg ((cs.drop off).take ti.size) else cs.getD off .undef,[],[]⟩:=by
    intro hb;refine Al.val fun h ρ H' a' w hs hops hr=>?_;have hv:=hx▸hops x mx;generalize he:a'.eval x=v at hv;cases hv with
    | agg us _ hl hrr =>exact ⟨_,hrun a' w us _ he (fun y hy=>⟨h,ρ,hops y hy⟩) (Tu ht us off (fun hf=>by rw[hl];exact hb hf)),XW ⟨hl,hrr⟩ hb⟩
   cases ha:Cm ti.k<;>simp only[ha,if_true,if_false,Afs] at hk key;·exact ⟨_,key (fun _=>hk.1),hk.2⟩
   exact ⟨_,key (fun hf=>by cases hf),hk⟩
  exact hk.elim
 intro cs hx hk;unfold WP at hk;split at hk
 ·rename_i ti ht;have key:(Cm ti.k=false->off<cs.length)->Al P G o ev (hp H) ⟨.d (if Cm ti.k then .agg ((cs.drop off).take ti.size) else cs.getD off .nilp),[],[]⟩:=by
   intro hb;refine Al.val fun h ρ H' a' w hs hops hr=>?_;have hv:=hx▸hops x mx;generalize he:a'.eval x=v at hv;cases hv with
   | d _ _ hd=>cases hd with
     | agg us _ hl hrr =>exact ⟨_,hrun a' w us _ he (fun y hy=>⟨h,ρ,hops y hy⟩) (Tu ht us off (fun hf=>by rw[hl];exact hb hf)),.d _ _ (Zu hl hrr hb)⟩
  cases ha:Cm ti.k<;>simp only[ha,if_true,if_false,Afs] at hk key;·exact ⟨_,key (fun _=>hk.1),hk.2⟩
  exact ⟨_,key (fun hf=>by cases hf),hk⟩
 exact hk.elim
def Yj {t f:Nat} {x:Operand} {k:Eff->Prop} (ho:o.op=.field t x f) (hk:fieldK P t (ev x) f k):∃ e,Al P G o ev (hp H) e/\k e:=by
 have mx:x∈o.op.operands.toList:=by simp[Op.operands,ho]
 unfold fieldK at hk;split at hk
 ·rename_i fo ty sz hf;obtain ⟨fields,hu,fl,h1,h2,h3,h4⟩:=Kj hf;have pe:=NN (P:=P) (G:=G) (H:=H) (ev:=ev) (ty:=ty) (off:=fo) mx (k:=k) (fun a w us v he _ hp=>by
   simp[execOp,ho,he,Instr.field,run_underlying hu,h1,asAgg,h2,h3,hp])
  split at hk;·rename_i cs hx;exact pe.1 cs hx hk
  ·rename_i cs hx;exact pe.2 cs hx hk
  exact hk.elim
 exact hk.elim
def Pb {t:Nat} {x i:Operand} {k:Eff->Prop} (ho:o.op=.indexAddr t x i) (hk:Hi P t (ev x) (ev i) k):∃ e,Al P G o ev (hp H) e/\k e:=by
 have mx:x∈o.op.operands.toList:=by simp[Op.operands,ho]
 have mi:i∈o.op.operands.toList:=by simp[Op.operands,ho]
 unfold Hi at hk;split at hk
 ·rename_i kk iv hi;split at hk
  ·rename_i e te hse;obtain ⟨hu,hte⟩:=AO hse;have run:∀ (w:World) (g off n cap:Nat),0<=iv->iv<n->(Instr.indexAt t (.slice (some ⟨g,off,none⟩) n cap) (.int kk iv)).run P w=.ok (.pointer (some ⟨g,off+iv.toNat*te.size,none⟩)) w:=by
    intro w g off n cap h0 h1;simp[Instr.indexAt,asIntOf,run_underlying hu,h0,h1,run_sizeOf hte,Addr.add_lit]
   split at hk
   ·rename_i b sz off n hx;obtain ⟨e0,c1,c2,c3⟩:=hk;refine ⟨_,Al.val fun h ρ H' a' w hs hops hr=>?_,c3⟩;have e2:=(hi▸hops i mi).int_inv;have hv:=hx▸hops x mx;generalize he:a'.eval x=v at hv;cases hv with
    | lsl0=>simp at c2;omega
    | lsl _ _ _ _ cap g S q1 q2 q3 =>exact ⟨.pointer (some ⟨g,off+iv.toNat*te.size,none⟩),by simp[execOp,ho,he,e2,run w g off n cap c1 c2],by rw[e0];exact .ptr b _ g S q1⟩
   ·rename_i n full cs hx;obtain ⟨c1,c2,c3⟩:=hk;refine ⟨_,Al.val fun h ρ H' a' w hs hops hr=>?_,c3⟩;have e2:=(hi▸hops i mi).int_inv;have hv:=hx▸hops x mx;generalize he:a'.eval x=v at hv;cases hv with
    | d _ _ hd=>cases hd with
      | sl0=>simp at c2;omega
      | sl g off _ cap _ _ vs q1 q2 q3 q4 q5 =>exact ⟨_,by simp[execOp,ho,he,e2,run w g off n cap c1 c2],.rptr g off _ cs vs q3 q4⟩
   exact hk.elim
  split at hk
  ·rename_i n e sz hae;obtain ⟨hu,te,hte,hsz⟩:=E5 hae;subst hsz;obtain ⟨c1,c2,hk⟩:=hk;have run:∀ (w:World) (g off:Nat),(Instr.indexAt t (.pointer (some ⟨g,off,none⟩)) (.int kk iv)).run P w=.ok (.pointer (some ⟨g,off+iv.toNat*te.size,none⟩)) w:=by
    intro w g off;simp[Instr.indexAt,asIntOf,run_underlying hu,c1,c2,run_sizeOf hte,Addr.add_lit,Instr.sureAddr]
   split at hk;·rename_i b off hx;refine ⟨_,Al.val fun h ρ H' a' w hs hops hr=>?_,hk⟩;have e2:=(hi▸hops i mi).int_inv;obtain ⟨g,S,e1,e3⟩:=(hx▸hops x mx).ptr_inv;exact ⟨_,by simp[execOp,ho,e1,e2,run w g off],.ptr b _ g S e3⟩
   ·rename_i off cs hx;refine ⟨_,Al.val fun h ρ H' a' w hs hops hr=>?_,hk⟩;have e2:=(hi▸hops i mi).int_inv;have hv:=hx▸hops x mx;generalize he:a'.eval x=v at hv;cases hv with
    | rptr g base _ _ vs q1 q2 =>exact ⟨.pointer (some ⟨g,base+(off+iv.toNat*te.size),none⟩),by simp[execOp,ho,he,e2,run w g (base+off),Aff],.rptr g base _ cs vs q1 q2⟩
   exact hk.elim
  exact hk.elim
 exact hk.elim
def Yd {t:Nat} {x i:Operand} {k:Eff->Prop} (ho:o.op=.index t x i) (hk:Sr P t (ev x) (ev i) k):∃ e,Al P G o ev (hp H) e/\k e:=by
 have mx:x∈o.op.operands.toList:=by simp[Op.operands,ho]
 have mi:i∈o.op.operands.toList:=by simp[Op.operands,ho]
 unfold Sr at hk;split at hk
 ·rename_i kk iv hi;split at hk
  ·rename_i s hx;obtain ⟨c0,c1,c2,c3⟩:=hk;have hu:=CD c0;refine ⟨_,Al.val fun h ρ H' a' w hs hops hr=>?_,c3⟩;have e2:=(hi▸hops i mi).int_inv;have e1:=(hx▸hops x mx).str_inv;have hlt:iv.toNat<s.size:=(by omega)
   refine ⟨.int .u8 (ID s iv.toNat),?_,.d _ _ (.int _ _)⟩;have hb:s[iv.toNat]?=some s[iv.toNat]:=(by simp[hlt])
   have hq:ID s iv.toNat=((s[iv.toNat]:UInt8).toNat:Int):=by
    unfold ID;have hl:iv.toNat<s.data.toList.length:=(by simpa using hlt)
    rw[Adq,Aa0 hl];rfl
   simp[execOp,ho,e1,e2,Instr.index,asIntOf,run_underlying hu,c1,hb,hq]
  ·rename_i cs hx;split at hk
   ·rename_i n e sz hae;obtain ⟨hu,te,hte,hsz⟩:=E5 hae;subst hsz;obtain ⟨c1,c2,hk⟩:=hk;have pe:=NN (P:=P) (G:=G) (H:=H) (ev:=ev) (ty:=e) (off:=iv.toNat*te.size) mx (k:=k) (fun a w us v he hr hp=>by
     obtain ⟨h,ρ,hri⟩:=hr i mi;have e2:=(hi▸hri).int_inv;simp[execOp,ho,he,e2,Instr.index,asIntOf,run_underlying hu,c1,c2,run_sizeOf hte,hp])
    exact pe.1 cs hx hk
   exact hk.elim
  ·rename_i cs hx;split at hk
   ·rename_i n e sz hae;obtain ⟨hu,te,hte,hsz⟩:=E5 hae;subst hsz;obtain ⟨c1,c2,hk⟩:=hk;have pe:=NN (P:=P) (G:=G) (H:=H) (ev:=ev) (ty:=e) (off:=iv.toNat*te.size) mx (k:=k) (fun a w us v he hr hp=>by
     obtain ⟨h,ρ,hri⟩:=hr i mi;have e2:=(hi▸hri).int_inv;simp[execOp,ho,he,e2,Instr.index,asIntOf,run_underlying hu,c1,c2,run_sizeOf hte,hp])
    exact pe.2 cs hx hk
   exact hk.elim
  exact hk.elim
 exact hk.elim
end
end Go.Abs
namespace Go.Abs
open Go
def bnd (ev:Operand->AV) (dflt:Int):Option Operand->Option Int
 | none=>some dflt
 | some x=>match ev x with
   | .d (.int _ n)=>some n
   | _=>none
def RY (P:Program) (H:List Ae) (ev:Operand->AV) (t:Nat) (x:AV) (lo hi mx:Option Operand) (k:Eff->Prop):Prop :=
 match x with
 | .d (.str s)=>match bnd ev 0 lo,bnd ev s.size hi with
   | some l,some h=>DW P t=true/\mx.isNone=true/\0<=l/\l<=h/\h<=s.size/\k ⟨.d (.str (s.extract l.toNat h.toNat)),[],[]⟩
   | _,_=>False
 | .d (.sl n full cs)=>match Au P t with
   | some (_,te)=>match mx with
     | none=>match bnd ev 0 lo,bnd ev n hi with
       | some l,some h=>0<=l/\l<=h/\h<=n/\k ⟨.d (.sl (h.toNat-l.toNat) (full && hi.isNone) (cut cs (l.toNat*te.size) ((h.toNat-l.toNat)*te.size))),[],[]⟩
       | _,_=>False
     | some m=>match bnd ev 0 lo,bnd ev n hi,bnd ev 0 (some m) with
       | some l,some h,some m=>hi.isSome=true/\0<=l/\l<=h/\h<=m/\m<=n /\
         k ⟨.d (.sl (h.toNat-l.toNat) (decide (h=m)) (cut cs (l.toNat*te.size) ((h.toNat-l.toNat)*te.size))),[],[]⟩
       | _,_,_=>False
   | none=>False
 | .lsl b sz off n=>match Au P t with
   | some (_,te)=>sz=te.size/\match mx with
     | none=>match bnd ev 0 lo,bnd ev n hi with
       | some l,some h=>0<=l/\l<=h/\h<=n/\k ⟨.lsl b sz (off+l.toNat*sz) (h.toNat-l.toNat),[],[]⟩
       | _,_=>False
     | some m=>match H[b]? with
       | some (.row _ cs)=>match bnd ev 0 lo,bnd ev n hi,bnd ev 0 (some m) with
         | some l,some h,some m=>hi.isSome=true/\0<=l/\l<=h/\h<=m/\m<=n /\
           k ⟨.d (.sl (h.toNat-l.toNat) (decide (h=m)) (cut cs (off+l.toNat*sz) ((h.toNat-l.toNat)*sz))),frz H [b],[b]⟩
         | _,_,_=>False
       | _=>False
   | none=>False
 | _=>False
def Lw (P:Program) (t:Nat):Option IntKind :=
 match A5 P t with
 | some ti=>match ti.k with | .int k=>some k | _=>none
 | none=>none
def BA (P:Program) (t:Nat):Bool:=(Au P t).isSome
def Abx (P:Program) (ts:Array TypeId) (x:AV) (k:Eff->Prop):Prop :=
 match ts.toList with
 | [t]=>match x with
   | .d (.str s)=>DW P t=true/\k ⟨.d (.int .i64 s.size),[],[]⟩
   | .d (.sl n _ _)=>BA P t=true/\k ⟨.d (.int .i64 n),[],[]⟩
   | .lsl _ _ _ n=>BA P t=true/\k ⟨.d (.int .i64 n),[],[]⟩
   | .d .esl=>BA P t=true/\k ⟨.d (.int .i64 0),[],[]⟩
   | .d (.val (.slice _ n _))=>BA P t=true/\k ⟨.d (.int .i64 n),[],[]⟩
   | _=>match FR P t with
     | some (n,_,_)=>k ⟨.d (.int .i64 n),[],[]⟩
     | none=>False
 | _=>False
def mmK (greatest:Bool):List AV->(Eff->Prop)->Prop
 | [.d (.int k a),.d (.int _ b)],K=>K ⟨.d (.int k (if greatest then (if b > a then b else a) else (if b<a then b else a))),[],[]⟩
 | [.d (.int k a),.d (.int _ b),.d (.int _ c)],K =>K ⟨.d (.int k (if greatest then (if c > (if b > a then b else a) then c else (if b > a then b else a)) else (if c<(if b<a then b else a) then c else (if b<a then b else a)))),[],[]⟩
 | _,_=>False
section
variable {P:Program} {G:Ah} {o:Oper} {ev:Operand->AV} {H:List Ae}
def V8 {dflt n:Int} {x:Option Operand} {a:Act} {h:Aj} {ρ:Place} (hb:bnd ev dflt x=some n) (hr:∀ y,x=some y->R h ρ (a.eval y) (ev y)) :
  (x=none/\n=dflt)\/∃ y kk,x=some y/\a.eval y=.int kk n:=by
 cases x with
 | none=>simp[bnd] at hb;exact .inl ⟨rfl,hb.symm⟩
 | some y =>
  simp only[bnd] at hb;split at hb;·rename_i kk m hy;cases hb;exact .inr ⟨y,kk,rfl,(hy▸hr y rfl).int_inv⟩
  cases hb
def NA (w:World) (kk:IntKind) (n:Int) (y:Nat) (c:BoundsCode) (h0:0<=n) (h1:n<=y):(Instr.sliceBound (.int kk n) y c).run P w=.ok n.toNat w:=by simp[Instr.sliceBound,asIntOf,h0,h1]
def DU {a:Act} {h:Aj} {ρ:Place} (w:World) (isS:Bool) (len cap:Nat) (lo hi mx:Option Operand) (l hh m:Int)
  (hl:bnd ev 0 lo=some l) (hH:bnd ev len hi=some hh) (hm:bnd ev cap mx=some m) (hlr:∀ y,lo=some y->R h ρ (a.eval y) (ev y)) (hhr:∀ y,hi=some y->R h ρ (a.eval y) (ev y))
  (hmr:∀ y,mx=some y->R h ρ (a.eval y) (ev y)) (c0:0<=l) (c1:l<=hh) (c2:hh<=m) (c3:m<=cap) (c4:mx.isSome=true->hi.isSome=true) :
  (Instr.sliceBounds isS len cap (lo.map a.eval) (hi.map a.eval) (mx.map a.eval)).run P w=.ok (l.toNat,hh.toNat,m.toNat) w:=by
 have b:∀ (kk:IntKind) (n:Int) (y:Nat) (c:BoundsCode),0<=n->n<=y->(Instr.sliceBound (.int kk n) y c).run P w=.ok n.toNat w:=fun kk n y c=>NA w kk n y c;have t1:((m.toNat:Nat):Int)=m:=by omega
 have t2:((hh.toNat:Nat):Int)=hh:=by omega
 rcases V8 hm hmr with ⟨rfl,rfl⟩ | ⟨ym,km,rfl,em⟩<;>rcases V8 hH hhr with ⟨rfl,rfl⟩ | ⟨yh,kh,rfl,eh⟩<;>rcases V8 hl hlr with ⟨rfl,rfl⟩ | ⟨yl,kl,rfl,el⟩<;>first
  | (simp at c4;done)
  | (simp only[Instr.sliceBounds,Adf,AfC,Option.isSome_some,Option.isSome_none,Sem.run_bind,Sem.run_pure,Result.andThen_ok]
     try simp only[em]
     try simp only[eh]
     try simp only[el]
     try rw[b km m cap _ (by omega) (by omega)]
     try simp only[Result.andThen_ok]
     try rw[b kh hh _ _ (by omega) (by omega)]
     try simp only[Result.andThen_ok]
     try rw[b kl l _ _ (by omega) (by omega)]
     simp)
def XF {t:Nat} {x:Operand} {lo hi mx:Option Operand} {k:Eff->Prop} (ho:o.op=.slice t x lo hi mx) (hk:RY P H ev t (ev x) lo hi mx k):∃ e,Al P G o ev (hp H) e/\k e:=by
 have memx:x∈o.op.operands.toList:=by simp[Op.operands,ho]
 have meml:∀ y,lo=some y->y∈o.op.operands.toList:=by rintro y rfl;simp[Op.operands,ho]
 have memh:∀ y,hi=some y->y∈o.op.operands.toList:=by rintro y rfl;simp[Op.operands,ho]
 have memm:∀ y,mx=some y->y∈o.op.operands.toList:=by rintro y rfl;simp[Op.operands,ho]
 have runS:∀ {e:Nat} {te:TI},Au P t=some (e,te)->∀ (a:Act) (w:World) (base:Option Addr) (len cap l h m:Nat),
   (Instr.sliceBounds true len cap (lo.map a.eval) (hi.map a.eval) (mx.map a.eval)).run P w=.ok (l,h,m) w->a.eval x=.slice base len cap ->
   (execOp a.eval o).run P w=.ok (.value (.slice (if m=l then base else base.map (·.add (l*te.size))) (h-l) (m-l))) w:=by
  intro e te hse a w base len cap l h m hb hx;obtain ⟨hu,hte⟩:=AO hse;simp[execOp,ho,hx,Instr.sliceAt,run_underlying hu,Instr.slice,hb,run_sizeOf hte]
 unfold RY at hk;split at hk
 ·rename_i s hx;split at hk
  ·rename_i l h hl hh;obtain ⟨c0,cm,c1,c2,c3,c4⟩:=hk;have hu:=CD c0;have hmx:mx=none:=(by cases mx<;>simp at cm ⊢)
   subst hmx;refine ⟨_,Al.val fun hd ρ H' a w hs hops hr=>⟨.string (s.extract l.toNat h.toNat),?_,.d _ _ (.str _)⟩,c4⟩;have e1:=(hx▸hops x memx).str_inv;have hb:=DU (P:=P) (ev:=ev) (a:=a) w false s.size s.size lo hi none l h s.size hl hh rfl (fun y e=>hops y (meml y e)) (fun y e=>hops y (memh y e)) (fun y e=>by cases e) c1 c2 c3 (by omega) (by simp);simp at hb;simp[execOp,ho,e1,Instr.sliceAt,run_underlying hu,Instr.slice,hb]
  exact hk.elim
 ·rename_i n full cs hx;split at hk
  ·rename_i e te hse
   have fin:∀ (l h m:Int) (fl:Bool),bnd ev 0 lo=some l->bnd ev n hi=some h->(∀ cap:Nat,n<=cap->(full=true->cap=n)->bnd ev cap mx=some m\/(mx=none/\m=n))->0<=l->l<=h->h<=m->m<=n ->
     (mx.isSome=true->hi.isSome=true)->(mx=none->fl=true->full=true/\hi=none)->(mx≠none->fl=true->h=m) ->
     Al P G o ev (hp H) ⟨.d (.sl (h.toNat-l.toNat) fl (cut cs (l.toNat*te.size) ((h.toNat-l.toNat)*te.size))),[],[]⟩:=by
    intro l h m fl hl hh hm c1 c2 c3 c4 c5 c6 c7;refine Al.val fun hd ρ H' a w hs hops hr=>?_;have hv:=hx▸hops x memx;generalize he:a.eval x=v at hv
    have bounds:∀ cap:Nat,n<=cap->(full=true->cap=n)->∃ mm:Int,m<=mm/\(mx=none->mm=cap)/\(mx≠none->mm=m)/\mm<=cap /\
      (Instr.sliceBounds true n cap (lo.map a.eval) (hi.map a.eval) (mx.map a.eval)).run P w=.ok (l.toNat,h.toNat,mm.toNat) w:=by
     intro cap hc hf;cases hmx:mx with
     | none =>subst hmx;exact ⟨cap,by omega,fun _=>rfl,fun e=>absurd rfl e,Ae7 _,DU (P:=P) (ev:=ev) (a:=a) w true n cap lo hi none l h cap hl hh rfl (fun y e=>hops y (meml y e)) (fun y e=>hops y (memh y e)) (fun y e=>by cases e) c1 c2 (by omega) (Ae7 _) (by simp)⟩
     | some y =>
      subst hmx;rcases hm cap hc hf with hm' | ⟨e,_⟩
      ·exact ⟨m,Ae7 _,(fun e=>by cases e),fun _=>rfl,by omega,DU (P:=P) (ev:=ev) (a:=a) w true n cap lo hi (some y) l h m hl hh hm' (fun y e=>hops y (meml y e)) (fun y e=>hops y (memh y e)) (fun y e=>hops y (memm y e)) c1 c2 c3 (by omega) c5⟩
      cases e
    cases hv with
    | d _ _ hd' =>
     cases hd' with
     | sl0 base _ =>
      obtain ⟨mm,d1,d2,d3,d4,d5⟩:=bounds 0 (AeJ _) (fun _=>rfl);have hl0:l.toNat=0:=(by omega)
      have hh0:h.toNat=0:=(by omega);have hm0:mm.toNat=0:=(by omega);refine ⟨_,runS hse a w base 0 0 _ _ _ d5 he,?_⟩;simp only[hl0,hh0,hm0,if_true,Ae6,Afn];have:cut ([]:List D) 0 0=[]:=rfl;rw[this];exact .d _ _ (.sl0 _ _)
     | sl g off _ cap _ _ vs q1 q2 q3 q4 q5 =>
      obtain ⟨mm,d1,d2,d3,d4,d5⟩:=bounds cap q1 q2;refine ⟨_,runS hse a w _ n cap _ _ _ d5 he,?_⟩;have hcut:∀ (i:Nat) y,(cut cs (l.toNat*te.size) ((h.toNat-l.toNat)*te.size))[i]?=some y->cs[l.toNat*te.size+i]?=some y:=fun i y e=>(El e).2;by_cases hml:mm.toNat=l.toNat
      ·have e0:h.toNat-l.toNat=0:=(by omega);have e1:mm.toNat-l.toNat=0:=(by omega);simp only[hml,if_true,e0,Ae6,Afn];have:cut cs (l.toNat*te.size) 0=[]:=by simp[cut]
       rw[this];exact .d _ _ (.sl0 _ _)
      simp only[hml,if_false,Adf,Addr.add_lit];refine .d _ _ (.sl g _ _ _ _ _ (fun i=>vs (l.toNat*te.size+i)) (by omega) (fun hf=>?_) (fun i y e=>by rw[Aff];exact q3 _ y (hcut i y e)) (fun i y e=>q4 _ y (hcut i y e)) (fun i y e=>q5 _ y (hcut i y e)));cases hmx:mx with
      | none =>obtain ⟨f1,f2⟩:=c6 hmx hf;subst f2;simp[bnd] at hh;have:=d2 hmx;have:=q2 f1;omega
      | some y =>have:=c7 (by simp[hmx]) hf;have:=d3 (by simp[hmx]);omega
   split at hk
   ·split at hk;·rename_i l h hl hh;obtain ⟨c1,c2,c3,c4⟩:=hk;exact ⟨_,fin l h n _ hl hh (fun cap _ _=>.inr ⟨rfl,rfl⟩) c1 c2 c3 (Ae7 _) (by simp) (fun _ hf=>by simpa using hf) (fun e=>absurd rfl e),c4⟩
    exact hk.elim
   rename_i m;split at hk;·rename_i l h mv hl hh hm;obtain ⟨c0,c1,c2,c3,c4,c5⟩:=hk;exact ⟨_,fin l h mv _ hl hh (fun cap _ _=>.inl (by simpa[bnd] using hm)) c1 c2 c3 c4 (fun _=>c0) (fun e=>by cases e) (fun _ hf=>by simpa using hf),c5⟩
   exact hk.elim
  exact hk.elim
 ·rename_i b sz off n hx;split at hk
  ·rename_i e te hse;obtain ⟨hsz,hk⟩:=hk;subst hsz;split at hk
   ·split at hk
    ·rename_i l h hl hh;obtain ⟨c1,c2,c3,c4⟩:=hk;refine ⟨_,Al.val fun hd ρ H' a w hs hops hr=>?_,c4⟩;have hv:=hx▸hops x memx;generalize he:a.eval x=v at hv;have bounds:∀ cap:Nat,n<=cap->(Instr.sliceBounds true n cap (lo.map a.eval) (hi.map a.eval) (AfE a.eval none)).run P w=.ok (l.toNat,h.toNat,((cap:Int)).toNat) w:=fun cap hc =>
      DU (P:=P) (ev:=ev) (a:=a) w true n cap lo hi none l h cap hl hh rfl (fun y e=>hops y (meml y e)) (fun y e=>hops y (memh y e)) (fun y e=>by cases e) c1 c2 (by omega) (Ae7 _) (by simp)
     cases hv with
     | lsl0 base =>have hl0:l.toNat=0:=(by omega);have hh0:h.toNat=0:=(by omega);refine ⟨_,runS hse a w base 0 0 _ _ _ (bounds 0 (AeJ _)) he,?_⟩;simp[hl0,hh0];exact .lsl0 _ _ _ _
     | lsl _ _ _ _ cap g S q1 q2 q3 =>
      refine ⟨_,runS hse a w _ n cap _ _ _ (bounds cap q2) he,?_⟩;simp only[Afw];by_cases hml:cap=l.toNat;·have e0:h.toNat-l.toNat=0:=(by omega);have e1:cap-l.toNat=0:=(by omega);simp only[hml,if_true,e0,Ae6];exact .lsl0 _ _ _ _
      simp only[hml,if_false,Adf,Addr.add_lit];refine .lsl b _ _ _ (cap-l.toNat) g S q1 (by omega) ?_;have hle:l.toNat<=cap:=(by omega)
      have:l.toNat*te.size+(cap-l.toNat)*te.size=cap*te.size:=by rw[<-Adp];congr 1;omega
      omega
    exact hk.elim
   rename_i m;split at hk
   ·rename_i fz cs hb;split at hk
    ·rename_i l h mv hl hh hm;obtain ⟨c0,c1,c2,c3,c4,c5⟩:=hk;refine ⟨_,Al.gen fun hd ρ H' a w hs hops hr=>?_,c5⟩;obtain ⟨h1,s1,t1,f1⟩:=B8 H [b] hd H' hs (fun y hy=>.inl (hr y hy));have hv:=hx▸hops x memx;generalize he:a.eval x=v at hv;have bounds:∀ cap:Nat,n<=cap->(Instr.sliceBounds true n cap (lo.map a.eval) (hi.map a.eval) (AfE a.eval (some m))).run P w=.ok (l.toNat,h.toNat,mv.toNat) w:=fun cap hc =>
      DU (P:=P) (ev:=ev) (a:=a) w true n cap lo hi (some m) l h mv hl hh (by simpa[bnd] using hm) (fun y e=>hops y (meml y e)) (fun y e=>hops y (memh y e)) (fun y e=>hops y (memm y e)) c1 c2 c3 (by omega) (fun _=>c0)
     have hfx:=f1 b (by simp) fz cs hb;cases hv with
     | lsl0 base =>
      have hl0:l.toNat=0:=(by omega);have hh0:h.toNat=0:=(by omega);have hm0:mv.toNat=0:=(by omega);refine ⟨_,_,h1,ρ,runS hse a w base 0 0 _ _ _ (bounds 0 (AeJ _)) he,s1,?_,t1⟩;simp only[hl0,hh0,hm0,if_true,Ae6,Afn,Nat.add_zero];have:cut cs off 0=[]:=by simp[cut]
      rw[this];exact .d _ _ (.sl0 _ _)
     | lsl _ _ _ _ cap g S q1 q2 q3 =>
      refine ⟨_,_,h1,ρ,runS hse a w _ n cap _ _ _ (bounds cap q2) he,s1,?_,t1⟩;have hfx':=hfx g S q1;by_cases hml:mv.toNat=l.toNat
      ·have e0:h.toNat-l.toNat=0:=(by omega);simp only[hml,if_true,e0,Ae6,Afn];have:cut cs (off+l.toNat*te.size) 0=[]:=by simp[cut]
       rw[this];exact .d _ _ (.sl0 _ _)
      simp only[hml,if_false,Adf,Addr.add_lit];refine .d _ _ (.sl g _ _ _ _ _ (fun i=>((h1 g (off+l.toNat*te.size+i)).getD undef)) (by omega) (fun hf=>by simp at hf;omega) (fun i y e=>?_) (fun i y e=>?_) (fun i y e=>(hfx' _ y (El e).2).1));·obtain ⟨_,v,e1,e2⟩:=hfx' _ y (El e).2;simp[e1]
      obtain ⟨_,v,e1,e2⟩:=hfx' _ y (El e).2;simpa[e1] using e2
    exact hk.elim
   exact hk.elim
  exact hk.elim
 exact hk.elim
def MT (P:Program) (ev:Operand->AV) (t:Nat) (x:AV) (lo hi mx:Option Operand) (k:Eff->Prop):Prop :=
 match x with
 | .lsl b sz off n=>match Au P t with
   | some (_,te)=>sz=te.size/\match mx with
     | some m=>match bnd ev 0 lo,bnd ev n hi,bnd ev 0 (some m) with
       | some l,some h,some m=>hi.isSome=true/\0<=l/\l<=h/\h<=m/\m<=n/\k ⟨.lsl b sz (off+l.toNat*sz) (h.toNat-l.toNat),[],[]⟩
       | _,_,_=>False
     | none=>False
   | none=>False
 | _=>False
def Vg {t:Nat} {x:Operand} {lo hi mx:Option Operand} {k:Eff->Prop} (ho:o.op=.slice t x lo hi mx) (hk:MT P ev t (ev x) lo hi mx k):∃ e,Al P G o ev (hp H) e/\k e:=by
 have memx:x∈o.op.operands.toList:=by simp[Op.operands,ho]
 have meml:∀ y,lo=some y->y∈o.op.operands.toList:=by rintro y rfl;simp[Op.operands,ho]
 have memh:∀ y,hi=some y->y∈o.op.operands.toList:=by rintro y rfl;simp[Op.operands,ho]
 have memm:∀ y,mx=some y->y∈o.op.operands.toList:=by rintro y rfl;simp[Op.operands,ho]
 have runS:∀ {e:Nat} {te:TI},Au P t=some (e,te)->∀ (a:Act) (w:World) (base:Option Addr) (len cap l h m:Nat),
   (Instr.sliceBounds true len cap (lo.map a.eval) (hi.map a.eval) (mx.map a.eval)).run P w=.ok (l,h,m) w->a.eval x=.slice base len cap ->
   (execOp a.eval o).run P w=.ok (.value (.slice (if m=l then base else base.map (·.add (l*te.size))) (h-l) (m-l))) w:=by
  intro e te hse a w base len cap l h m hb hx;obtain ⟨hu,hte⟩:=AO hse;simp[execOp,ho,hx,Instr.sliceAt,run_underlying hu,Instr.slice,hb,run_sizeOf hte]
 unfold MT at hk;split at hk
 ·rename_i b sz off n hx;split at hk
  ·rename_i e te hse;obtain ⟨hsz,hk⟩:=hk;subst hsz;split at hk
   ·rename_i m;split at hk
    ·rename_i l h mv hl hh hm;obtain ⟨c0,c1,c2,c3,c4,c5⟩:=hk;refine ⟨_,Al.val fun hd ρ H' a w hs hops hr=>?_,c5⟩;have hv:=hx▸hops x memx;generalize he:a.eval x=v at hv;have bounds:∀ cap:Nat,n<=cap->(Instr.sliceBounds true n cap (lo.map a.eval) (hi.map a.eval) (AfE a.eval (some m))).run P w=.ok (l.toNat,h.toNat,mv.toNat) w:=fun cap hc =>
      DU (P:=P) (ev:=ev) (a:=a) w true n cap lo hi (some m) l h mv hl hh (by simpa[bnd] using hm) (fun y e=>hops y (meml y e)) (fun y e=>hops y (memh y e)) (fun y e=>hops y (memm y e)) c1 c2 c3 (by omega) (fun _=>c0)
     cases hv with
     | lsl0 base =>have hl0:l.toNat=0:=(by omega);have hh0:h.toNat=0:=(by omega);have hm0:mv.toNat=0:=(by omega);refine ⟨_,runS hse a w base 0 0 _ _ _ (bounds 0 (AeJ _)) he,?_⟩;simp[hl0,hh0,hm0];exact .lsl0 _ _ _ _
     | lsl _ _ _ _ cap g S q1 q2 q3 =>
      refine ⟨_,runS hse a w _ n cap _ _ _ (bounds cap q2) he,?_⟩;by_cases hml:mv.toNat=l.toNat;·have e0:h.toNat-l.toNat=0:=(by omega);simp only[hml,if_true,e0,Ae6];exact .lsl0 _ _ _ _
      simp only[hml,if_false,Adf,Addr.add_lit];refine .lsl b _ _ _ (mv.toNat-l.toNat) g S q1 (by omega) ?_;have:l.toNat*te.size+(mv.toNat-l.toNat)*te.size=mv.toNat*te.size:=by rw[<-Adp];congr 1;omega
      have:mv.toNat*te.size<=cap*te.size:=Adk _ (by omega);omega
    exact hk.elim
   exact hk.elim
  exact hk.elim
 exact hk.elim
def Ce:List AV->Option (List D)
 | []=>some []
 | .d x::r=>match x.one,Ce r with
   | true,some l=>some (x::l)
   | _,_=>none
 | _::_=>none
def Rx:∀ {cs:List AV} {ds:List D},Ce cs=some ds->cs=ds.map .d/\∀ (i:Nat) x,ds[i]?=some x->x.one=true
 | [],ds,h=>by simp only[Ce,Option.some.injEq] at h;subst h;exact ⟨rfl,by simp⟩
 | .d x::r,ds,h=>by
   rw[Ce] at h;split at h
   ·rename_i l h1 h2;cases h;obtain ⟨e1,e2⟩:=Rx h2;refine ⟨by rw[Afh,<-e1],fun i y hy=>?_⟩;cases i with
    | zero=>simp at hy;rw[<-hy];exact h1
    | succ i=>exact e2 i y (by simpa using hy)
   cases h
 | .lsl _ _ _ _::_,_,h=>by simp[Ce] at h
 | .ptr _ _::_,_,h=>by simp[Ce] at h
 | .rptr _ _::_,_,h=>by simp[Ce] at h
 | .mp _::_,_,h=>by simp[Ce] at h
 | .agg _::_,_,h=>by simp[Ce] at h
 | .tup _::_,_,h=>by simp[Ce] at h
 | .fn _ _ _::_,_,h=>by simp[Ce] at h
 | .undef::_,_,h=>by simp[Ce] at h
def MU (P:Program) (H:List Ae) (ev:Operand->AV) (t b off:Nat) (lo hi mx:Option Operand) (k:Eff->Prop):Prop :=
 match mx with
 | some _=>False
 | none=>match FR P t with
   | some (n,_,sz)=>match bnd ev 0 lo,bnd ev n hi with
     | some l,some h=>0<=l/\l<=h/\h<=n/\match H[b]? with
       | some (.row false cs)=>off+n*sz<=cs.length/\k ⟨.lsl b sz (off+l.toNat*sz) (h.toNat-l.toNat),[],[b]⟩
       | some (.box cs)=>match Ce cs with
         | some ds=>off+n*sz<=ds.length/\k ⟨.lsl b sz (off+l.toNat*sz) (h.toNat-l.toNat),[(b,.row false ds)],[b]⟩
         | none=>False
       | _=>False
     | _,_=>False
   | none=>False
def Vh {t b off:Nat} {x:Operand} {lo hi mx:Option Operand} {k:Eff->Prop} (ho:o.op=.slice t x lo hi mx) (hx:ev x=.ptr b off) (hk:MU P H ev t b off lo hi mx k):∃ e,Al P G o ev (hp H) e/\k e:=by
 have memx:x∈o.op.operands.toList:=by simp[Op.operands,ho]
 have meml:∀ y,lo=some y->y∈o.op.operands.toList:=by rintro y rfl;simp[Op.operands,ho]
 have memh:∀ y,hi=some y->y∈o.op.operands.toList:=by rintro y rfl;simp[Op.operands,ho]
 unfold MU at hk;split at hk;·exact hk.elim
 split at hk
 ·rename_i n e sz hae;obtain ⟨hu,te,hte,hsz⟩:=E5 hae;subst hsz;split at hk
  ·rename_i l h hl hh;obtain ⟨c1,c2,c3,hk⟩:=hk
   have run:∀ (hd:Aj) (ρ:Place) (a:Act) (w:World) (g:Nat),(∀ y,y∈o.op.operands.toList->R hd ρ (a.eval y) (ev y))->a.eval x=.pointer (some ⟨g,off,none⟩) ->
     (execOp a.eval o).run P w=.ok (.value (.slice (some (if n=l.toNat then ⟨g,off,none⟩ else ⟨g,off+l.toNat*te.size,none⟩)) (h.toNat-l.toNat) (n-l.toNat))) w:=by
    intro hd ρ a w g hops he;have hb:=DU (P:=P) (ev:=ev) (a:=a) w false n n lo hi none l h n hl hh rfl (fun y e=>hops y (meml y e)) (fun y e=>hops y (memh y e)) (fun y e=>by cases e) c1 c2 c3 (Ae7 _) (by simp);simp only[AfC,Afw] at hb;have e1:(Instr.sliceBounds false n n (lo.map a.eval) (hi.map a.eval) none).run P w=.ok (l.toNat,h.toNat,n) w:=hb;simp[execOp,ho,he,Instr.sliceAt,run_underlying hu,Instr.sureAddr,e1,run_sizeOf hte,Addr.add_lit]
   have res:∀ (hd:Aj) (ρ:Place) (g S:Nat),ρ b=some (g,S)->off+n*te.size<=S->R hd ρ (.slice (some (if n=l.toNat then ⟨g,off,none⟩ else ⟨g,off+l.toNat*te.size,none⟩)) (h.toNat-l.toNat) (n-l.toNat)) (.lsl b te.size (off+l.toNat*te.size) (h.toNat-l.toNat)):=by
    intro hd ρ g S hρ hS;by_cases hml:n=l.toNat;·have e0:h.toNat-l.toNat=0:=(by omega);have e1:n-l.toNat=0:=(by omega);rw[e0,e1];exact .lsl0 _ _ _ _
    rw[if_neg hml];refine .lsl b _ _ _ (n-l.toNat) g S hρ (by omega) ?_;have hle:l.toNat<=n:=(by omega)
    have:l.toNat*te.size+(n-l.toNat)*te.size=n*te.size:=by rw[<-Adp];congr 1;omega
    omega
   have pt:∀ (hd:Aj) (ρ:Place) (a:Act),(∀ y,y∈o.op.operands.toList->R hd ρ (a.eval y) (ev y))->∃ g S,ρ b=some (g,S)/\a.eval x=.pointer (some ⟨g,off,none⟩):=by
    intro hd ρ a hops;have hv:=hx▸hops x memx;generalize a.eval x=v at hv ⊢;cases hv with
    | ptr _ _ g S hρ=>exact ⟨g,S,hρ,rfl⟩
   split at hk
   ·rename_i cs hb;obtain ⟨c4,hk⟩:=hk;refine ⟨_,Al.val fun hd ρ H' a w hs hops hr=>?_,hk⟩;obtain ⟨g,S,hρ,he⟩:=pt hd ρ a hops;have hB:H' b=some (.row false cs):=(hr b (by simp)).trans hb;have hlen:cs.length<=S:=by
     obtain ⟨_,(⟨q,_⟩ | ⟨g2,S2,c,E,fr,q1,q2,q3,q4,q5,_⟩)⟩:=hs.blk b _ hB;·rw[hρ] at q;cases q
     rw[hρ] at q1;cases q1;exact q5
    exact ⟨_,run hd ρ a w g hops he,res hd ρ g S hρ (by omega)⟩
   ·rename_i cs hb;split at hk
    ·rename_i ds hds;obtain ⟨c4,hk⟩:=hk;obtain ⟨e1,e2⟩:=Rx hds;refine ⟨_,Al.gen fun hd ρ H' a w hs hops hr=>?_,hk⟩;obtain ⟨g,S,hρ,he⟩:=pt hd ρ a hops;have hB:H' b=some (.box cs):=(hr b (by simp)).trans hb;obtain ⟨g2,S2,c,E,fr,q1,q2,q3,q4,q5,q6,q7⟩:=hs.blk b _ hB;rw[hρ] at q1;cases q1;have hlen:ds.length<=S:=(by rw[e1,AfA] at q5;exact q5)
     refine ⟨_,w,hd,ρ,run hd ρ a w g hops he,⟨hs.prom,hs.glob,fun i y hy=>?_,fun i g2 S2 e=>?_,fun i j g2 S2 S3 e3 e4 l1 l2=>?_⟩,res hd ρ g S hρ (by omega),Bg.refl _ _ _⟩
     ·simp only[An] at hy;by_cases hi:i=b
      ·subst hi;rw[if_pos rfl] at hy;cases hy;refine ⟨e2,.inr ⟨g,S,c,E,fr,hρ,q2,q3,q4,hlen,fun j y v hj hv=>?_,(fun e=>by cases e),fun j _=>q7 j⟩⟩;have:=q6 j (.d y) v (by rw[e1,Ada,hj];rfl) hv;cases this with
       | d _ _ r=>exact r
      rw[if_neg hi] at hy;exact hs.blk i y hy
     ·obtain ⟨a1,bb,a2⟩:=hs.dom i g2 S2 e;refine ⟨a1,?_⟩;simp only[An];by_cases hi:i=b;·exact ⟨_,if_pos hi⟩
      exact ⟨bb,by rw[if_neg hi];exact a2⟩
     have lv:∀ i,BP (An H' [(b,.row false ds)]) i->BP H' i:=by
      rintro i ⟨y,hy,hn⟩;simp only[An] at hy;by_cases hi:i=b;·subst hi;exact ⟨_,hB,by intro e;cases e⟩
      rw[if_neg hi] at hy;exact ⟨y,hy,hn⟩
     exact hs.inj i j g2 S2 S3 e3 e4 (lv i l1) (lv j l2)
    exact hk.elim
   exact hk.elim
  exact hk.elim
 exact hk.elim
def WE (_:Program) (_:Operand->AV) (_ _:Nat) (_:List D) (_ _ _:Option Operand) (_:Eff->Prop):Prop:=False
def Vf {t off:Nat} {cs:List D} {x:Operand} {lo hi mx:Option Operand} {k:Eff->Prop} (ho:o.op=.slice t x lo hi mx) (hx:ev x=.rptr off cs) (hk:WE P ev t off cs lo hi mx k):∃ e,Al P G o ev (hp H) e/\k e:=False.elim hk
def MS (m:Bool) (P:Program) (H:List Ae) (ev:Operand->AV) (t:Nat) (x:AV) (lo hi mx:Option Operand) (k:Eff->Prop):Prop :=
 match m with
 | false=>match x with
   | .ptr b off=>MU P H ev t b off lo hi mx k
   | .rptr off cs=>WE P ev t off cs lo hi mx k
   | x=>RY P H ev t x lo hi mx k
 | true=>MT P ev t x lo hi mx k
def Ve {m:Bool} {t:Nat} {x:Operand} {lo hi mx:Option Operand} {k:Eff->Prop} (ho:o.op=.slice t x lo hi mx) (hk:MS m P H ev t (ev x) lo hi mx k):∃ e,Al P G o ev (hp H) e/\k e:=by
 unfold MS at hk;split at hk
 ·split at hk;·rename_i b off hx;exact Vh ho hx hk
  ·rename_i off cs hx;exact Vf ho hx hk
  exact XF ho hk
 exact Vg ho hk
end
end Go.Abs
