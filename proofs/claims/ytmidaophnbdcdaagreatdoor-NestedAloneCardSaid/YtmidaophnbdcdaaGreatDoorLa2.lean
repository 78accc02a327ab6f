/-
  The abstract machine, part 13: conversions, lengths, greatest and least numbers.
-/
import Derived.Test.YtmidaophnbdcdaaGreatDoorLa1
import Derived.MapKept
import Derived.ChangeKeysEq
import Derived.Laws.IdiomStrings
import Derived.Laws.Cover3
import Derived.Laws.Cover4
import Derived.Laws.BytesArg
set_option linter.all false
open List renaming getElem?_eq_some_iff→AcB,getElem?_eq_getElem→AdT,getD_eq_getElem?_getD→AdV,getElem?_map→AdW,mem_of_getElem?→AdZ,range→Ad1,all_eq_true→Ae1,mem_map_of_mem→Ae2,getElem?_eq_none→Afs,getElem?_append_left→Afv,getElem?_zip_eq_some→Afw,map_eq_cons_iff→AfI,map_cons→AfN,getElem?_set→AfO,getElem?_append→AfQ,getElem?_eq_none_iff→AfR,mem_map→AfS,mem_cons→AfW,mem_append_left→AfX,eq_nil_of_length_eq_zero→AfY,nodup_cons→Af0,mem_filter→Af1,getElem_of_mem→Af2,zip_cons_cons→Af3,mem_range→Af4,all_cons→Af6,find?_range_eq_some→Af7,mem_append→Aga,mem_append_right→Age,mem_cons_of_mem→Agf,map_eq_nil_iff→Agg,getElem?_range→Agh,getElem?_take→Agi,mem_singleton→Agj,find?_eq_none→Agk,countP_append→Agl,map_nil→Agm,ext_getElem?→Agn,map_toArray→Agq,ext_getElem→Agr
open Array renaming getElem?_eq_getElem→AdU,toArray_toList→Ad0,getD_eq_getD_getElem?→AfP,all_eq_true_iff_forall_mem→AfT,getElem?_setIfInBounds_ne→AfU,getElem?_push_lt→Af8,getElem?_extract→Af9,replicate→Agc,getElem?_modify→Agd,toList_push→Ago
open Bool renaming false_eq_true→AdX,and_eq_true→AdY,or_eq_true→Agb,not_eq_true'→Agp,true_and→Agv
open Option renaming isSome_iff_exists→Ae3,getD_some→AfV,map_some→AfZ
open Nat renaming zero_add→AfJ,le_refl→Af5,strongRecOn→Ags,testBit_or→Agt,add_assoc→Agu,add_comm→Agw,add_zero→Agx,mul_one→Agy
namespace Go.Abs
open Go
theorem Di {P:Program} {t:Nat} {kk:IntKind} (h:D0 P t=some kk):P.underlying t=some (.int kk):=by
 unfold D0 at h
 split at h
 ·rename_i ti ht
  obtain ⟨i,u,z,h1,h2,h3,h4,_⟩:=AG ht
  split at h
  ·rename_i k' hk
   cases h
   rw[hk] at h4
   cases u<;>simp[GO] at h4
   subst h4
   exact h2
  ·cases h
 ·cases h
section
variable {P:Program} {G:Ad} {o:Oper} {ev:Operand→AV} {H:List Aa}
theorem Zb {ts:Array TypeId} {x:Operand} {k:Eff→Prop} (ho:o.op=.call {callee:=.builtin .len,args:=#[x],argTypes:=ts})
  (hk:Zc P ts (ev x) k):∃ e,Ah P G o ev (hp H) e∧k e:=by
 have mx:x∈o.op.operands.toList:=by simp[Op.operands,Call.operands,ho]
 unfold Zc at hk
 split at hk
 ·rename_i t hts
  have hts':ts=#[t]:=by rw[←Ad0 (xs:=ts),hts]
  subst hts'
  have exec:∀ (a:Act) (w w':World) (v:Value),(Builtin.len_ #[t] o.type #[a.eval x]).run P w=.ok v w'→(execOp a.eval o).run P w=.ok (.value v) w':=by
   intro a w w' v hr
   simp only[execOp,ho,resolve,invoke,builtin,Sem.run_bind,Sem.run_pure,Result.andThen_ok,Agq,AfN,Agm,hr]
  have slc:A0 P t=true→∀ (w:World) (base:Option Addr) (n cap:Nat),(Builtin.len_ #[t] o.type #[.slice base n cap]).run P w=.ok (.int .i64 n) w:=by
   intro hs w base n cap
   obtain ⟨⟨e,te⟩,hse⟩:=Ae3.1 hs
   obtain ⟨hu,hte⟩:=Ay hse
   simp[Builtin.len_,run_underlying hu,goInt]
  split at hk
  ·rename_i s hx
   have hu:=B9 hk.1
   refine ⟨_,Ah.val fun h ρ H' a w hs hops hr=>⟨.int .i64 s.size,?_,.d _ _ (.int _ _)⟩,hk.2⟩
   refine exec a w w _ ?_
   have e1:=(hx▸hops x mx).str_inv
   rw[e1]
   simp[Builtin.len_,run_underlying hu,goInt]
  ·rename_i n full cs hx
   refine ⟨_,Ah.val fun h ρ H' a w hs hops hr=>?_,hk.2⟩
   have hv:=hx▸hops x mx
   generalize he:a.eval x=v at hv
   cases hv with
   | d _ _ hd=>cases hd with
     | sl0 base=>exact ⟨.int .i64 ((0:Nat):Int),exec a w w _ (by have:=slc hk.1 w base 0 0;rw[he];exact this),.d _ _ (.int _ _)⟩
     | sl g off _ cap=>exact ⟨.int .i64 (n:Int),exec a w w _ (by have:=slc hk.1 w (some ⟨g,off,none⟩) n cap;rw[he];exact this),.d _ _ (.int _ _)⟩
  ·rename_i b sz off n hx
   refine ⟨_,Ah.val fun h ρ H' a w hs hops hr=>?_,hk.2⟩
   have hv:=hx▸hops x mx
   generalize he:a.eval x=v at hv
   cases hv with
   | lsl0 base=>exact ⟨.int .i64 ((0:Nat):Int),exec a w w _ (by have:=slc hk.1 w base 0 0;rw[he];exact this),.d _ _ (.int _ _)⟩
   | lsl _ _ _ _ cap g=>exact ⟨.int .i64 (n:Int),exec a w w _ (by have:=slc hk.1 w (some ⟨g,off,none⟩) n cap;rw[he];exact this),.d _ _ (.int _ _)⟩
  ·rename_i hx
   refine ⟨_,Ah.val fun h ρ H' a w hs hops hr=>?_,hk.2⟩
   have hv:=hx▸hops x mx
   generalize he:a.eval x=v at hv
   cases hv with
   | d _ _ hd=>cases hd with
     | esl a0=>exact ⟨.int .i64 ((0:Nat):Int),exec a w w _ (by have:=slc hk.1 w (some a0) 0 0;rw[he];exact this),.d _ _ (.int _ _)⟩
  ·rename_i base n cap hx
   refine ⟨_,Ah.val fun h ρ H' a w hs hops hr=>?_,hk.2⟩
   have hv:=hx▸hops x mx
   generalize he:a.eval x=v at hv
   cases hv with
   | d _ _ hd=>cases hd with
     | val=>exact ⟨.int .i64 (n:Int),exec a w w _ (by have:=slc hk.1 w base n cap;rw[he];exact this),.d _ _ (.int _ _)⟩
  ·split at hk
   ·rename_i n e sz hae
    obtain ⟨hu,te,hte,hsz⟩:=Dk hae
    refine ⟨_,Ah.val fun h ρ H' a w hs hops hr=>⟨.int .i64 (n:Int),?_,.d _ _ (.int _ _)⟩,hk⟩
    refine exec a w w _ ?_
    simp[Builtin.len_,run_underlying hu,goInt]
   ·exact hk.elim
 ·exact hk.elim
theorem Wz {greatest:Bool} {xs:Array Operand} {ts:Array TypeId} {k:Eff→Prop} (ho:o.op=.call {callee:=.builtin (if greatest then .max else .min),args:=xs,argTypes:=ts})
  (hk:mmK greatest (xs.toList.map ev) k):∃ e,Ah P G o ev (hp H) e∧k e:=by
 have mem:∀ x,x∈xs.toList→x∈o.op.operands.toList:=by intro x hx;cases greatest<;>simpa[Op.operands,Call.operands,ho] using hx
 have exec:∀ (a:Act) (w w':World) (v:Value),(if greatest then Builtin.max_ ts o.type (xs.map a.eval) else Builtin.min_ ts o.type (xs.map a.eval)).run P w=.ok v w'→(execOp a.eval o).run P w=.ok (.value v) w':=by
  intro a w w' v hr
  cases greatest<;>simp only[if_true,if_false,AdX] at hr ho <;>
  simp only[execOp,ho,resolve,invoke,builtin,Sem.run_bind,Sem.run_pure,Result.andThen_ok,hr]
 unfold mmK at hk
 split at hk
 ·rename_i kk a0 kb b0 hl
  obtain ⟨x,r1,hxs,ea,hr1⟩:=AfI.1 hl
  obtain ⟨y,r2,hxs2,eb,hr2⟩:=AfI.1 hr1
  have hr2:=Agg.1 hr2
  subst hr2;subst hxs2
  have hxa:xs=#[x,y]:=by rw[←Ad0 (xs:=xs),hxs]
  refine ⟨_,Ah.val fun h ρ H' a w hs hops hr=>⟨_,exec a w w _ ?_,.d _ _ (.int _ _)⟩,hk⟩
  have e1:=(ea▸hops x (mem x (by simp[hxs]))).int_inv
  have e2:=(eb▸hops y (mem y (by simp[hxs]))).int_inv
  subst hxa
  cases greatest<;>simp[Builtin.max_,Builtin.min_,e1,e2,Builtin.max2,Builtin.min2]
 ·rename_i kk a0 kb b0 kc c0 hl
  obtain ⟨x,r1,hxs,ea,hr1⟩:=AfI.1 hl
  obtain ⟨y,r2,hxs2,eb,hr2⟩:=AfI.1 hr1
  obtain ⟨z,r3,hxs3,ec,hr3⟩:=AfI.1 hr2
  have hr3:=Agg.1 hr3
  subst hr3;subst hxs3;subst hxs2
  have hxa:xs=#[x,y,z]:=by rw[←Ad0 (xs:=xs),hxs]
  refine ⟨_,Ah.val fun h ρ H' a w hs hops hr=>⟨_,exec a w w _ ?_,.d _ _ (.int _ _)⟩,hk⟩
  have e1:=(ea▸hops x (mem x (by simp[hxs]))).int_inv
  have e2:=(eb▸hops y (mem y (by simp[hxs]))).int_inv
  have e3:=(ec▸hops z (mem z (by simp[hxs]))).int_inv
  subst hxa
  cases greatest<;>simp[Builtin.max_,Builtin.min_,e1,e2,e3,Builtin.max2,Builtin.min2]
 ·exact hk.elim
end
def Cm (k:IntKind):D→Bool
 | .int k' _=>decide (k=k')
 | _=>false
def Eu (P:Program) (e:Nat):Option IntKind :=
 match Al P e with
 | some te=>match te.k with
   | .int k=>if te.size=1 then some k else none
   | _=>none
 | none=>none
def IOa (P:Program):TK→D→Bool
 | .int k,.int k' _=>decide (k=k')
 | .string,.str _=>true
 | .bool,.bool _=>true
 | .array n e,.agg l=>l.length == n && (match Eu P e with | some k=>l.all (Cm k) | none=>false)
 | _,_=>false
def isKeyD (P:Program) (kt:Nat) (d:D):Bool :=
 match Al P kt with
 | some ti=>IOa P ti.k d
 | none=>false
def HN:List D→List D→Bool
 | [],[]=>true
 | .int _ a::l,.int _ b::m=>a == b && HN l m
 | _,_=>false
def Ce:D→D→Bool
 | .int _ a,.int _ b=>a == b
 | .str a,.str b=>a == b
 | .bool a,.bool b=>a == b
 | .agg l,.agg m=>HN l m
 | _,_=>false
def BE {β:Type} (k:D):List (D × β)→Option (Nat × β)
 | []=>none
 | x::r=>if Ce k x.1 then some (0,x.2) else (BE k r).map fun y=>(y.1+1,y.2)
def BH {β:Type} (l:List (D × β)) (k:D) (d:β):List (D × β) :=
 match BE k l with
 | some (i,_)=>l.set i (k,d)
 | none=>l++[(k,d)]
def Do {β:Type} (P:Program) (kt:Nat) (l:List (D × β)):Bool:=l.all fun e=>isKeyD P kt e.1
def Gf (P:Program) (t:Nat):Option D :=
 match P.info? t with
 | some i=>match i.zero with
   | some (.agg cs)=>match DB cs.toList with
     | some l=>some (.agg l)
     | none=>none
   | some v=>Oa v
   | none=>none
 | none=>none
def C4 (z:D) (l:List (D × D)) (k:D) (ok:Bool):D :=
 match BE k l with
 | some (_,d)=>if ok then .tup [d,.bool true] else d
 | none=>if ok then .tup [z,.bool false] else z
def FI (z:D) (l:List (D × AV)) (k:D) (ok:Bool):AV :=
 match BE k l with
 | some (_,v)=>if ok then .tup [v,.d (.bool true)] else v
 | none=>if ok then .tup [.d z,.d (.bool false)] else .d z
section
variable {P:Program} {h:Ag} {w:World}
theorem Q8 {k:IntKind} {x:D} {v:Value} (e:Cm k x=true) (r:RD h v x):∃ n,x=.int k n∧v=.int k n:=by
 unfold Cm at e
 split at e
 ·rename_i k' n
  simp at e;subst e
  cases r
  exact ⟨n,rfl,rfl⟩
 ·cases e
theorem FD {e:Nat} {k:IntKind} (hu:P.underlying e=some (.int k)):P.plainKey e=true:=by simp[Program.plainKey,hu]
theorem Jw {e:Nat} {k:IntKind} (hi:Eu P e=some k):P.underlying e=some (.int k)∧P.cellsOf e=1∧∃ i,P.info? e=some i:=by
 unfold Eu at hi
 split at hi
 ·rename_i te ht
  obtain ⟨i,u,z,h1,h2,h3,h4,h5,h6,h7⟩:=AG ht
  split at hi
  ·rename_i k' hk
   split at hi
   ·rename_i hs
    cases hi
    rw[hk] at h4
    cases u<;>simp[GO] at h4
    subst h4
    exact ⟨h2,by simp[Program.cellsOf,h1,h5,hs],i,h1⟩
   ·cases hi
  ·cases hi
 ·cases hi
theorem J3 {kt:Nat} {d:D} (e:isKeyD P kt d=true):∃ ti u i,Al P kt=some ti∧P.info? kt=some i∧P.underlying kt=some u∧GO P u=ti.k∧IOa P ti.k d=true:=by
 unfold isKeyD at e
 split at e
 ·rename_i ti ht
  obtain ⟨i,u,z,h1,h2,h3,h4,_⟩:=AG ht
  exact ⟨ti,u,i,ht,h1,h2,h4,e⟩
 ·cases e
theorem Ek {kt:Nat} {d:D} {v:Value} (e:isKeyD P kt d=true) (r:RD h v d) :
  (∃ k n,P.underlying kt=some (.int k)∧d=.int k n∧v=.int k n)∨(∃ s,P.underlying kt=some .string∧d=.str s∧v=.string s)∨(∃ b,P.underlying kt=some .bool∧d=.bool b∧v=.bool b) ∨
  ∃ n el k l,∃ ns:List Int,P.underlying kt=some (.array n el)∧Eu P el=some k∧d=.agg l∧l=ns.map (D.int k)∧ns.length=n∧v=.agg (ns.map (Value.int k)).toArray:=by
 obtain ⟨ti,u,i,ht,hi,hu,ha,hk⟩:=J3 e
 rw[←ha] at hk
 cases u<;>cases d<;>simp only[GO,IOa,AdX] at hk
 ·cases r;exact .inr (.inr (.inl ⟨_,hu,rfl,rfl⟩))
 ·rename_i k k' n
  simp at hk;subst hk
  cases r
  exact .inl ⟨_,_,hu,rfl,rfl⟩
 ·cases r;exact .inr (.inl ⟨_,hu,rfl,rfl⟩)
 ·rename_i n el l
  simp only[AdY,beq_iff_eq] at hk
  obtain ⟨hl,hk⟩:=hk
  split at hk
  ·rename_i k hik
   cases r with
   | agg vs _ hs hr =>
    refine .inr (.inr (.inr ?_))
    have key:∀ (l:List D) (vl:List Value),vl.length=l.length→l.all (Cm k)=true→(∀ (i:Nat) v x,vl[i]?=some v→l[i]?=some x→RD h v x)→∃ ns:List Int,l=ns.map (D.int k)∧vl=ns.map (Value.int k):=by
     intro l
     induction l with
     | nil=>intro vl h1 _ _;exact ⟨[],rfl,by simpa using h1⟩
     | cons x l ih =>
      intro vl h1 h2 h3
      cases vl with
      | nil=>simp at h1
      | cons v vl =>
       simp only[Af6,AdY] at h2
       obtain ⟨n,e1,e2⟩:=Q8 h2.1 (h3 0 v x rfl rfl)
       obtain ⟨ns,e3,e4⟩:=ih vl (by simpa using h1) h2.2 (fun i v x hv hx=>h3 (i+1) v x (by simpa using hv) (by simpa using hx))
       exact ⟨n::ns,by simp[e1,e3],by simp[e2,e4]⟩
    obtain ⟨ns,e1,e2⟩:=key l vs.toList (by simpa using hs) hk (fun i v x hv hx=>hr i v x (by simpa using hv) hx)
    refine ⟨n,el,k,l,ns,hu,hik,rfl,e1,?_,?_⟩
    ·have:=congrArg List.length e1;simp at this;omega
    ·rw[←e2]
  ·cases hk
theorem Md (a b:ByteArray):(a == b)=decide (a=b):=by
 by_cases e:a=b
 ·rw[decide_eq_true e];exact (MapKept.bytes_beq a b).2 e
 ·rw[decide_eq_false e]
  cases h:(a == b)
  ·rfl
  ·exact absurd ((MapKept.bytes_beq a b).1 h) e
theorem Gx {k k':IntKind}:∀ (l m:List Int),HN (l.map (D.int k)) (m.map (D.int k'))=decide (l=m)
 | [],[]=>by simp[HN]
 | [],b::m=>by simp[HN]
 | a::l,[]=>by simp[HN]
 | a::l,b::m=>by
   simp only[AfN,HN,Gx l m,List.cons.injEq]
   by_cases h1:a=b<;>by_cases h2:l=m<;>simp[h1,h2]
theorem MX {el:Nat} {k:IntKind} (hi:Eu P el=some k) (dd:Nat) (xs ys:List Int):∀ (is:List Nat),(∀ i∈is,i<xs.length∧i<ys.length) →
  (Op.eqItems (dd+1) el (P.cellsOf el) (xs.map (Value.int k)).toArray (ys.map (Value.int k)).toArray is).run P w=.ok (is.all fun i=>xs.getD i 0 == ys.getD i 0) w
 | [],_=>by simp[Op.eqItems]
 | i::is,hb=>by
   obtain ⟨hu,hc,_⟩:=Jw hi
   obtain ⟨b1,b2⟩:=hb i (by simp)
   have p1:=run_part_plain (P:=P) w (FD hu) (xs:=(xs.map (Value.int k)).toArray) (off:=i) (v:=.int k (xs.getD i 0)) (by simp[AdV,AdT b1])
   have p2:=run_part_plain (P:=P) w (FD hu) (xs:=(ys.map (Value.int k)).toArray) (off:=i) (v:=.int k (ys.getD i 0)) (by simp[AdV,AdT b2])
   have ih:=MX hi dd xs ys is (fun j hj=>hb j (by simp[hj]))
   have pe:(Op.equalIn (dd+1) el (.int k (xs.getD i 0)) (.int k (ys.getD i 0))).run P w=.ok (xs.getD i 0 == ys.getD i 0) w:=by
    simp[Op.equalIn,run_underlying hu]
   simp only[hc] at ih ⊢
   simp only[Op.eqItems,Agy,Sem.run_bind,p1,p2,Result.andThen_ok,pe,Af6]
   cases hq:(xs.getD i 0 == ys.getD i 0)
   ·simp
   ·simpa using ih
theorem Vr {xs ys:List Int} (hl:xs.length=ys.length):((Ad1 xs.length).all fun i=>xs.getD i 0 == ys.getD i 0)=decide (xs=ys):=by
 by_cases e:xs=ys
 ·subst e;simp
 ·rw[decide_eq_false e]
  cases h:((Ad1 xs.length).all fun i=>xs.getD i 0 == ys.getD i 0)
  ·rfl
  ·refine absurd (Agr hl fun i h1 h2=>?_) e
   have:=Ae1.1 h i (by simpa using h1)
   simpa[AdV,AdT h1,AdT h2] using this
theorem SM {kt:Nat} {x y:Value} {r:Result Bool} (hh:∀ d,(Op.equalIn (d+1) kt x y).run P w=r):(Op.equal kt x y).run P w=r:=hh 9999
theorem MW {kt:Nat} {a b:D} {va vb:Value} (ha:isKeyD P kt a=true) (hb:isKeyD P kt b=true) (ra:RD h va a) (rb:RD h vb b) :
  (Op.equal kt va vb).run P w=.ok (Ce a b) w∧(Ce a b=true↔va=vb):=by
 rcases Ek ha ra with ⟨k,n,hu,rfl,rfl⟩ | ⟨s,hu,rfl,rfl⟩ | ⟨c,hu,rfl,rfl⟩ | ⟨n,el,k,l,ns,hu,hi,rfl,rfl,hn,rfl⟩ <;>
 rcases Ek hb rb with ⟨k',n',hu',rfl,rfl⟩ | ⟨s',hu',rfl,rfl⟩ | ⟨c',hu',rfl,rfl⟩ | ⟨n',el',k',l',ns',hu',hi',rfl,rfl,hn',rfl⟩ <;>
 rw[hu] at hu'<;>try cases hu'
 ·exact ⟨SM fun d=>by simp[Op.equalIn,run_underlying hu,Ce],by simp[Ce]⟩
 ·exact ⟨SM fun d=>by simp[Op.equalIn,run_underlying hu,Ce],by simp[Ce,Md]⟩
 ·exact ⟨SM fun d=>by simp[Op.equalIn,run_underlying hu,Ce],by simp[Ce]⟩
 ·rw[hi] at hi';cases hi'
  obtain ⟨hue,hc,i,hinf⟩:=Jw hi
  have hlen:ns.length=ns'.length:=by omega
  have h1:=run_equalIn_array (P:=P) (w:=w) 9999 (ns.map (Value.int k)).toArray (ns'.map (Value.int k)).toArray hu hinf
  have h2:=MX (P:=P) (w:=w) hi 9998 ns ns' (Ad1 n) (fun i hi=>by simp at hi;omega)
  rw[←hn,Vr hlen] at h2
  refine ⟨?_,?_⟩
  ·have h3:(Op.equal kt (.agg (ns.map (Value.int k)).toArray) (.agg (ns'.map (Value.int k)).toArray)).run P w=_:=h1
   rw[h3,←hn,h2,Ce,Gx]
  ·rw[Ce,Gx]
   simp only[decide_eq_true_eq,Value.agg.injEq]
   constructor
   ·intro e;rw[e]
   ·intro e
    have e2:ns.map (Value.int k)=ns'.map (Value.int k):=by simpa using congrArg Array.toList e
    exact List.map_inj_right (fun a b hab=>by cases hab;rfl) |>.1 e2
theorem JU {β:Type} {kt:Nat} {kd:D} {kv:Value} (hk:isKeyD P kt kd=true) (rk:RD h kv kd):∀ (es:List MapEntry) (l:List (D × β)) (i:Nat),es.length=l.length →
  (∀ (j:Nat) e p,es[j]?=some e→l[j]?=some p→RD h e.key p.1)→Do P kt l=true →
  match BE kd l with
  | none=>(Instr.findAsking kt kv es i).run P w=.ok none w
  | some (j,_)=>∃ e,es[j]?=some e∧j<l.length∧(Instr.findAsking kt kv es i).run P w=.ok (some (i+j,e.val)) w∧e.key=kv
 | [],[],i,_,_,_=>by simp[BE,Instr.findAsking]
 | [],_::_,_,hl,_,_=>by simp at hl
 | _::_,[],_,hl,_,_=>by simp at hl
 | e::es,p::l,i,hl,hr,hok=>by
   simp only[Do,Af6,AdY] at hok
   have r1:=hr 0 e p rfl rfl
   obtain ⟨q1,q2⟩:=MW (w:=w) hk hok.1 rk r1
   simp only[BE]
   cases hq:Ce kd p.1
   ·have ih:=JU hk rk es l (i+1) (by simpa using hl) (fun j e' p' a b=>hr (j+1) e' p' (by simpa using a) (by simpa using b)) hok.2
    rw[hq] at q1
    simp only[AdX,if_false]
    cases hf:BE kd l with
    | none =>
     simp only[hf] at ih
     simp[Instr.findAsking,q1,ih]
    | some y =>
     obtain ⟨j,d⟩:=y
     simp only[hf] at ih
     obtain ⟨e',h1,h2,h3,h4⟩:=ih
     simp only[AfZ]
     exact ⟨e',by simpa using h1,by simp;omega,by simp[Instr.findAsking,q1,h3,Agu,Agw 1 j],h4⟩
   ·rw[hq] at q1
    exact ⟨e,rfl,by simp,by simp[Instr.findAsking,q1],((q2.1 hq)).symm⟩
theorem Se {kt:Nat} {u:TypeDesc} (hu:P.underlying kt=some u) {a b:D} {va vb:Value} (ha:isKeyD P kt a=true) (hb:isKeyD P kt b=true) (ra:RD h va a) (rb:RD h vb b) :
  Instr.sameNow u va vb=some (Ce a b)∨∃ n e,u=.array n e:=by
 rcases Ek ha ra with ⟨k,n,hu,rfl,rfl⟩ | ⟨s,hu,rfl,rfl⟩ | ⟨c,hu,rfl,rfl⟩ | ⟨n,el,k,l,ns,hu,hi,rfl,rfl,hn,rfl⟩ <;>
 rcases Ek hb rb with ⟨k',n',hu',rfl,rfl⟩ | ⟨s',hu',rfl,rfl⟩ | ⟨c',hu',rfl,rfl⟩ | ⟨n',el',k',l',ns',hu',hi',rfl,rfl,hn',rfl⟩ <;>
 rw[hu] at hu'<;>try cases hu'
 all_goals (rename_i hu0;rw[hu] at hu0;cases hu0)
 ·left;simp[Instr.sameNow,Ce]
 ·left;simp[Instr.sameNow,Ce]
 ·left;simp[Instr.sameNow,Ce]
 ·right;exact ⟨_,_,rfl⟩
theorem JT {β:Type} {kt:Nat} {u:TypeDesc} (hu:P.underlying kt=some u) (hna:∀ n e,u≠.array n e) {kd:D} {kv:Value} (hk:isKeyD P kt kd=true) (rk:RD h kv kd):∀ (es:List MapEntry) (l:List (D × β)) (i:Nat),es.length=l.length →
  (∀ (j:Nat) e p,es[j]?=some e→l[j]?=some p→RD h e.key p.1)→Do P kt l=true →
  match BE kd l with
  | none=>Instr.findNow u kv es i=some none
  | some (j,_)=>∃ e,es[j]?=some e∧j<l.length∧Instr.findNow u kv es i=some (some (i+j,e.val))∧e.key=kv
 | [],[],i,_,_,_=>by simp[BE,Instr.findNow]
 | [],_::_,_,hl,_,_=>by simp at hl
 | _::_,[],_,hl,_,_=>by simp at hl
 | e::es,p::l,i,hl,hr,hok=>by
   simp only[Do,Af6,AdY] at hok
   have r1:=hr 0 e p rfl rfl
   have q2:=(MW (P:=P) (w:=default) hk hok.1 rk r1).2
   rcases Se hu hk hok.1 rk r1 with q1 | ⟨n,e',rfl⟩
   ·simp only[BE]
    cases hq:Ce kd p.1
    ·have ih:=JT hu hna hk rk es l (i+1) (by simpa using hl) (fun j e' p' a b=>hr (j+1) e' p' (by simpa using a) (by simpa using b)) hok.2
     rw[hq] at q1
     simp only[AdX,if_false]
     cases hf:BE kd l with
     | none =>
      simp only[hf] at ih
      simp[Instr.findNow,q1,ih]
     | some y =>
      obtain ⟨j,d⟩:=y
      simp only[hf] at ih
      obtain ⟨e',h1,h2,h3,h4⟩:=ih
      simp only[AfZ]
      exact ⟨e',by simpa using h1,by simp;omega,by simp[Instr.findNow,q1,h3,Agu,Agw 1 j],h4⟩
    ·rw[hq] at q1
     exact ⟨e,rfl,by simp,by simp[Instr.findNow,q1],(q2.1 hq).symm⟩
   ·exact absurd rfl (hna n e')
theorem FZ.keys {h:Ag} {es:Array MapEntry} {l:List (D × D)} (m:FZ h es l):es.size=l.length∧∀ (i:Nat) e p,es[i]?=some e→l[i]?=some p→RD h e.key p.1:=⟨m.1,fun i e p a b=>(m.2 i e p a b).1⟩
theorem EZ.keys {h:Ag} {ρ:Place} {es:Array MapEntry} {l:List (D × AV)} (m:EZ h ρ es l):es.size=l.length∧∀ (i:Nat) e p,es[i]?=some e→l[i]?=some p→RD h e.key p.1:=⟨m.1,fun i e p a b=>(m.2 i e p a b).1⟩
theorem IB {kt:Nat} {kd:D} {kv:Value} (hk:isKeyD P kt kd=true) (rk:RD h kv kd) {es:Array MapEntry} {β:Type} {l:List (D × β)} (hm:es.size=l.length∧∀ (i:Nat) e p,es[i]?=some e→l[i]?=some p→RD h e.key p.1) (hok:Do P kt l=true) :
  match BE kd l with
  | none=>(Instr.findKey kt kv es.toList).run P w=.ok none w
  | some (j,d)=>∃ e,es[j]?=some e∧l[j]?=some (((l[j]?).map (·.1)).getD kd,d)∧(Instr.findKey kt kv es.toList).run P w=.ok (some (j,e.val)) w∧e.key=kv:=by
 obtain ⟨ti,u,i,ht,hi,hu,ha,hkk⟩:=J3 hk
 have hl:es.toList.length=l.length:=by simpa using hm.1
 have hr:∀ (j:Nat) e p,es.toList[j]?=some e→l[j]?=some p→RD h e.key p.1:=fun j e p a b=>hm.2 j e p (by simpa using a) b
 have snd:∀ (l:List (D × β)) j d,BE kd l=some (j,d)→∃ k',l[j]?=some (k',d):=by
  intro l
  induction l with
  | nil=>intro j d h;simp[BE] at h
  | cons x r ih =>
   intro j d h
   simp only[BE] at h
   split at h
   ·cases h;exact ⟨x.1,rfl⟩
   ·cases hf:BE kd r with
    | none=>simp[hf] at h
    | some y =>
     simp[hf] at h
     obtain ⟨rfl,rfl⟩:=h
     obtain ⟨k',hk'⟩:=ih _ _ hf
     exact ⟨k',by simpa using hk'⟩
 have arr:(∃ n e,u=.array n e)∨∀ n e,u≠.array n e:=by
  cases u<;>first | exact .inl ⟨_,_,rfl⟩ | exact .inr (fun _ _ h=>by cases h)
 rcases arr with ⟨n,e,rfl⟩ | hna
 ·have f1:=JU (w:=w) hk rk es.toList l 0 hl hr hok
  have f2:Instr.findKey kt kv es.toList=(do match Instr.findNow (←underlying kt) kv es.toList 0 with | some r=>pure r | none=>Instr.findAsking kt kv es.toList):=rfl
  have f3:(Instr.findKey kt kv es.toList).run P w=(Instr.findAsking kt kv es.toList 0).run P w:=by
   rw[f2]
   simp only[Sem.run_bind,run_underlying hu,Result.andThen_ok]
   cases he:es.toList with
   | nil=>simp[Instr.findNow,Instr.findAsking]
   | cons x r =>
    have:Instr.findNow (.array n e) kv (x::r) 0=none:=by
     simp only[Instr.findNow]
     have:Instr.sameNow (.array n e) kv x.key=none:=by simp[Instr.sameNow]
     rw[this]
    rw[this]
  rw[f3]
  cases hf:BE kd l with
  | none=>simpa only[hf] using f1
  | some y =>
   obtain ⟨j,d⟩:=y
   simp only[hf,AfJ] at f1
   obtain ⟨e',a1,a2,a3,a4⟩:=f1
   obtain ⟨k',hk'⟩:=snd l j d hf
   exact ⟨e',by simpa using a1,by rw[hk'];rfl,a3,a4⟩
 ·have f1:=JT hu hna hk rk es.toList l 0 hl hr hok
  cases hf:BE kd l with
  | none =>
   simp only[hf] at f1
   exact MapKept.run_findKey hu f1
  | some y =>
   obtain ⟨j,d⟩:=y
   simp only[hf,AfJ] at f1
   obtain ⟨e',a1,a2,a3,a4⟩:=f1
   obtain ⟨k',hk'⟩:=snd l j d hf
   exact ⟨e',by simpa using a1,by rw[hk'];rfl,MapKept.run_findKey hu a3,a4⟩
theorem Gk {el:Nat} {k:IntKind} (hi:Eu P el=some k) (em:Bool) (dd:Nat) (xs:List Int):∀ (is:List Nat),(∀ i∈is,i<xs.length) →
  (forIn is PUnit.unit (fun i _=>do Instr.checkKey em (dd+1) el (←part el (xs.map (Value.int k)).toArray (i*(←sizeOf el)));pure (ForInStep.yield PUnit.unit)):Sem PUnit).run P w=.ok PUnit.unit w
 | [],_=>by simp
 | i::is,hb=>by
   obtain ⟨hu,hc,inf,hinf⟩:=Jw hi
   have p1:=run_part_plain (P:=P) w (FD hu) (xs:=(xs.map (Value.int k)).toArray) (off:=i) (v:=.int k (xs.getD i 0)) (by simp[AdV,AdT (hb i (by simp))])
   have p2:(sizeOf el).run P w=.ok (P.cellsOf el) w:=_root_.Go.run_sizeOf w hinf
   have p3:(Instr.checkKey em (dd+1) el (.int k (xs.getD i 0))).run P w=.ok () w:=by simp[Instr.checkKey,run_underlying hu]
   have ih:=Gk hi em dd xs is (fun j hj=>hb j (by simp[hj]))
   rw[hc] at p2
   simp only[List.forIn_cons,Sem.run_bind,p2,Result.andThen_ok,Agy,p1,p3,Sem.run_pure]
   simpa only[Sem.run_bind] using ih
theorem DP {kt:Nat} {kd:D} {kv:Value} (hk:isKeyD P kt kd=true) (rk:RD h kv kd) (em:Bool):(Instr.checkKey em 10000 kt kv).run P w=.ok () w:=by
 suffices hh:∀ d,(Instr.checkKey em (d+1+1) kt kv).run P w=.ok () w from hh 9998
 intro d
 rcases Ek hk rk with ⟨k,n,hu,rfl,rfl⟩ | ⟨s,hu,rfl,rfl⟩ | ⟨c,hu,rfl,rfl⟩ | ⟨n,el,k,l,ns,hu,hi,rfl,rfl,hn,rfl⟩
 ·simp[Instr.checkKey,run_underlying hu]
 ·simp[Instr.checkKey,run_underlying hu]
 ·simp[Instr.checkKey,run_underlying hu]
 ·have:=Gk (P:=P) (w:=w) hi em d ns (List.range' 0 n) (fun i hi=>by simp at hi;omega)
  generalize d+1=e at *
  rw[Instr.checkKey]
  simp only[Sem.run_bind,run_underlying hu,Result.andThen_ok]
  simp only[Std.Legacy.Range.forIn_eq_forIn_range',Std.Legacy.Range.size,Nat.sub_zero,Nat.add_one_sub_one,Nat.div_one]
  rw[this]
  simp
theorem MV {kt:Nat} {kd:D} {kv:Value} (hk:isKeyD P kt kd=true) (rk:RD h kv kd):(Instr.keyThatStays kv kv).run P w=.ok kv w:=by
 have hs:Instr.sameBits 10000 kv kv=true:=by
  suffices hh:∀ d,Instr.sameBits (d+1) kv kv=true from hh 9999
  intro d
  rcases Ek hk rk with ⟨k,n,hu,rfl,rfl⟩ | ⟨s,hu,rfl,rfl⟩ | ⟨c,hu,rfl,rfl⟩ | ⟨n,el,k,l,ns,hu,hi,rfl,rfl,hn,rfl⟩
  ·simp[Instr.sameBits]
  ·simp[Instr.sameBits,Md]
  ·simp[Instr.sameBits]
  ·simp only[Instr.sameBits,beq_self_eq_true,Agv,Ae1]
   intro x hx
   have:=List.of_mem_zip hx
   simp only[AfS] at this
   have hz:∀ (l:List Value),(∀ v∈l,∃ m,v=Value.int k m)→∀ x∈l.zip l,Instr.sameBits d x.1 x.2=true:=by
    intro l
    induction l with
    | nil=>intro _ x hx;simp at hx
    | cons v l ih =>
     intro hl x hx
     simp only[Af3,AfW] at hx
     rcases hx with rfl | hx
     ·obtain ⟨m,rfl⟩:=hl v (by simp)
      simp[Instr.sameBits]
     ·exact ih (fun u hu=>hl u (by simp[hu])) x hx
   exact hz _ (fun v hv=>by simp at hv;obtain ⟨m,_,rfl⟩:=hv;exact ⟨m,rfl⟩) x hx
 simp[Instr.keyThatStays,hs]
end
def KI (P:Program) (H:List Aa) (t:Nat) (x ix:AV) (ok:Bool) (k:Eff→Prop):Prop :=
 match Al P t with
 | some ti=>match ti.k with
   | .map kt et=>match Gf P et,sealA H ix with
     | some z,some kd=>AJ ix=[]∧isKeyD P kt kd=true∧match x with
       | .d .nilm=>k ⟨.d (C4 z [] kd ok),[],[]⟩
       | .mp b=>match H[b]? with
         | some (.map l)=>Do P kt l=true∧k ⟨.d (C4 z l kd ok),[],[b]⟩
         | some (.amap l)=>Do P kt l=true∧k ⟨FI z l kd ok,[],[b]⟩
         | _=>False
       | _=>False
     | _,_=>False
   | _=>False
 | none=>False
def Il (P:Program) (H:List Aa) (t:Nat) (x ix v:AV) (k:Eff→Prop):Prop :=
 match Al P t with
 | some ti=>match ti.k with
   | .map kt _=>match sealA H ix,sealA H v with
     | some kd,some d=>AJ ix=[]∧isKeyD P kt kd=true∧match x with
       | .mp b=>match H[b]? with
         | some (.map l)=>Do P kt l=true∧k ⟨.undef,frz H (AJ v)++[(b,.map (BH l kd d))],b::AJ v⟩
         | some (.amap l)=>Do P kt l=true∧k ⟨.undef,[(b,.amap (BH l kd v))],[b]⟩
         | _=>False
       | _=>False
     | _,_=>False
   | _=>False
 | none=>False
def II (P:Program) (H:List Aa) (t:Nat) (k:Eff→Prop):Prop :=
 match Al P t with
 | some ti=>match ti.k with
   | .map _ _=>k ⟨.mp H.length,[(H.length,.map [])],[H.length]⟩
   | _=>False
 | none=>False
def OS (P:Program) (H:List Aa) (ts:Array TypeId) (x:AV) (k:Eff→Prop):Prop :=
 match ts.toList with
 | [t]=>match Ak P t with
   | some (_,te)=>match x with
     | .lsl b sz off n=>sz=te.size∧te.zero.length=te.size∧0<te.zero.length∧match H[b]? with
       | some (.row false cs)=>off+n*te.size≤cs.length∧k ⟨.d (.tup []),[(b,.row false (cs.take off++AH te.zero (n*te.size)++cs.drop (off+n*te.size)))],[b]⟩
       | _=>False
     | _=>False
   | none=>False
 | _=>False
def Ou (P:Program) (H:List Aa) (t:Nat) (x:AV) (k:Eff→Prop):Prop :=
 match x with
 | .d (.str s)=>AD P t=true∧k ⟨.ptr H.length 0,[(H.length,.iter s 0)],[H.length]⟩
 | _=>False
def Nj (b:Nat) (k:Eff→Prop):Option Aa→Prop
 | some (.iter s pos)=>(pos<s.size→k ⟨.d (.tup [.bool true,.int .i64 pos,.int .i32 (Utf8.decode s pos).1]),[(b,.iter s (pos+(Utf8.decode s pos).2))],[b]⟩)∧(¬pos<s.size→k ⟨.d (.tup [.bool false]),[],[b]⟩)
 | _=>False
def TV (H:List Aa) (x:AV) (str:Bool) (k:Eff→Prop):Prop :=
 match str,x with
 | true,.ptr b 0=>Nj b k H[b]?
 | _,_=>False
section
variable {P:Program} {G:Ad} {o:Oper} {ev:Operand→AV} {H:List Aa}
theorem Ja {t:Nat} {z:D} (e:Gf P t=some z) (h:Ag) (w:World):∃ v,(zeroValue t).run P w=.ok v w∧RD h v z:=by
 unfold Gf at e
 split at e
 ·rename_i i hi
  have hz:∀ v,i.zero=some v→(zeroValue t).run P w=.ok v w:=fun v hv=>by simp[zeroValue,typeInfo,hi,hv]
  split at e
  ·rename_i cs hc
   split at e
   ·rename_i l hl
    cases e
    have hd:=Cr (h:=h) hl
    exact ⟨_,hz _ hc,.agg _ _ (by simpa using hd.1) (fun i v x hv hx=>hd.2 i v x (by simpa using hv) hx)⟩
   ·cases e
  ·rename_i v _ hv
   exact ⟨_,hz _ hv,Tj e⟩
  ·cases e
 ·cases e
theorem Nm {t kt et:Nat} {ti:TI} (ht:Al P t=some ti) (hk:ti.k=.map kt et):P.underlying t=some (.map kt et):=by
 obtain ⟨i,u,z,h1,h2,h3,h4,_⟩:=AG ht
 rw[hk] at h4
 cases u<;>simp[GO] at h4
 obtain ⟨rfl,rfl⟩:=h4
 exact h2
theorem PD {h:Ag} {w:World} {t kt et:Nat} {z kd:D} {kv zv xv:Value} {es:Array MapEntry} {l:List (D × D)} {ok:Bool} (hu:P.underlying t=some (.map kt et)) (hz:(zeroValue et).run P w=.ok zv w) (rz:RD h zv z)
  (hk:isKeyD P kt kd=true) (rk:RD h kv kd) (hm:FZ h es l) (hok:Do P kt l=true) (hx:(xv=.map none∧es=#[])∨∃ r clock,xv=.map (some r)∧w.heap[r]?=some (.map es clock)) :
  ∃ v,(Instr.lookup t xv kv ok).run P w=.ok v w∧RD h v (C4 z l kd ok):=by
 have hf:=IB (w:=w) hk rk hm.keys hok
 have hc:=DP (w:=w) hk rk es.isEmpty
 have tup:∀ {a b:Value} {x y:D},RD h a x→RD h b y→RD h (.tuple #[a,b]) (.tup [x,y]):=fun r1 r2=>.tup _ _ rfl fun i v x hv hx=>by
  rcases i with _ | _ | i
  ·simp at hv hx;subst hv;subst hx;exact r1
  ·simp at hv hx;subst hv;subst hx;exact r2
  ·simp at hx
 unfold C4
 cases hfe:BE kd l with
 | none =>
  simp only[hfe] at hf
  refine ⟨if ok then .tuple #[zv,.bool false] else zv,?_,?_⟩
  ·rcases hx with ⟨rfl,rfl⟩ | ⟨r,clock,rfl,hx⟩
   ·simp only[Instr.lookup,Sem.run_bind,run_underlying hu,Result.andThen_ok,Sem.run_pure,hc,hf,hz]
   ·simp only[Instr.lookup,Sem.run_bind,run_underlying hu,Result.andThen_ok,MapKept.run_getObj_map hx,Sem.run_pure,hc,hf,hz]
  ·cases ok
   ·exact rz
   ·exact tup rz (.bool _)
 | some y =>
  obtain ⟨j,d⟩:=y
  simp only[hfe] at hf
  obtain ⟨e,h1,h2,h3,h4⟩:=hf
  have hd:RD h e.val d:=(hm.2 j e _ h1 h2).2
  refine ⟨if ok then .tuple #[e.val,.bool true] else e.val,?_,?_⟩
  ·rcases hx with ⟨rfl,rfl⟩ | ⟨r,clock,rfl,hx⟩
   ·simp at h1
   ·simp only[Instr.lookup,Sem.run_bind,run_underlying hu,Result.andThen_ok,MapKept.run_getObj_map hx,Sem.run_pure,hc,h3]
  ·cases ok
   ·exact hd
   ·exact tup hd (.bool _)
theorem UC {h:Ag} {w:World} {t kt et:Nat} {z kd:D} {kv zv xv:Value} {es:Array MapEntry} {ρ:Place} {l:List (D × AV)} {ok:Bool} (hu:P.underlying t=some (.map kt et)) (hz:(zeroValue et).run P w=.ok zv w) (rz:RD h zv z)
  (hk:isKeyD P kt kd=true) (rk:RD h kv kd) (hm:EZ h ρ es l) (hok:Do P kt l=true) (hx:(xv=.map none∧es=#[])∨∃ r clock,xv=.map (some r)∧w.heap[r]?=some (.map es clock)) :
  ∃ v,(Instr.lookup t xv kv ok).run P w=.ok v w∧R h ρ v (FI z l kd ok):=by
 have hf:=IB (w:=w) hk rk hm.keys hok
 have hc:=DP (w:=w) hk rk es.isEmpty
 have tup:∀ {a b:Value} {x y:AV},R h ρ a x→R h ρ b y→R h ρ (.tuple #[a,b]) (.tup [x,y]):=fun r1 r2=>.tup _ _ rfl fun i v x hv hx=>by
  rcases i with _ | _ | i
  ·simp at hv hx;subst hv;subst hx;exact r1
  ·simp at hv hx;subst hv;subst hx;exact r2
  ·simp at hx
 unfold FI
 cases hfe:BE kd l with
 | none =>
  simp only[hfe] at hf
  refine ⟨if ok then .tuple #[zv,.bool false] else zv,?_,?_⟩
  ·rcases hx with ⟨rfl,rfl⟩ | ⟨r,clock,rfl,hx⟩
   ·simp only[Instr.lookup,Sem.run_bind,run_underlying hu,Result.andThen_ok,Sem.run_pure,hc,hf,hz]
   ·simp only[Instr.lookup,Sem.run_bind,run_underlying hu,Result.andThen_ok,MapKept.run_getObj_map hx,Sem.run_pure,hc,hf,hz]
  ·cases ok
   ·exact .d _ _ rz
   ·exact tup (.d _ _ rz) (.d _ _ (.bool _))
 | some y =>
  obtain ⟨j,d⟩:=y
  simp only[hfe] at hf
  obtain ⟨e,h1,h2,h3,h4⟩:=hf
  have hd:R h ρ e.val d:=(hm.2 j e _ h1 h2).2
  refine ⟨if ok then .tuple #[e.val,.bool true] else e.val,?_,?_⟩
  ·rcases hx with ⟨rfl,rfl⟩ | ⟨r,clock,rfl,hx⟩
   ·simp at h1
   ·simp only[Instr.lookup,Sem.run_bind,run_underlying hu,Result.andThen_ok,MapKept.run_getObj_map hx,Sem.run_pure,hc,h3]
  ·cases ok
   ·exact hd
   ·exact tup hd (.d _ _ (.bool _))
theorem FZ.nil {h:Ag}:FZ h #[] []:=⟨rfl,fun i e p a _=>by simp at a⟩
theorem Sq {t:Nat} {x ix:Operand} {ok:Bool} {k:Eff→Prop} (ho:o.op=.lookup t x ix ok) (hk:KI P H t (ev x) (ev ix) ok k):∃ e,Ah P G o ev (hp H) e∧k e:=by
 have mx:x∈o.op.operands.toList:=by simp[Op.operands,ho]
 have mi:ix∈o.op.operands.toList:=by simp[Op.operands,ho]
 unfold KI at hk
 split at hk
 ·rename_i ti ht
  split at hk
  ·rename_i kt et hkk
   have hu:=Nm ht hkk
   split at hk
   ·rename_i z kd hz hs
    obtain ⟨k1,k2,hk⟩:=hk
    split at hk
    ·rename_i hx
     refine ⟨_,Ah.val fun h ρ H' a w hs' hops hr=>?_,hk⟩
     have rk:=BU (hops ix mi) hs (fun b hb=>by rw[k1] at hb;cases hb)
     obtain ⟨zv,z1,z2⟩:=Ja hz h w
     have ex:a.eval x=.map none:=by
      have:=hx▸hops x mx
      generalize a.eval x=v at this
      cases this with | d _ _ hd=>cases hd;rfl
     obtain ⟨v,v1,v2⟩:=PD (ok:=ok) (xv:=.map none) hu z1 z2 k2 rk FZ.nil rfl (.inl ⟨rfl,rfl⟩)
     exact ⟨v,by simp only[execOp,ho,ex,Sem.run_bind,v1,Result.andThen_ok,Sem.run_pure],.d _ _ v2⟩
    ·rename_i b hx
     split at hk
     ·rename_i l hb
      obtain ⟨k3,hk⟩:=hk
      refine ⟨_,Ah.val fun h ρ H' a w hs' hops hr=>?_,hk⟩
      have rk:=BU (hops ix mi) hs (fun b hb=>by rw[k1] at hb;cases hb)
      obtain ⟨zv,z1,z2⟩:=Ja hz h w
      obtain ⟨g,S,es,clock,b1,b2,b3,b4,b5⟩:=hs'.blk b (.map l) (by rw[hr b (by simp)];exact hb)
      have ex:a.eval x=.map (some g):=by
       have:=hx▸hops x mx
       generalize a.eval x=v at this
       cases this with | mp _ g' S' hρ=>rw[b1] at hρ;cases hρ;rfl
      obtain ⟨v,v1,v2⟩:=PD (ok:=ok) (xv:=.map (some g)) hu z1 z2 k2 rk b3 k3 (.inr ⟨g,clock,rfl,b2⟩)
      exact ⟨v,by simp only[execOp,ho,ex,Sem.run_bind,v1,Result.andThen_ok,Sem.run_pure],.d _ _ v2⟩
     ·rename_i l hb
      obtain ⟨k3,hk⟩:=hk
      refine ⟨_,Ah.val fun h ρ H' a w hs' hops hr=>?_,hk⟩
      have rk:=BU (hops ix mi) hs (fun b hb=>by rw[k1] at hb;cases hb)
      obtain ⟨zv,z1,z2⟩:=Ja hz h w
      obtain ⟨g,S,es,clock,b1,b2,b3,b4,b5⟩:=hs'.blk b (.amap l) (by rw[hr b (by simp)];exact hb)
      have ex:a.eval x=.map (some g):=by
       have:=hx▸hops x mx
       generalize a.eval x=v at this
       cases this with | mp _ g' S' hρ=>rw[b1] at hρ;cases hρ;rfl
      obtain ⟨v,v1,v2⟩:=UC (ok:=ok) (xv:=.map (some g)) hu z1 z2 k2 rk b3 k3 (.inr ⟨g,clock,rfl,b2⟩)
      exact ⟨v,by simp only[execOp,ho,ex,Sem.run_bind,v1,Result.andThen_ok,Sem.run_pure],v2⟩
     ·exact hk.elim
    ·exact hk.elim
   ·exact hk.elim
  ·exact hk.elim
 ·exact hk.elim
theorem PZ {t:Nat} {k:Eff→Prop} (ho:o.op=.makeMap t none) (hk:II P H t k):∃ e,Ah P G o ev (hp H) e∧k e:=by
 unfold II at hk
 split at hk
 ·rename_i ti ht
  split at hk
  ·refine ⟨_,Ah.gen fun h ρ H' a w hs hx hr=>?_,hk⟩
   have hn:H' H.length=none:=by rw[hr _ (by simp)];simp[hp]
   obtain ⟨s1,s2⟩:=hs.alloc H.length hn (.map #[] 0) 0 (.map []) ⟨w.heap.size,0,#[],0,Ao _ _ _,heap_alloc_new w _,FZ.nil,fun j=>hs.held_none j,JN.nil⟩
   refine ⟨_,_,_,_,?_,s1,.mp _ w.heap.size 0 (Ao _ _ _),s2⟩
   simp[execOp,ho,Instr.makeMap,newObj,Sem.run]
  ·exact hk.elim
 ·exact hk.elim
theorem UH {t:Nat} {x:Operand} {k:Eff→Prop} (ho:o.op=.range t x) (hk:Ou P H t (ev x) k):∃ e,Ah P G o ev (hp H) e∧k e:=by
 have mx:x∈o.op.operands.toList:=by simp[Op.operands,ho]
 unfold Ou at hk
 split at hk
 ·rename_i s hx
  obtain ⟨k1,hk⟩:=hk
  have hu:=B9 k1
  refine ⟨_,Ah.gen fun h ρ H' a w hs hops hr=>?_,hk⟩
  have e1:=(hx▸hops x mx).str_inv
  have hn:H' H.length=none:=by rw[hr _ (by simp)];simp[hp]
  obtain ⟨s1,s2⟩:=hs.alloc H.length hn (.stringIter s 0) 0 (.iter s 0) ⟨w.heap.size,0,Ao _ _ _,heap_alloc_new w _,fun j=>hs.held_none j⟩
  refine ⟨_,_,_,_,?_,s1,.ptr _ _ w.heap.size 0 (Ao _ _ _),s2⟩
  simp[execOp,ho,e1,Instr.range,run_underlying hu,newObj,Sem.run]
 ·exact hk.elim
theorem FU {w:World} {r:Nat} {s:ByteArray} {pos:Nat} (hb:w.heap[r]?=some (.stringIter s pos)):(getObj r).run P w=.ok (.stringIter s pos) w:=by
 simp[getObj,Sem.run,hb]
theorem Kg {w:World} {r:Nat} {s:ByteArray} {pos:Nat} (o:Obj) (hb:w.heap[r]?=some (.stringIter s pos)):(setObj r o).run P w=.ok () {w with heap:=w.heap.setIfInBounds r o}:=by
 simp[setObj,Sem.run,hb]
theorem Wx {x:Operand} {str:Bool} {k:Eff→Prop} (ho:o.op=.next x str) (hk:TV H (ev x) str k):∃ e,Ah P G o ev (hp H) e∧k e:=by
 have mx:x∈o.op.operands.toList:=by simp[Op.operands,ho]
 unfold TV at hk
 split at hk
 ·rename_i b hx
  unfold Nj at hk
  split at hk
  ·rename_i s pos hb
   obtain ⟨k1,k2⟩:=hk
   by_cases hp':pos<s.size
   ·refine ⟨_,Ah.gen fun h ρ H' a w hs hops hr=>?_,k1 hp'⟩
    have hbb:H' b=some (.iter s pos):=by rw[hr b (by simp)];exact hb
    obtain ⟨g,S,b1,b2,b3⟩:=hs.blk b _ hbb
    have ex:a.eval x=.pointer (some ⟨g,0,none⟩):=by
     obtain ⟨g',S',e1,e2⟩:=(hx▸hops x mx).ptr_inv
     rw[b1] at e2;cases e2;exact e1
    have hh:=MapKept.heap_set (o':=.stringIter s (pos+(Utf8.decode s pos).2)) b2
    obtain ⟨t3,t4⟩:=hs.change b ⟨_,hbb,by simp⟩ g S b1 (.iter s (pos+(Utf8.decode s pos).2)) h {w with heap:=w.heap.setIfInBounds g (.stringIter s (pos+(Utf8.decode s pos).2))} (Ag.le_refl _) (fun k hk=>⟨fun _=>rfl,hh.2 k hk⟩) (by simp) rfl rfl rfl
     (fun o v e=>by rw[b3 o] at e;cases e) ⟨g,S,b1,hh.1,b3⟩
    refine ⟨_,_,_,_,?_,t3,.d _ (.tup [.bool true,.int .i64 pos,.int .i32 (Utf8.decode s pos).1]) (.tup #[.bool true,.int .i64 pos,.int .i32 (Utf8.decode s pos).1] _ rfl (fun i v y hv hy=>?_)),t4⟩
    ·simp only[execOp,ho,ex,Instr.next,Sem.run_bind,FU b2,Result.andThen_ok,hp',if_true,Kg _ b2,Sem.run_pure,goInt]
    ·match i with
     | 0=>simp at hv hy;subst hv;subst hy;exact .bool _
     | 1=>simp at hv hy;subst hv;subst hy;exact .int _ _
     | 2=>simp at hv hy;subst hv;subst hy;exact .int _ _
     | i+3=>simp at hy
   ·refine ⟨_,Ah.val fun h ρ H' a w hs hops hr=>?_,k2 hp'⟩
    have hbb:H' b=some (.iter s pos):=by rw[hr b (by simp)];exact hb
    obtain ⟨g,S,b1,b2,b3⟩:=hs.blk b _ hbb
    have ex:a.eval x=.pointer (some ⟨g,0,none⟩):=by
     obtain ⟨g',S',e1,e2⟩:=(hx▸hops x mx).ptr_inv
     rw[b1] at e2;cases e2;exact e1
    refine ⟨.tuple #[.bool false],?_,.d _ (.tup [.bool false]) (.tup #[.bool false] _ rfl (fun i v y hv hy=>?_))⟩
    ·simp only[execOp,ho,ex,Instr.next,Sem.run_bind,FU b2,Result.andThen_ok,hp',if_false,Sem.run_pure]
    ·match i with
     | 0=>simp at hv hy;subst hv;subst hy;exact .bool _
     | i+1=>simp at hy
  ·exact hk.elim
 ·exact hk.elim
theorem Vb {ts:Array TypeId} {x:Operand} {k:Eff→Prop} (ho:o.op=.call {callee:=.builtin .clear,args:=#[x],argTypes:=ts})
  (hk:OS P H ts (ev x) k):∃ e,Ah P G o ev (hp H) e∧k e:=by
 have mx:x∈o.op.operands.toList:=by simp[Op.operands,Call.operands,ho]
 unfold OS at hk
 split at hk
 ·rename_i t hts
  have hts':ts=#[t]:=by rw[←Ad0 (xs:=ts),hts]
  subst hts'
  split at hk
  ·rename_i e te hse
   obtain ⟨hu,hte⟩:=Ay hse
   obtain ⟨i,u,z,q1,q2,q3,q4,q5,q6,q7⟩:=AG hte
   split at hk
   ·rename_i b sz off n hx
    obtain ⟨rfl,kz,k0,hk⟩:=hk
    split at hk
    ·rename_i cs hb
     obtain ⟨k1,hk⟩:=hk
     refine ⟨_,Ah.gen fun h ρ H' a w hs hops hr=>?_,hk⟩
     have exec:∀ (w':World),(Builtin.clear_ #[t] o.type #[a.eval x]).run P w=.ok (.tuple #[]) w'→(execOp a.eval o).run P w=.ok (.value (.tuple #[])) w':=by
      intro w' hr
      simp only[execOp,ho,resolve,invoke,builtin,Sem.run_bind,Sem.run_pure,Result.andThen_ok,Agq,AfN,Agm,hr]
     have hbb:H' b=some (.row false cs):=by rw[hr b (by simp)];exact hb
     have hv:=hx▸hops x mx
     generalize he:a.eval x=v at hv exec
     have hz:z.cells.size=te.zero.length:=by have:=(Cr (h:=h) q7).1;simpa using this
     cases hv with
     | lsl0 base b sz' off =>
      refine ⟨_,w,h,ρ,exec w ?_,?_,.d _ (.tup []) (.tup #[] _ rfl (fun i v x hv hx=>by simp at hv)),AU.refl h ρ w⟩
      ·cases base<;>simp[Builtin.clear_,run_underlying hu]
      ·have:cs.take off++AH te.zero (0*te.size)++cs.drop (off+0*te.size)=cs:=by simp[AH]
       rw[this]
       refine hs.reblk b ⟨_,hbb,by simp⟩ (.row false cs) (hs.blk b _ hbb)
     | lsl b sz' off n cap g S hρ hn hc =>
      obtain ⟨ho',hblk⟩:=hs.blk b (.row false cs) hbb
      rcases hblk with ⟨b1,_⟩ | ⟨g',S',c,E,fr,b1,b2,b3,b4,b5,b6,b7,b8⟩
      ·rw[hρ] at b1;cases b1
      rw[hρ] at b1;cases b1
      have hsz:(Builtin.zeroCells z.cells n).size=n*te.size:=by simp[Builtin.zeroCells];rw[hz,kz]
      have hone:∀ v,v∈(Builtin.zeroCells z.cells n).toList→v.oneCell'=true:=fun v hv=>by
       obtain ⟨j,hj,rfl⟩:=Af2 hv
       have hj':j<n*te.size:=by rw[←hsz];simpa using hj
       have hr:=Fs (h:=h) q7 k0 j
       have h1:(AH te.zero (n*te.size))[j]?=some (te.zero.getD (j % te.zero.length) .nilp):=by simp[AH,Agh hj']
       have h2:=Ge q7 (n*te.size) j _ h1
       have h3:(Builtin.zeroCells z.cells n).toList[j]=z.cells[j % z.cells.size]!:=by simp[Builtin.zeroCells]
       rw[h3]
       exact RD.one_ok hr h2
      obtain ⟨c',r1,r2,r3⟩:=B4 P g off (Builtin.zeroCells z.cells n).toList 0 c E fr w b2 (by rw[b3];exact b4) (by simp[hsz];omega) hone
      have hno:∀ j,h g j=none:=fun j=>b8 j (by simp)
      have hl3:off+(AH te.zero (n*te.size)).length≤cs.length:=by rw[Cy];exact k1
      have hput:cs.take off++AH te.zero (n*te.size)++cs.drop (off+n*te.size)=CM cs off (AH te.zero (n*te.size)):=by
       apply Agn
       intro j
       rw[Ep hl3,Cy,AfQ,AfQ]
       simp only[List.length_append,List.length_take,Cy,Agi,List.getElem?_drop]
       have e1:min off cs.length=off:=by omega
       rw[e1]
       by_cases q1:j<off+n*te.size
       ·rw[if_pos q1]
        by_cases q2:j<off
        ·rw[if_pos q2,if_pos q2,if_neg (by omega)]
        ·rw[if_neg q2,if_pos (by omega)]
       ·rw[if_neg q1,if_neg (by omega)]
        congr 1;omega
      obtain ⟨t3,t4⟩:=hs.change b ⟨_,hbb,by simp⟩ g S hρ (.row false (CM cs off (AH te.zero (n*te.size)))) h (w.setRow g c') (Ag.le_refl _) (fun k hk=>⟨fun _=>rfl,setRow_other w g k c' hk⟩) (by simp) rfl rfl rfl
       (fun o v e=>by rw[hno o] at e;cases e)
       ⟨fun j x' hx=>by
        rw[Ep hl3] at hx
        split at hx
        ·exact Ge q7 _ _ x' hx
        ·exact ho' j x' hx,.inr ⟨g,S,c',E,fr,hρ,setRow_heap w g c c' E fr b2,by omega,b4,by rw[DY hl3];exact b5,fun j x' v hx hv=>by
        rw[Ep hl3,Cy] at hx
        rw[r3 j] at hv
        by_cases hin:off≤j∧j<off+n*te.size
        ·rw[if_pos hin] at hx
         rw[if_pos (by simp[hsz];omega)] at hv
         have hj':j-off<n*te.size:=by omega
         have e2:x'=te.zero.getD ((j-off) % te.zero.length) .nilp:=by simpa[AH,Agh hj'] using hx.symm
         have e3:v=z.cells[(j-off) % z.cells.size]!:=by
          have hj2:j-off<n*z.cells.size:=by rw[hz,kz];exact hj'
          simpa[Builtin.zeroCells,Array.getElem?_range,hj2] using hv.symm
         rw[e2,e3]
         exact Fs q7 k0 _
        ·rw[if_neg hin] at hx
         rw[if_neg (by simp[hsz];omega)] at hv
         exact b6 j x' v hx hv,(fun e=>by cases e),fun j _=>hno j⟩⟩
      refine ⟨_,_,_,_,exec _ ?_,by rw[hput];exact t3,.d _ (.tup []) (.tup #[] _ rfl (fun i v x hv hx=>by simp at hv)),t4⟩
      have r1':(storeCells ⟨g,off,none⟩ (Builtin.zeroCells z.cells n).toList).run P w=.ok () (w.setRow g c'):=r1
      have hzv:(zeroValue e).run P w=.ok z w:=by simp[zeroValue,typeInfo,q1,q3]
      rcases Nat.eq_zero_or_pos n with h0 | h0
      ·subst h0
       have e0:w.setRow g c'=w:=by
        have:(Builtin.zeroCells z.cells 0).toList=[]:=by simp[Builtin.zeroCells]
        rw[this] at r1
        simp only[storeCells,Sem.run_pure,Result.ok.injEq,true_and] at r1
        exact r1.symm
       rw[e0]
       simp[Builtin.clear_,run_underlying hu]
      ·obtain ⟨m,rfl⟩:∃ m,n=m+1:=⟨n-1,by omega⟩
       simp[Builtin.clear_,run_underlying hu,hzv,r1']
    ·exact hk.elim
   ·exact hk.elim
  ·exact hk.elim
 ·exact hk.elim
theorem JN.push {es:Array MapEntry} {clock:Nat} (b:JN es clock) (k v:Value):JN (es.push {key:=k,val:=v,born:=clock}) (clock+1):=by
 refine ⟨fun e he=>?_,?_⟩
 ·simp only[Ago,Aga,Agj] at he
  rcases he with he | rfl
  ·have:=b.1 e he;omega
  ·exact Nat.lt_succ_self _
 ·rw[Ago,List.map_append,AfN,Agm]
  refine List.nodup_append.2 ⟨b.2,by simp,fun a ha c hc=>?_⟩
  obtain ⟨e,he,rfl⟩:=AfS.1 ha
  obtain rfl:=Agj.1 hc
  have:=b.1 e he
  omega
theorem JN.modify {es:Array MapEntry} {clock:Nat} (b:JN es clock) (k v:Value) (j:Nat):JN (es.modify j fun e=>{e with key:=k,val:=v}) clock:=by
 have e1:(es.modify j fun e=>{e with key:=k,val:=v}).toList.map (·.born)=es.toList.map (·.born):=by
  refine Agr (by simp) fun i h1 h2=>?_
  simp only[List.getElem_map,Array.getElem_toList,Array.getElem_modify]
  split<;>rfl
 refine ⟨fun e he=>?_,by rw[e1];exact b.2⟩
 have:e.born∈es.toList.map (·.born):=by rw[←e1];exact Ae2 he
 obtain ⟨x,hx,q⟩:=AfS.1 this
 rw[←q]
 exact b.1 x hx
theorem FZ.push {h:Ag} {es:Array MapEntry} {l:List (D × D)} (m:FZ h es l) {kv v:Value} {kd d:D} (rk:RD h kv kd) (rv:RD h v d) (c:Nat):FZ h (es.push {key:=kv,val:=v,born:=c}) (l++[(kd,d)]):=by
 refine ⟨by simp[m.1],fun i e p he hp=>?_⟩
 by_cases hi:i<l.length
 ·rw[Afv hi] at hp
  rw[Af8 (by have:=m.1;omega)] at he
  exact m.2 i e p (by rw[AdU (by have:=m.1;omega)];exact he) hp
 ·have hi2:i=l.length:=by
   have:=(AcB.1 hp).1
   simp at this;omega
  subst hi2
  simp at hp
  rw[←m.1] at he
  simp at he
  subst he;subst hp
  exact ⟨rk,rv⟩
theorem FZ.modify {h:Ag} {es:Array MapEntry} {l:List (D × D)} (m:FZ h es l) {kv v:Value} {kd d:D} (rk:RD h kv kd) (rv:RD h v d) (j:Nat):FZ h (es.modify j fun e=>{e with key:=kv,val:=v}) (l.set j (kd,d)):=by
 refine ⟨by simp[m.1],fun i e p he hp=>?_⟩
 rw[Agd] at he
 rw[AfO] at hp
 by_cases hij:j=i
 ·subst hij
  simp only[if_true] at he hp
  split at hp
  ·cases hp
   cases hes:es[j]? with
   | none=>simp[hes] at he
   | some e0=>simp[hes] at he;subst he;exact ⟨rk,rv⟩
  ·cases hp
 ·simp only[hij,if_false] at he hp
  exact m.2 i e p he hp
theorem EZ.push {h:Ag} {ρ:Place} {es:Array MapEntry} {l:List (D × AV)} (m:EZ h ρ es l) {kv v:Value} {kd:D} {d:AV} (rk:RD h kv kd) (rv:R h ρ v d) (c:Nat):EZ h ρ (es.push {key:=kv,val:=v,born:=c}) (l++[(kd,d)]):=by
 refine ⟨by simp[m.1],fun i e p he hp=>?_⟩
 by_cases hi:i<l.length
 ·rw[Afv hi] at hp
  rw[Af8 (by have:=m.1;omega)] at he
  exact m.2 i e p (by rw[AdU (by have:=m.1;omega)];exact he) hp
 ·have hi2:i=l.length:=by
   have:=(AcB.1 hp).1
   simp at this;omega
  subst hi2
  simp at hp
  rw[←m.1] at he
  simp at he
  subst he;subst hp
  exact ⟨rk,rv⟩
theorem EZ.modify {h:Ag} {ρ:Place} {es:Array MapEntry} {l:List (D × AV)} (m:EZ h ρ es l) {kv v:Value} {kd:D} {d:AV} (rk:RD h kv kd) (rv:R h ρ v d) (j:Nat):EZ h ρ (es.modify j fun e=>{e with key:=kv,val:=v}) (l.set j (kd,d)):=by
 refine ⟨by simp[m.1],fun i e p he hp=>?_⟩
 rw[Agd] at he
 rw[AfO] at hp
 by_cases hij:j=i
 ·subst hij
  simp only[if_true] at he hp
  split at hp
  ·cases hp
   cases hes:es[j]? with
   | none=>simp[hes] at he
   | some e0=>simp[hes] at he;subst he;exact ⟨rk,rv⟩
  ·cases hp
 ·simp only[hij,if_false] at he hp
  exact m.2 i e p he hp
theorem KU {t:Nat} {x ix v:Operand} {k:Eff→Prop} (ho:o.op=.mapUpdate t x ix v∨o.op=.insert t x ix v) (hk:Il P H t (ev x) (ev ix) (ev v) k):∃ e,Ah P G o ev (hp H) e∧k e:=by
 have mx:x∈o.op.operands.toList:=by rcases ho with ho | ho<;>simp[Op.operands,ho]
 have mi:ix∈o.op.operands.toList:=by rcases ho with ho | ho<;>simp[Op.operands,ho]
 have mv:v∈o.op.operands.toList:=by rcases ho with ho | ho<;>simp[Op.operands,ho]
 unfold Il at hk
 split at hk
 ·rename_i ti ht
  split at hk
  ·rename_i kt et hkk
   have hu:=Nm ht hkk
   split at hk
   ·rename_i kd d hs hsv
    obtain ⟨k1,k2,hk⟩:=hk
    split at hk
    ·rename_i b hx
     split at hk
     ·rename_i l hb
      obtain ⟨k3,hk⟩:=hk
      refine ⟨_,Ah.genU fun h ρ H' a w hs0 hops hr=>?_,hk⟩
      obtain ⟨h1,s1,t1,f1⟩:=BF H (AJ (ev v)) h H' hs0 (fun y hy=>.inl (hr y (by simp[hy])))
      have rk:=(BU (hops ix mi) hs (fun b hb=>by rw[k1] at hb;cases hb)).mono t1.mono
      have rv:=BU ((hops v mv).mono t1.mono (Place.le_refl _)) hsv f1
      have hbb:Aj H' (frz H (AJ (ev v))) b=some (.map l):=by
       have:∀ q∈frz H (AJ (ev v)),q.1≠b:=by
        have gen:∀ ids,∀ q∈frz H ids,q.1≠b:=by
         intro ids
         induction ids with
         | nil=>intro q hq;simp[frz] at hq
         | cons i r ih =>
          intro q hq
          simp only[frz] at hq
          split at hq
          ·rename_i cs hcs
           rcases AfW.1 hq with rfl | hq
           ·intro e;simp only at e;subst e;rw[hcs] at hb;cases hb
           ·exact ih q hq
          ·exact ih q hq
        exact gen _
       rw[Av _ _ b this,hr b (by simp)]
       exact hb
      obtain ⟨g,S,es,clock,b1,b2,b3,b4,b5⟩:=s1.blk b (.map l) hbb
      have ex:a.eval x=.map (some g):=by
       have:=hx▸hops x mx
       generalize a.eval x=v at this
       cases this with | mp _ g' S' hρ=>rw[b1] at hρ;cases hρ;rfl
      have hf:=IB (w:=w) k2 rk b3.keys k3
      have hc:=DP (w:=w) k2 rk false
      have hlive:Bk (Aj H' (frz H (AJ (ev v)))) b:=⟨_,hbb,by simp⟩
      have hst:=MV (w:=w) k2 rk
      have fin:∀ (es':Array MapEntry) (clock':Nat),FZ h1 es' (BH l kd d)→JN es' clock' →
        (Instr.mapUpdate t (.map (some g)) (a.eval ix) (a.eval v)).run P w=.ok () {w with heap:=w.heap.setIfInBounds g (.map es' clock')} →
        ∃ w' h' ρ',(execOp a.eval o).run P w=.ok .skip w'∧Sim G h' ρ' (Aj H' (frz H (AJ (ev v))++[(b,.map (BH l kd d))])) w'∧AU h ρ w h' ρ' w':=by
       intro es' clock' hm' hb' hrun
       have hh:=MapKept.heap_set (o':=.map es' clock') b2
       obtain ⟨t3,t4⟩:=s1.change b hlive g S b1 (.map (BH l kd d)) h1 {w with heap:=w.heap.setIfInBounds g (.map es' clock')} (Ag.le_refl _) (fun k hk=>⟨fun _=>rfl,hh.2 k hk⟩) (by simp) rfl rfl rfl
        (fun o v e=>by rw[b4 o] at e;cases e) ⟨g,S,es',clock',b1,hh.1,hm',b4,hb'⟩
       refine ⟨_,_,_,?_,by rw[Ch];exact t3,t1.trans t4⟩
       rcases ho with ho | ho<;>simp only[execOp,ho,ex,Sem.run_bind,hrun,Result.andThen_ok,Sem.run_pure]
      cases hfe:BE kd l with
      | none =>
       simp only[hfe] at hf
       refine fin (es.push {key:=a.eval ix,val:=a.eval v,born:=clock}) (clock+1) ?_ ?_ ?_
       ·simp only[BH,hfe];exact b3.push rk rv clock
       ·exact b5.push _ _
       ·simp only[Instr.mapUpdate,Sem.run_bind,run_underlying hu,Result.andThen_ok,MapKept.run_getObj_map b2,hc,hf,MapKept.run_setObj_map _ b2]
      | some y =>
       obtain ⟨j,d0⟩:=y
       simp only[hfe] at hf
       obtain ⟨e0,q1,q2,q3,q4⟩:=hf
       refine fin (es.modify j fun e=>{e with key:=a.eval ix,val:=a.eval v}) clock ?_ ?_ ?_
       ·simp only[BH,hfe];exact b3.modify rk rv j
       ·exact b5.modify _ _ j
       ·have e4:((es[j]?).map (·.key)).getD (a.eval ix)=a.eval ix:=by rw[q1];simpa using q4
        simp only[Instr.mapUpdate,Sem.run_bind,run_underlying hu,Result.andThen_ok,MapKept.run_getObj_map b2,hc,q3,e4,hst,MapKept.run_setObj_map _ b2]
     ·rename_i l hb
      obtain ⟨k3,hk⟩:=hk
      refine ⟨_,Ah.genU fun h ρ H' a w s1 hops hr=>?_,hk⟩
      have rk:=BU (hops ix mi) hs (fun b hb=>by rw[k1] at hb;cases hb)
      have rv:=hops v mv
      have hbb:H' b=some (.amap l):=by rw[hr b (by simp)];exact hb
      obtain ⟨g,S,es,clock,b1,b2,b3,b4,b5⟩:=s1.blk b (.amap l) hbb
      have ex:a.eval x=.map (some g):=by
       have:=hx▸hops x mx
       generalize a.eval x=v at this
       cases this with | mp _ g' S' hρ=>rw[b1] at hρ;cases hρ;rfl
      have hf:=IB (w:=w) k2 rk b3.keys k3
      have hc:=DP (w:=w) k2 rk false
      have hlive:Bk H' b:=⟨_,hbb,by simp⟩
      have hst:=MV (w:=w) k2 rk
      have fin:∀ (es':Array MapEntry) (clock':Nat),EZ h ρ es' (BH l kd (ev v))→JN es' clock' →
        (Instr.mapUpdate t (.map (some g)) (a.eval ix) (a.eval v)).run P w=.ok () {w with heap:=w.heap.setIfInBounds g (.map es' clock')} →
        ∃ w' h' ρ',(execOp a.eval o).run P w=.ok .skip w'∧Sim G h' ρ' (Aj H' [(b,.amap (BH l kd (ev v)))]) w'∧AU h ρ w h' ρ' w':=by
       intro es' clock' hm' hb' hrun
       have hh:=MapKept.heap_set (o':=.map es' clock') b2
       obtain ⟨t3,t4⟩:=s1.change b hlive g S b1 (.amap (BH l kd (ev v))) h {w with heap:=w.heap.setIfInBounds g (.map es' clock')} (Ag.le_refl _) (fun k hk=>⟨fun _=>rfl,hh.2 k hk⟩) (by simp) rfl rfl rfl
        (fun o v e=>by rw[b4 o] at e;cases e) ⟨g,S,es',clock',b1,hh.1,hm',b4,hb'⟩
       refine ⟨_,_,_,?_,t3,t4⟩
       rcases ho with ho | ho<;>simp only[execOp,ho,ex,Sem.run_bind,hrun,Result.andThen_ok,Sem.run_pure]
      cases hfe:BE kd l with
      | none =>
       simp only[hfe] at hf
       refine fin (es.push {key:=a.eval ix,val:=a.eval v,born:=clock}) (clock+1) ?_ ?_ ?_
       ·simp only[BH,hfe];exact b3.push rk rv clock
       ·exact b5.push _ _
       ·simp only[Instr.mapUpdate,Sem.run_bind,run_underlying hu,Result.andThen_ok,MapKept.run_getObj_map b2,hc,hf,MapKept.run_setObj_map _ b2]
      | some y =>
       obtain ⟨j,d0⟩:=y
       simp only[hfe] at hf
       obtain ⟨e0,q1,q2,q3,q4⟩:=hf
       refine fin (es.modify j fun e=>{e with key:=a.eval ix,val:=a.eval v}) clock ?_ ?_ ?_
       ·simp only[BH,hfe];exact b3.modify rk rv j
       ·exact b5.modify _ _ j
       ·have e4:((es[j]?).map (·.key)).getD (a.eval ix)=a.eval ix:=by rw[q1];simpa using q4
        simp only[Instr.mapUpdate,Sem.run_bind,run_underlying hu,Result.andThen_ok,MapKept.run_getObj_map b2,hc,q3,e4,hst,MapKept.run_setObj_map _ b2]
     ·exact hk.elim
    ·exact hk.elim
   ·exact hk.elim
  ·exact hk.elim
 ·exact hk.elim
end
end Go.Abs
namespace Go.Abs
open Go
def Ar (P:Program) (f:FuncId):Bool :=
 match P.funcs[f]? with
 | some fn=>fn.name != "runtime.NumGoroutine" && fn.body.isSome
 | none=>false
def Ctr (P:Program) (G:Ad) (f:FuncId) (args:List AV) (H:List Aa) (res:AV) (H':List Aa):Prop :=
 Ar P f=true∧∀ (h:Ag) (ρ:Place) (w:World) (vs:Array Value),Sim G h ρ (hp H) w→RL h ρ vs args →
  Calls P f vs w (fun e w'=>∃ v h' ρ',e=.returned v∧Sim G h' ρ' (hp H') w'∧R h' ρ' v res∧AU h ρ w h' ρ' w')
mutual
def renA (f:Nat→Nat):AV→AV
 | .lsl b sz off n=>.lsl (f b) sz off n
 | .ptr b off=>.ptr (f b) off
 | .mp b=>.mp (f b)
 | .agg cs=>.agg (renL f cs)
 | .tup cs=>.tup (renL f cs)
 | .fn g a b=>.fn g (renL f a) (renL f b)
 | .d x=>.d x
 | .rptr off cs=>.rptr off cs
 | .undef=>.undef
def renL (f:Nat→Nat):List AV→List AV
 | []=>[]
 | x::r=>renA f x::renL f r
end
theorem DR (f:Nat→Nat):∀ l:List AV,renL f l=l.map (renA f)
 | []=>rfl
 | x::r=>by simp[renL,DR f r]
def renB (f:Nat→Nat):Aa→Aa
 | .dead=>.dead
 | .row fz cs=>.row fz cs
 | .box cs=>.box (renL f cs)
 | .map l=>.map l
 | .amap l=>.amap (l.map fun p=>(p.1,renA f p.2))
 | .iter s pos=>.iter s pos
 | .bld T used n k=>.bld T used n (k.map f)
 | .buf e l=>.buf e l
 | .ext _ _=>.dead
theorem R.ren {h:Ag} {ρ ρ':Place} {f:Nat→Nat} (hf:∀ b x,ρ b=some x→ρ' (f b)=some x) {v:Value} {x:AV} (r:R h ρ v x):R h ρ' v (renA f x):=by
 induction r with
 | d v x hx=>exact .d v x hx
 | lsl0 base b sz off=>exact .lsl0 base (f b) sz off
 | lsl b sz off n cap g S hρ hn hc=>exact .lsl (f b) sz off n cap g S (hf _ _ hρ) hn hc
 | ptr b off g S hρ=>exact .ptr (f b) off g S (hf _ _ hρ)
 | rptr g base off cells vs h1 h2=>exact .rptr g base off cells vs h1 h2
 | mp b g S hρ=>exact .mp (f b) g S (hf _ _ hρ)
 | agg vs cells hl _ ih =>
  rw[renA,DR]
  refine .agg vs _ (by simpa using hl) (fun i v x hv hx=>?_)
  simp only[AdW] at hx
  cases hc:cells[i]? with
  | none=>simp[hc] at hx
  | some y=>simp[hc] at hx;subst hx;exact ih i v y hv hc
 | tup vs cells hl _ ih =>
  rw[renA,DR]
  refine .tup vs _ (by simpa using hl) (fun i v x hv hx=>?_)
  simp only[AdW] at hx
  cases hc:cells[i]? with
  | none=>simp[hc] at hx
  | some y=>simp[hc] at hx;subst hx;exact ih i v y hv hc
 | fn g vs us a b hl hl' _ _ ih ih' =>
  rw[renA,DR,DR]
  refine .fn g vs us _ _ (by simpa using hl) (by simpa using hl') (fun i v x hv hx=>?_) (fun i v x hv hx=>?_)
  ·simp only[AdW] at hx
   cases hc:a[i]? with
   | none=>simp[hc] at hx
   | some y=>simp[hc] at hx;subst hx;exact ih i v y hv hc
  ·simp only[AdW] at hx
   cases hc:b[i]? with
   | none=>simp[hc] at hx
   | some y=>simp[hc] at hx;subst hx;exact ih' i v y hv hc
 | undef v=>exact .undef v
theorem Ft.ren {h:Ag} {ρ ρ':Place} {w:World} {f:Nat→Nat} {i:Nat} (hf:∀ b x,ρ b=some x→ρ' (f b)=some x) (hn:ρ i=none→ρ' (f i)=none) {b:Aa} (r:Ft h ρ w i b) :
  Ft h ρ' w (f i) (renB f b):=by
 cases b with
 | dead=>trivial
 | row fz cells =>
  obtain ⟨h0,r⟩:=r
  refine ⟨h0,?_⟩
  rcases r with ⟨h1,h2⟩ | ⟨g,S,c,E,fr,h1,h2⟩
  ·exact .inl ⟨hn h1,h2⟩
  ·exact .inr ⟨g,S,c,E,fr,hf _ _ h1,h2⟩
 | box cells =>
  obtain ⟨g,S,c,E,fr,h1,h2,h3,h4,h5,h6,h7⟩:=r
  refine ⟨g,S,c,E,fr,hf _ _ h1,h2,h3,h4,by simp[DR];exact h5,fun j x v hx hv=>?_,h7⟩
  rw[DR,AdW] at hx
  cases hc:cells[j]? with
  | none=>simp[hc] at hx
  | some y=>simp[hc] at hx;subst hx;exact (h6 j y v hc hv).ren hf
 | map l =>
  obtain ⟨g,S,es,clock,h1,h2⟩:=r
  exact ⟨g,S,es,clock,hf _ _ h1,h2⟩
 | amap l =>
  obtain ⟨g,S,es,clock,h1,h2,h3,h4⟩:=r
  refine ⟨g,S,es,clock,hf _ _ h1,h2,⟨by rw[List.length_map];exact h3.1,fun i e p a b=>?_⟩,h4⟩
  rw[AdW] at b
  cases hc:l[i]? with
  | none=>simp[hc] at b
  | some y=>simp[hc] at b;subst b;exact ⟨(h3.2 i e y a hc).1,(h3.2 i e y a hc).2.ren hf⟩
 | iter s pos =>
  obtain ⟨g,S,h1,h2⟩:=r
  exact ⟨g,S,hf _ _ h1,h2⟩
 | bld T used n k =>
  obtain ⟨g,S,v,h1,h2,h3,h4⟩:=r
  exact ⟨g,S,v,hf _ _ h1,h2,h3.ren fun b x _ e=>hf b x e,h4⟩
 | buf e l =>
  rcases r with ⟨h1,h2⟩ | ⟨g,S,c,h1,h2⟩
  ·exact .inl ⟨hn h1,h2⟩
  ·exact .inr ⟨g,S,c,hf _ _ h1,h2⟩
 | ext J t=>trivial
def idx (L:List Nat) (b:Nat):Option Nat:=L.findIdx? (· == b)
theorem Gy {L:List Nat} {b k:Nat} (h:idx L b=some k):L[k]?=some b:=by
 unfold idx at h
 have:=List.findIdx?_eq_some_iff_getElem.1 h
 obtain ⟨hk,h1,_⟩:=this
 rw[AdT hk]
 simpa using h1
mutual
def passA (H:List Aa) (L:List Nat):AV→Option AV
 | .d x=>some (.d x)
 | .rptr off cs=>some (.rptr off cs)
 | .ptr b off=>match idx L b with | some k=>some (.ptr k off) | none=>none
 | .mp b=>match idx L b with | some k=>some (.mp k) | none=>none
 | .lsl b sz off n=>match idx L b with
   | some k=>some (.lsl k sz off n)
   | none=>match sealA H (.lsl b sz off n) with | some d=>some (.d d) | none=>none
 | .agg cs=>match sealA H (.agg cs) with
   | some d=>some (.d d)
   | none=>match passL H L cs with | some l=>some (.agg l) | none=>none
 | .tup cs=>match sealA H (.tup cs) with
   | some d=>some (.d d)
   | none=>match passL H L cs with | some l=>some (.tup l) | none=>none
 | .fn g a b=>match sealA H (.fn g a b) with
   | some d=>some (.d d)
   | none=>match passL H L a,passL H L b with | some l,some m=>some (.fn g l m) | _,_=>none
 | .undef=>some .undef
def passL (H:List Aa) (L:List Nat):List AV→Option (List AV)
 | []=>some []
 | x::r=>match passA H L x,passL H L r with | some y,some l=>some (y::l) | _,_=>none
end
mutual
def sidsA (H:List Aa) (L:List Nat):AV→List Nat
 | .lsl b _ _ _=>match idx L b with | some _=>[] | none=>[b]
 | .agg cs=>match sealA H (.agg cs) with | some _=>idsL cs | none=>sidsL H L cs
 | .tup cs=>match sealA H (.tup cs) with | some _=>idsL cs | none=>sidsL H L cs
 | .fn g a b=>match sealA H (.fn g a b) with | some _=>idsL a++idsL b | none=>sidsL H L a++sidsL H L b
 | .d _=>[]
 | .rptr _ _=>[]
 | .ptr _ _=>[]
 | .mp _=>[]
 | .undef=>[]
def sidsL (H:List Aa) (L:List Nat):List AV→List Nat
 | []=>[]
 | x::r=>sidsA H L x++sidsL H L r
end
theorem B5 {H:List Aa} {L:List Nat}:∀ {cs l:List AV},passL H L cs=some l→cs.length=l.length∧∀ (i:Nat) x y,cs[i]?=some x→l[i]?=some y→passA H L x=some y
 | [],l,e=>by simp[passL] at e;subst e;simp
 | x::r,l,e=>by
   simp only[passL] at e
   split at e
   ·rename_i y m hy hm
    cases e
    have ih:=B5 hm
    refine ⟨by simp[ih.1],fun i u d hu hd=>?_⟩
    cases i with
    | zero=>simp at hu hd;subst hu;subst hd;exact hy
    | succ i=>simp at hu hd;exact ih.2 i u d hu hd
   ·cases e
theorem B3 {H:List Aa} {L:List Nat} {b:Nat}:∀ {cs:List AV} {i:Nat} {x:AV},cs[i]?=some x→b∈sidsA H L x→b∈sidsL H L cs
 | [],_,_,e,_=>by simp at e
 | y::r,0,x,e,h=>by simp at e;subst e;simp[sidsL,h]
 | y::r,i+1,x,e,h=>by simp at e;simp[sidsL,B3 e h]
theorem FE {h:Ag} {ρ:Place} {H:List Aa} {L:List Nat} {ρc:Place} (hc:∀ (k b:Nat),L[k]?=some b→ρc k=ρ b) {v:Value} {x:AV} (r:R h ρ v x) :
  ∀ {y:AV},passA H L x=some y→(∀ b,b∈sidsA H L x→RR h ρ H b)→R h ρc v y:=by
 induction r with
 | d v x hx=>intro y e _;simp[passA] at e;subst e;exact .d v x hx
 | rptr g base off cells vs h1 h2=>intro y e _;simp[passA] at e;subst e;exact .rptr g base off cells vs h1 h2
 | undef v=>intro y e _;simp[passA] at e;subst e;exact .undef v
 | ptr b off g S hρ =>
  intro y e _
  simp only[passA] at e
  split at e
  ·rename_i k hk;cases e;exact .ptr k off g S (by rw[hc k b (Gy hk)];exact hρ)
  ·cases e
 | mp b g S hρ =>
  intro y e _
  simp only[passA] at e
  split at e
  ·rename_i k hk;cases e;exact .mp k g S (by rw[hc k b (Gy hk)];exact hρ)
  ·cases e
 | lsl0 base b sz off =>
  intro y e hf
  simp only[passA] at e
  split at e
  ·cases e;exact .lsl0 base _ sz off
  ·rename_i hn
   split at e
   ·rename_i d hd
    cases e
    exact .d _ _ (BU (R.lsl0 (h:=h) (ρ:=ρ) base b sz off) hd (fun c hcm=>hf c (by simp[AJ] at hcm;simp[sidsA,hn,hcm])))
   ·cases e
 | lsl b sz off n cap g S hρ hn' hcap =>
  intro y e hf
  simp only[passA] at e
  split at e
  ·rename_i k hk;cases e;exact .lsl k sz off n cap g S (by rw[hc k b (Gy hk)];exact hρ) hn' hcap
  ·rename_i hn
   split at e
   ·rename_i d hd
    cases e
    exact .d _ _ (BU (R.lsl b sz off n cap g S hρ hn' hcap) hd (fun c hcm=>hf c (by simp[AJ] at hcm;simp[sidsA,hn,hcm])))
   ·cases e
 | agg vs cells hl hrr ih =>
  intro y e hf
  simp only[passA] at e
  split at e
  ·rename_i d hd
   cases e
   exact .d _ _ (BU (R.agg vs cells hl hrr) hd (fun c hcm=>hf c (by simp[AJ] at hcm;simp[sidsA,hd,hcm])))
  ·rename_i hd
   split at e
   ·rename_i l hpl
    cases e
    have hg:=B5 hpl
    refine .agg vs l (by omega) (fun i v y hv hy=>?_)
    have hi:i<cells.length:=by have:=(AcB.1 hy).1;omega
    have hx:=AdT hi
    exact ih i v _ hv hx (hg.2 i _ y hx hy) (fun b hb=>hf b (by simp[sidsA,hd];exact B3 hx hb))
   ·cases e
 | tup vs cells hl hrr ih =>
  intro y e hf
  simp only[passA] at e
  split at e
  ·rename_i d hd
   cases e
   exact .d _ _ (BU (R.tup vs cells hl hrr) hd (fun c hcm=>hf c (by simp[AJ] at hcm;simp[sidsA,hd,hcm])))
  ·rename_i hd
   split at e
   ·rename_i l hpl
    cases e
    have hg:=B5 hpl
    refine .tup vs l (by omega) (fun i v y hv hy=>?_)
    have hi:i<cells.length:=by have:=(AcB.1 hy).1;omega
    have hx:=AdT hi
    exact ih i v _ hv hx (hg.2 i _ y hx hy) (fun b hb=>hf b (by simp[sidsA,hd];exact B3 hx hb))
   ·cases e
 | fn g vs us a b hl hl' hra hrb ih ih' =>
  intro y e hf
  simp only[passA] at e
  split at e
  ·rename_i d hd
   cases e
   exact .d _ _ (BU (R.fn g vs us a b hl hl' hra hrb) hd (fun c hcm=>hf c (by simp[AJ] at hcm;simp[sidsA,hd,hcm])))
  ·rename_i hd
   split at e
   ·rename_i l m hpl hpm
    cases e
    have hg:=B5 hpl
    have hg':=B5 hpm
    refine .fn g vs us l m (by omega) (by omega) (fun i v y hv hy=>?_) (fun i v y hv hy=>?_)
    ·have hi:i<a.length:=by have:=(AcB.1 hy).1;omega
     have hx:=AdT hi
     exact ih i v _ hv hx (hg.2 i _ y hx hy) (fun b hb=>hf b (by simp[sidsA,hd];exact .inl (B3 hx hb)))
    ·have hi:i<b.length:=by have:=(AcB.1 hy).1;omega
     have hx:=AdT hi
     exact ih' i v _ hv hx (hg'.2 i _ y hx hy) (fun b hb=>hf b (by simp[sidsA,hd];exact .inr (B3 hx hb)))
   ·cases e
def passB (H:List Aa) (L:List Nat):Aa→Option Aa
 | .dead=>none
 | .row fz cs=>some (.row fz cs)
 | .box cs=>match passL H L cs with | some l=>some (.box l) | none=>none
 | .map l=>some (.map l)
 | .amap l=>match passL H L (l.map (·.2)) with | some m=>some (.amap ((l.map (·.1)).zip m)) | none=>none
 | .iter s pos=>some (.iter s pos)
 | .bld T used n k=>match k with
   | none=>some (.bld T used n none)
   | some b=>match idx L b with | some j=>some (.bld T used n (some j)) | none=>none
 | .buf e l=>some (.buf e l)
 | .ext _ _=>none
def FSa (H:List Aa) (L:List Nat):Aa→List Nat
 | .box cs=>sidsL H L cs
 | .amap l=>sidsL H L (l.map (·.2))
 | _=>[]
def passBs (H:List Aa) (L:List Nat):List Nat→Option (List Aa)
 | []=>some []
 | b::r=>match H[b]? with
   | some blk=>match passB H L blk,passBs H L r with | some y,some l=>some (y::l) | _,_=>none
   | none=>none
def sidsBs (H:List Aa) (L:List Nat):List Nat→List Nat
 | []=>[]
 | b::r=>(match H[b]? with | some blk=>FSa H L blk | none=>[])++sidsBs H L r
theorem Cb {H:List Aa} {L:List Nat}:∀ {bs:List Nat} {l:List Aa},passBs H L bs=some l→bs.length=l.length ∧
  ∀ (k b:Nat),bs[k]?=some b→∃ blk y,H[b]?=some blk∧l[k]?=some y∧passB H L blk=some y∧∀ c,c∈FSa H L blk→c∈sidsBs H L bs
 | [],l,e=>by simp[passBs] at e;subst e;simp
 | b::r,l,e=>by
   simp only[passBs] at e
   split at e
   ·rename_i blk hb
    split at e
    ·rename_i y m hy hm
     cases e
     have ih:=Cb hm
     refine ⟨by simp[ih.1],fun k c hk=>?_⟩
     cases k with
     | zero =>
      simp at hk;subst hk
      exact ⟨blk,y,hb,rfl,hy,fun c hc=>by simp[sidsBs,hb,hc]⟩
     | succ k =>
      simp at hk
      obtain ⟨blk',y',q1,q2,q3,q4⟩:=ih.2 k c hk
      exact ⟨blk',y',q1,by simpa using q2,q3,fun d hd=>by simp[sidsBs,q4 d hd]⟩
    ·cases e
   ·cases e
end Go.Abs
namespace Go.Abs
open Go
def dedup:List Nat→List Nat
 | []=>[]
 | x::r=>if (dedup r).contains x then dedup r else x::dedup r
theorem ET:∀ l:List Nat,(dedup l).Nodup
 | []=>List.nodup_nil
 | x::r=>by
   simp only[dedup]
   split
   ·exact ET r
   ·rename_i h
    simp at h
    exact Af0.2 ⟨h,ET r⟩
mutual
def EK:AV→List Nat
 | .ptr b _=>[b]
 | .mp b=>[b]
 | .agg cs=>refsL cs
 | .tup cs=>refsL cs
 | .fn _ a b=>refsL a++refsL b
 | _=>[]
def refsL:List AV→List Nat
 | []=>[]
 | x::r=>EK x++refsL r
end
def refsIn (H:List Aa):List Nat→List Nat
 | []=>[]
 | b::r=>(match H[b]? with | some (.box cs)=>refsL cs | some (.bld _ _ _ k)=>k.toList | _=>[])++refsIn H r
def passIds (m:Bool) (H:List Aa) (avs:List AV):List Nat :=
 let l:=refsL avs++(if m then idsL avs else [])
 dedup (l++refsIn H l)
def BA:D→Bool
 | .int _ _ | .bool _ | .str _=>true
 | _=>false
def BV:D→Bool
 | .tup vs=>vs.all BA
 | .agg vs=>vs.all BA
 | x=>BA x
theorem Lb {h h':Ag} {v:Value} {x:D} (r:RD h v x) (e:BA x=true):RD h' v x:=by
 cases r<;>first | (simp[BA] at e;done) | constructor
theorem Sc {h h':Ag} {v:Value} {x:D} (r:RD h v x) (e:BV x=true):RD h' v x:=by
 cases r with
 | agg vs cells hl hr=>exact .agg vs cells hl (fun i v x a b=>Lb (hr i v x a b) (Ae1.1 e x (AdZ b)))
 | tup vs cells hl hr=>exact .tup vs cells hl (fun i v x a b=>Lb (hr i v x a b) (Ae1.1 e x (AdZ b)))
 | int=>exact .int _ _
 | bool=>exact .bool _
 | str=>exact .str _
 | _=>simp[BV,BA] at e
def outN (L:List Nat) (base k:Nat):Nat:=match L[k]? with | some b=>b | none=>base+(k-L.length)
def outW (L:List Nat) (base:Nat):Nat→List Aa→List (Nat × Aa)
 | _,[]=>[]
 | k,b::r=>(outN L base k,renB (outN L base) b)::outW L base (k+1) r
def BS:AV→Bool
 | .d x=>BV x
 | _=>false
def callEff (H:List Aa) (L ids:List Nat) (res:AV) (Hn:List Aa):Eff :=
 if L.isEmpty && Hn.isEmpty && BS res then ⟨res,[],ids⟩
 else ⟨renA (outN L H.length) res,frz H ids++outW L H.length 0 Hn,L++ids++(outW L H.length 0 Hn).map (·.1)⟩
def dropW (ks:List Nat):List (Nat × Aa)→List (Nat × Aa)
 | []=>[]
 | p::r=>if ks.contains p.1 then dropW ks r else p::dropW ks r
def dropE (ks:List Nat) (e:Eff):Eff:=⟨e.res,dropW ks e.w,e.r⟩
def Sz (H:List Aa) (ks:List Nat) (e:Eff):Prop:=ks=[]∨((e.w.map (·.1)).Nodup∧∀ p,p∈e.w→ks.contains p.1=true→H[p.1]?=some p.2)
theorem NA:∀ w:List (Nat × Aa),dropW [] w=w
 | []=>rfl
 | p::r=>by simp[dropW,NA r]
theorem G7 (e:Eff):dropE [] e=e:=by simp[dropE,NA]
theorem Hv (ks:List Nat):∀ (w:List (Nat × Aa)) (H:AX),(w.map (·.1)).Nodup→(∀ p,p∈w→ks.contains p.1=true→H p.1=some p.2)→Aj H (dropW ks w)=Aj H w
 | [],_,_,_=>rfl
 | (i,b)::r,H,hn,hs=>by
   simp only[AfN,Af0] at hn
   have h2:∀ p,p∈r→ks.contains p.1=true→(fun j=>if j=i then some b else H j) p.1=some p.2:=fun p hp hc=>by
    have hne:p.1≠i:=fun e=>hn.1 (e▸Ae2 hp)
    simp only[if_neg hne]
    exact hs p (Agf _ hp) hc
   simp only[dropW]
   split
   ·rename_i hc
    have e:(fun j=>if j=i then some b else H j)=H:=by
     funext j
     by_cases hj:j=i
     ·subst hj;simp only[if_true];exact (hs (j,b) (by simp) hc).symm
     ·simp only[if_neg hj]
    rw[Aj,e]
    exact Hv ks r H hn.2 (fun p hp hc=>hs p (Agf _ hp) hc)
   ·rw[Aj,Aj]
    exact Hv ks r _ hn.2 h2
theorem Ah.drop {P:Program} {G:Ad} {o:Oper} {ev:Operand→AV} {H:List Aa} {e:Eff} {ks:List Nat} (h:Ah P G o ev (hp H) e) (hr:∀ p,p∈e.w→p.1∈e.r) (hk:Sz H ks e):Ah P G o ev (hp H) (dropE ks e):=by
 rcases hk with rfl | ⟨hn,hs⟩
 ·rw[G7];exact h
 ·intro hh ρ H' a w s ops hag
  have:=h hh ρ H' a w s ops hag
  have e1:Aj H' (dropE ks e).w=Aj H' e.w:=Hv ks e.w H' hn (fun p hp hc=>(hag p.1 (hr p hp)).trans (hs p hp hc))
  rw[e1]
  exact this
def unfA:AV→AV
 | .d x=>.d (unf x)
 | x=>x
theorem RL.unfA {h:Ag} {ρ:Place} {vs:Array Value} {xs:List AV} (m:Bool) (r:RL h ρ vs xs):RL h ρ vs (if m then xs else xs.map unfA):=by
 cases m with
 | true=>exact r
 | false =>
  refine ⟨by simpa using r.1,fun i v x hv hx=>?_⟩
  simp only[AdX,if_false,AdW] at hx
  cases hc:xs[i]? with
  | none=>simp[hc] at hx
  | some y =>
   simp[hc] at hx;subst hx
   have:=r.2 i v y hv hc
   cases this with
   | d _ _ hd=>exact .d _ _ hd.unf
   | lsl0=>exact .lsl0 _ _ _ _
   | lsl b sz off n cap g S a b c=>exact .lsl _ _ _ _ cap g S a b c
   | ptr b off g S a=>exact .ptr _ _ g S a
   | rptr g base off cells vs a b=>exact .rptr g base off cells vs a b
   | mp b g S a=>exact .mp _ g S a
   | agg vs cells a b=>exact .agg vs cells a b
   | tup vs cells a b=>exact .tup vs cells a b
   | fn f vs us a b c d e g=>exact .fn f vs us a b c d e g
   | undef=>exact .undef _
def OV (P:Program) (G:Ad) (m:Bool) (H:List Aa) (L:List Nat) (f:FuncId) (avs:List AV) (k:Eff→Prop):Prop :=
 let ids:=sidsL H L avs++sidsBs H L L
 match passL H L avs,passBs H L L with
 | some ars,some HC=>(ids.all fun b=>!L.contains b)=true∧∃ res Hn ks,Ctr P G f (if m then ars else ars.map unfA) HC res Hn∧L.length≤Hn.length∧Sz H ks (callEff H L ids res Hn)∧k (dropE ks (callEff H L ids res Hn))
 | _,_=>False
def Xm (P:Program) (G:Ad) (M:FuncId→Bool) (H:List Aa) (f:FuncId) (avs:List AV) (k:Eff→Prop):Prop :=
 OV P G (M f) H (passIds (M f) H avs) f avs k
theorem Lv (L:List Nat) (base:Nat):∀ (l:List Aa) (k:Nat) (p:Nat × Aa),p∈outW L base k l→∃ j b,l[j]?=some b∧p=(outN L base (k+j),renB (outN L base) b)
 | [],_,_,h=>by simp[outW] at h
 | b::r,k,p,h=>by
   rcases AfW.1 h with rfl | h
   ·exact ⟨0,b,rfl,rfl⟩
   ·obtain ⟨j,c,h1,h2⟩:=Lv L base r (k+1) p h
    exact ⟨j+1,c,by simpa using h1,by rw[h2];congr 2;omega⟩
theorem Im (H:AX):∀ (a:List (Nat × Aa)) (i:Nat) (b:Aa),(a.map (·.1)).Nodup→(i,b)∈a→Aj H a i=some b
 | [],_,_,_,h=>by simp at h
 | (j,y)::r,i,b,hn,h=>by
   simp only[AfN,Af0] at hn
   rcases AfW.1 h with e | h
   ·simp only[Prod.mk.injEq] at e
    obtain ⟨e1,e2⟩:=e
    rw[Aj,Av _ r i (fun p hp e'=>hn.1 (by rw[←e1,←e'];exact Ae2 hp))]
    simp[e1,e2]
   ·rw[Aj]
    exact Im _ r i b hn.2 h
section
variable {P:Program} {G:Ad}
theorem Fi {L:List Nat} (hL:L.Nodup) {i j b:Nat} (h1:L[i]?=some b) (h2:L[j]?=some b):i=j:=by
 obtain ⟨q1,q2⟩:=AcB.1 h1
 obtain ⟨q3,q4⟩:=AcB.1 h2
 have hp:=List.pairwise_iff_getElem.1 hL
 rcases Nat.lt_trichotomy i j with h | h | h
 ·exact absurd (q2.trans q4.symm) (hp i j q1 q3 h)
 ·exact h
 ·exact absurd (q4.trans q2.symm) (hp j i q3 q1 h)
theorem PR {L:List Nat} {base:Nat} (hL:L.Nodup) (hlt:∀ b,b∈L→b<base) {i j:Nat} (h:outN L base i=outN L base j):i=j:=by
 unfold outN at h
 split at h<;>rename_i a ha<;>split at h<;>rename_i b hb
 ·subst h
  exact Fi hL ha hb
 ·have:=hlt a (AdZ ha);omega
 ·have:=hlt b (AdZ hb);omega
 ·rw[AfR] at ha hb;omega
theorem Lt {L:List Nat} {base:Nat} (hL:L.Nodup) (hlt:∀ b,b∈L→b<base):∀ (l:List Aa) (k:Nat),((outW L base k l).map (·.1)).Nodup
 | [],k=>by simp[outW]
 | b::r,k=>by
   simp only[outW,AfN,Af0]
   refine ⟨?_,Lt hL hlt r (k+1)⟩
   intro hm
   obtain ⟨p,hp,e⟩:=AfS.1 hm
   obtain ⟨j,c,h1,h2⟩:=Lv L base r (k+1) p hp
   rw[h2] at e
   have:=PR hL hlt e
   omega
theorem Lu (L:List Nat) (base:Nat):∀ (l:List Aa) (k j:Nat) (b:Aa),l[j]?=some b→(outN L base (k+j),renB (outN L base) b)∈outW L base k l
 | [],_,_,_,h=>by simp at h
 | c::r,k,0,b,h=>by simp at h;subst h;simp[outW]
 | c::r,k,j+1,b,h=>by
   simp at h
   have:=Lu L base r (k+1) j b h
   rw[show k+1+j=k+(j+1) by omega] at this
   simp[outW,this]
theorem Vj {m:Bool} {H:List Aa} {f:FuncId} {L ids:List Nat} {avs ars:List AV} {HC Hn:List Aa} {res:AV} (hL:L.Nodup) (hids:∀ b,b∈ids→b∉L)
  (hpa:passL H L avs=some ars) (hpb:passBs H L L=some HC) (hs1:∀ b,b∈sidsL H L avs→b∈ids) (hs2:∀ b,b∈sidsBs H L L→b∈ids) (spec:Ctr P G f (if m then ars else ars.map unfA) HC res Hn) (hlen:L.length≤Hn.length)
  {h:Ag} {ρ:Place} {H':AX} {w:World} {vs:Array Value} (hs:Sim G h ρ H' w) (hvs:RL h ρ vs avs)
  (hr:∀ b,b∈L++ids++(outW L H.length 0 Hn).map (·.1)→H' b=hp H b) :
  Calls P f vs w (fun e w'=>∃ v h' ρ',e=.returned v∧Sim G h' ρ' (Aj H' (frz H ids++outW L H.length 0 Hn)) w'∧R h' ρ' v (renA (outN L H.length) res)∧AU h ρ w h' ρ' w'):=by
 obtain ⟨h1,s1,t1,f1⟩:=BF H ids h H' hs (fun b hb=>.inl (hr b (by simp[hb])))
 have hLH:∀ b,b∈L→Aj H' (frz H ids) b=H[b]?:=fun b hb=>by
  rw[Av _ _ b (fun q hq e=>hids b (e▸BC hq) hb)]
  exact hr b (by simp[hb])
 have hLlt:∀ b,b∈L→b<H.length:=by
  intro b hb
  obtain ⟨k,hk,rfl⟩:=Af2 hb
  obtain ⟨blk,y,q1,_⟩:=(Cb hpb).2 k _ (AdT hk)
  exact (AcB.1 q1).1
 let ρc:Place:=fun k=>(L[k]?).bind ρ
 have hρc:∀ (k b:Nat),L[k]?=some b→ρc k=ρ b:=fun k b e=>by simp[ρc,e]
 have hρc':∀ k x,ρc k=some x→∃ b,L[k]?=some b∧ρ b=some x:=by
  intro k x e
  simp only[ρc] at e
  cases hk:L[k]? with
  | none=>simp[hk] at e
  | some b=>simp[hk] at e;exact ⟨b,rfl,e⟩
 have hHClen:L.length=HC.length:=(Cb hpb).1
 have liveL:∀ (k b:Nat),L[k]?=some b→Bk (Aj H' (frz H ids)) b:=by
  intro k b hk
  obtain ⟨blk,y,q1,q2,q3,_⟩:=(Cb hpb).2 k b hk
  refine ⟨blk,by rw[hLH b (AdZ hk)];exact q1,?_⟩
  rintro rfl
  simp[passB] at q3
 have sc:Sim G h1 ρc (hp HC) w:=by
  refine ⟨s1.prom,s1.glob,?_,?_,?_⟩
  ·intro k y hy
   have hk:k<L.length:=by
    have:=(AcB.1 hy).1
    omega
   have hLk:=AdT hk
   obtain ⟨blk,y',q1,q2,q3,q4⟩:=(Cb hpb).2 k _ hLk
   have:some y=some y':=hy.symm.trans q2
   cases this
   have hb:=s1.blk L[k] blk (by rw[hLH _ (List.getElem_mem hk)];exact q1)
   have hρk:ρc k=ρ L[k]:=hρc k _ hLk
   cases blk with
   | dead=>simp[passB] at q3
   | row fz cs =>
    simp[passB] at q3;subst q3
    obtain ⟨b0,b1⟩:=hb
    refine ⟨b0,?_⟩
    rw[hρk]
    exact b1
   | box cs =>
    simp only[passB] at q3
    split at q3
    ·rename_i l hl
     cases q3
     obtain ⟨g,S,c,E,fr,b1,b2,b3,b4,b5,b6,b7⟩:=hb
     have hg:=B5 hl
     refine ⟨g,S,c,E,fr,hρk.trans b1,b2,b3,b4,by omega,fun j x v hx hv=>?_,b7⟩
     have hj:j<cs.length:=by have:=(AcB.1 hx).1;omega
     have hcj:=AdT hj
     exact FE hρc (b6 j _ v hcj hv) (hg.2 j _ x hcj hx) (fun b hb=>f1 b (hs2 b (q4 b (B3 hcj hb))))
    ·cases q3
   | map l =>
    simp[passB] at q3;subst q3
    obtain ⟨g,S,es,clock,b1,b2⟩:=hb
    exact ⟨g,S,es,clock,hρk.trans b1,b2⟩
   | amap l =>
    simp only[passB] at q3
    split at q3
    ·rename_i m hm
     cases q3
     obtain ⟨g,S,es,clock,b1,b2,b3,b4⟩:=hb
     have hg:=B5 hm
     have hml:m.length=l.length:=by have:=hg.1;simp at this;omega
     refine ⟨g,S,es,clock,hρk.trans b1,b2,⟨by simp[hml];exact b3.1,fun i e p a b=>?_⟩,b4⟩
     rw[Afw] at b
     obtain ⟨c1,c2⟩:=b
     rw[AdW] at c1
     cases hc:l[i]? with
     | none=>simp[hc] at c1
     | some q =>
      simp[hc] at c1
      have hcj:(l.map (·.2))[i]?=some q.2:=by simp[hc]
      obtain ⟨d1,d2⟩:=b3.2 i e q a hc
      exact ⟨by rw[←c1];exact d1,FE hρc d2 (hg.2 i _ p.2 hcj c2) (fun b hb=>f1 b (hs2 b (q4 b (B3 hcj hb))))⟩
    ·cases q3
   | iter s pos =>
    simp[passB] at q3;subst q3
    obtain ⟨g,S,b1,b2⟩:=hb
    exact ⟨g,S,hρk.trans b1,b2⟩
   | bld T used n k =>
    obtain ⟨g,S,v,b1,b2,b3,b4⟩:=hb
    cases k with
    | none =>
     simp[passB] at q3;subst q3
     exact ⟨g,S,v,hρk.trans b1,b2,b3,b4⟩
    | some kb =>
     simp only[passB] at q3
     split at q3
     ·rename_i j hj
      cases q3
      rcases b3 with b3 | ⟨g2,cap,e1,e2,e3⟩
      ·exact ⟨g,S,v,hρk.trans b1,b2,.inl b3,b4⟩
      ·exact ⟨g,S,v,hρk.trans b1,b2,.inr ⟨g2,cap,e1,(hρc j _ (Gy hj)).trans e2,e3⟩,b4⟩
     ·cases q3
   | buf e l =>
    simp[passB] at q3;subst q3
    rcases hb with ⟨b1,b2⟩ | ⟨g,S,c,b1,b2⟩
    ·exact .inl ⟨hρk.trans b1,b2⟩
    ·exact .inr ⟨g,S,c,hρk.trans b1,b2⟩
   | ext J t=>simp[passB] at q3
  ·intro k g S e
   obtain ⟨b,hb,hρ⟩:=hρc' k _ e
   refine ⟨(s1.dom b g S hρ).1,?_⟩
   have hk:k<HC.length:=by have:=(AcB.1 hb).1;omega
   exact ⟨HC[k],AdT hk⟩
  ·intro i j g S S' e1 e2 l1 l2
   obtain ⟨b,hb,hρ⟩:=hρc' i _ e1
   obtain ⟨c,hc,hρ'⟩:=hρc' j _ e2
   have hbc:=s1.inj b c g S S' hρ hρ' (liveL i b hb) (liveL j c hc)
   subst hbc
   exact Fi hL hb hc
 have hga:=B5 hpa
 have hvs':RL h1 ρc vs ars:=by
  refine ⟨by have:=hvs.1;omega,fun i v y hv hy=>?_⟩
  have hi:i<avs.length:=by have:=(AcB.1 hy).1;omega
  have hx:=AdT hi
  exact FE hρc ((hvs.2 i v _ hv hx).mono t1.mono (Place.le_refl _)) (hga.2 i _ y hx hy) (fun b hb=>f1 b (hs1 b (B3 hx hb)))
 refine (spec.2 h1 ρc w vs sc (hvs'.unfA m)).mono ?_
 rintro e w' ⟨v,h',ρ',rfl,s',r',t'⟩
 let base:=H.length
 let fN:=outN L base
 let ρ2:Place:=fun i=>match (Ad1 Hn.length).find? (fun k=>fN k == i) with | some k=>ρ' k | none=>ρ i
 have inj:∀ {i j:Nat},fN i=fN j→i=j:=fun h=>PR hL hLlt h
 have hin:∀ k,k<Hn.length→ρ2 (fN k)=ρ' k:=by
  intro k hk
  have:(Ad1 Hn.length).find? (fun j=>fN j == fN k)=some k:=by
   rw[Af7]
   refine ⟨by simp,by simpa using hk,fun j hj=>?_⟩
   simp
   intro e
   have:=inj e
   omega
  simp only[ρ2,this]
 have hout:∀ i,(∀ k,k<Hn.length→fN k≠i)→ρ2 i=ρ i:=by
  intro i hi
  have:(Ad1 Hn.length).find? (fun j=>fN j == i)=none:=by
   rw[Agk]
   intro k hk
   simp at hk ⊢
   exact hi k hk
  simp only[ρ2,this]
 have cases2:∀ i,(∃ k,k<Hn.length∧fN k=i)∨(∀ k,k<Hn.length→fN k≠i):=by
  intro i
  by_cases h:∃ k,k<Hn.length∧fN k=i
  ·exact .inl h
  ·exact .inr (fun k hk e=>h ⟨k,hk,e⟩)
 have hdom':∀ k x,ρ' k=some x→k<Hn.length:=by
  intro k x e
  obtain ⟨_,b,hb⟩:=s'.dom k x.1 x.2 e
  exact (AcB.1 hb).1
 have hf:∀ b x,ρ' b=some x→ρ2 (fN b)=some x:=fun b x e=>by rw[hin b (hdom' b x e)];exact e
 have fNL:∀ (k b:Nat),L[k]?=some b→fN k=b:=fun k b e=>by simp[fN,outN,e]
 have fNnew:∀ k,L.length≤k→fN k=base+(k-L.length):=fun k hk=>by
  have:L[k]?=none:=AfR.2 hk
  simp[fN,outN,this]
 have hnew:∀ k,L.length≤k→k<Hn.length→H' (fN k)=none:=by
  intro k hk hlt
  have hmem:fN k∈(outW L H.length 0 Hn).map (·.1):=by
   have:=Lu L H.length Hn 0 k _ (AdT hlt)
   rw[AfJ] at this
   exact Ae2 (f:=Prod.fst) this
  rw[hr _ (by simp only[Aga];exact .inr hmem),fNnew k hk]
  simp[hp,base]
 have hρnew:∀ k,L.length≤k→k<Hn.length→ρ (fN k)=none:=by
  intro k hk hlt
  cases e:ρ (fN k) with
  | none=>rfl
  | some x=>obtain ⟨_,b,hb⟩:=hs.dom _ x.1 x.2 e;rw[hnew k hk hlt] at hb;cases hb
 have hmono:ρ.le ρ2:=by
  intro i x e
  rcases cases2 i with ⟨k,hk,rfl⟩ | hi
  ·rw[hin k hk]
   by_cases hkl:k<L.length
   ·have hLk:=AdT hkl
    rw[fNL k _ hLk] at e
    exact t'.rmono k x ((hρc k _ hLk).trans e)
   ·rw[hρnew k (by omega) hk] at e;cases e
  ·rw[hout i hi];exact e
 have hHat:∀ (k:Nat) (b:Aa),Hn[k]?=some b→Aj H' (frz H ids++outW L H.length 0 Hn) (fN k)=some (renB fN b):=by
  intro k b hb
  rw[Ch]
  refine Im _ _ _ _ (Lt hL hLlt Hn 0) ?_
  have:=Lu L H.length Hn 0 k b hb
  rwa[AfJ] at this
 have hHother:∀ i,(∀ k,k<Hn.length→fN k≠i)→Aj H' (frz H ids++outW L H.length 0 Hn) i=Aj H' (frz H ids) i:=by
  intro i hi
  rw[Ch]
  refine Av _ _ i (fun p hp e=>?_)
  obtain ⟨j,b,q1,q2⟩:=Lv L H.length Hn 0 p hp
  rw[q2] at e
  simp only[AfJ] at e
  exact hi j (AcB.1 q1).1 e
 have notc:∀ g,(∀ i S,ρ i≠some (g,S))→∀ i S,ρc i≠some (g,S):=by
  intro g hg i S e
  obtain ⟨b,_,hb⟩:=hρc' i _ e
  exact hg b S hb
 have liveOther:∀ i,(∀ k,k<Hn.length→fN k≠i)→Bk (Aj H' (frz H ids)) i→∀ g S,ρ i=some (g,S)→∀ j S',ρc j≠some (g,S'):=by
  intro i hi hl g S hg j S' e
  obtain ⟨b,hb,hρb⟩:=hρc' j _ e
  have:=s1.inj i b g S S' hg hρb hl (liveL j b hb)
  subst this
  have hj:j<L.length:=(AcB.1 hb).1
  exact hi j (by omega) (fNL j i hb)
 have hrn:∀ i g S,ρ2 i=some (g,S)→(∃ j S',ρ j=some (g,S'))∨w.heap.size≤g:=by
  intro i g S e
  rcases cases2 i with ⟨k,hk,rfl⟩ | hi
  ·rw[hin k hk] at e
   rcases t'.rnew k g S e with ⟨j,S',hj⟩ | hge
   ·obtain ⟨b,_,hb⟩:=hρc' j _ hj
    exact .inl ⟨b,S',hb⟩
   ·exact .inr hge
  ·rw[hout i hi] at e
   exact .inl ⟨i,S,e⟩
 have st:AU h1 ρ w h' ρ2 w':=⟨t'.os,t'.tape,t'.output,t'.size,fun k hk hn=>t'.keep k hk (notc k hn),t'.mono,fun k hk hn=>t'.new k hk (notc k hn),hmono,hrn⟩
 refine ⟨v,h',ρ2,rfl,⟨s'.prom,s'.glob,?_,?_,?_⟩,r'.ren hf,t1.trans st⟩
 ·intro i b hb
  rcases cases2 i with ⟨k,hk,rfl⟩ | hi
  ·rw[hHat k _ (AdT hk)] at hb
   cases hb
   exact (s'.blk k _ (AdT hk)).ren hf (fun hn=>(hin k hk).trans hn)
  ·rw[hHother i hi] at hb
   by_cases hd:b=.dead
   ·subst hd;trivial
   ·refine (s1.blk i b hb).frame st.n s'.prom t'.mono hmono (fun g S hg=>?_) (fun hn=>(hout i hi).trans hn)
    have hnc:=liveOther i hi ⟨b,hb,hd⟩ g S hg
    have hlt:=(s1.dom i g S hg).1
    exact ⟨t'.keep g hlt hnc,t'.new g hlt hnc⟩
 ·intro i g S e
  rcases cases2 i with ⟨k,hk,rfl⟩ | hi
  ·rw[hin k hk] at e
   exact ⟨(s'.dom k g S e).1,_,hHat k _ (AdT hk)⟩
  ·rw[hout i hi] at e
   obtain ⟨q1,b,q2⟩:=s1.dom i g S e
   exact ⟨by have:=t'.size;omega,b,by rw[hHother i hi];exact q2⟩
 ·intro i j g S1 S2 e1 e2 l1 l2
  have lv:∀ k,k<Hn.length→Bk (Aj H' (frz H ids++outW L H.length 0 Hn)) (fN k)→Bk (hp Hn) k:=by
   rintro k hk ⟨b,q1,q2⟩
   rw[hHat k _ (AdT hk)] at q1
   cases q1
   refine ⟨Hn[k],AdT hk,fun e=>q2 (by rw[e];rfl)⟩
  have lv':∀ i,(∀ k,k<Hn.length→fN k≠i)→Bk (Aj H' (frz H ids++outW L H.length 0 Hn)) i→Bk (Aj H' (frz H ids)) i:=by
   rintro i hi ⟨b,q1,q2⟩
   exact ⟨b,by rw[←hHother i hi];exact q1,q2⟩
  have mixed:∀ k,k<Hn.length→∀ i,(∀ k,k<Hn.length→fN k≠i)→Bk (Aj H' (frz H ids)) i→∀ S S',ρ' k=some (g,S)→ρ i=some (g,S')→False:=by
   intro k hk i hi hl S S' e1 e2
   rcases t'.rnew k g S e1 with ⟨j,S'',hj⟩ | hge
   ·exact liveOther i hi hl g S' e2 j S'' hj
   ·have:=(s1.dom i g S' e2).1;omega
  rcases cases2 i with ⟨k,hk,rfl⟩ | hi<;>rcases cases2 j with ⟨k',hk',rfl⟩ | hj
  ·rw[hin k hk] at e1
   rw[hin k' hk'] at e2
   rw[s'.inj k k' g S1 S2 e1 e2 (lv k hk l1) (lv k' hk' l2)]
  ·rw[hin k hk] at e1
   rw[hout j hj] at e2
   exact (mixed k hk j hj (lv' j hj l2) S1 S2 e1 e2).elim
  ·rw[hout i hi] at e1
   rw[hin k' hk'] at e2
   exact (mixed k' hk' i hi (lv' i hi l1) S2 S1 e2 e1).elim
  ·rw[hout i hi] at e1
   rw[hout j hj] at e2
   exact s1.inj i j g S1 S2 e1 e2 (lv' i hi l1) (lv' j hj l2)
theorem SU {m:Bool} {H:List Aa} {f:FuncId} {ids:List Nat} {avs ars:List AV} {d:D} (hsc:BV d=true)
  (hpa:passL H [] avs=some ars) (hs1:∀ b,b∈sidsL H [] avs→b∈ids) (spec:Ctr P G f (if m then ars else ars.map unfA) [] (.d d) [])
  {h:Ag} {ρ:Place} {H':AX} {w:World} {vs:Array Value} (hs:Sim G h ρ H' w) (hvs:RL h ρ vs avs) (hr:∀ b,b∈ids→H' b=hp H b) :
  Calls P f vs w (fun e w'=>∃ v h' ρ',e=.returned v∧Sim G h' ρ' H' w'∧R h' ρ' v (.d d)∧AU h ρ w h' ρ' w'):=by
 obtain ⟨h1,s1,t1,f1⟩:=BF H ids h H' hs (fun b hb=>.inl (hr b hb))
 have sc:Sim G h1 (fun _=>none) (hp []) w:=⟨s1.prom,s1.glob,fun i b e=>by simp[hp] at e,(fun i g S e=>by cases e),(fun i j g S S' e=>by cases e)⟩
 have hga:=B5 hpa
 have hvs':RL h1 (fun _=>none) vs ars:=by
  refine ⟨by have:=hvs.1;omega,fun i v y hv hy=>?_⟩
  have hi:i<avs.length:=by have:=(AcB.1 hy).1;omega
  have hx:=AdT hi
  exact FE (ρ:=ρ) (L:=[]) (fun k b e=>by simp at e) ((hvs.2 i v _ hv hx).mono t1.mono (Place.le_refl _)) (hga.2 i _ y hx hy) (fun b hb=>f1 b (hs1 b (B3 hx hb)))
 refine (spec.2 h1 _ w vs sc (hvs'.unfA m)).mono ?_
 rintro e w' ⟨v,h',ρ',rfl,s',r',t'⟩
 have keep:∀ g,g<w.heap.size→w'.heap[g]?=w.heap[g]?:=fun g hg=>t'.keep g hg (fun i S e=>by cases e)
 have st:AU h ρ w h ρ w':=⟨t'.os,t'.tape,t'.output,t'.size,fun k hk _=>keep k hk,Ag.le_refl _,fun _ _ _ _=>rfl,Place.le_refl _,fun i _ S e=>.inl ⟨i,S,e⟩⟩
 have hpr:∀ b o v,h b o=some v→w'.cell? ⟨b,o,none⟩=some v:=by
  intro b o v e
  have hlt:=hs.held_lt e
  rw[←hs.prom b o v e]
  simp[World.cell?,keep b hlt]
 refine ⟨v,h,ρ,rfl,⟨hpr,hs.glob,fun i b e=>(hs.blk i b e).frame st.n hpr (Ag.le_refl _) (Place.le_refl _) (fun g S hg=>⟨keep g (hs.dom i g S hg).1,fun _=>rfl⟩) id,fun i g S e=>⟨by have:=(hs.dom i g S e).1;have:=t'.size;omega,(hs.dom i g S e).2⟩,hs.inj⟩,?_,st⟩
 ·cases r' with
  | d _ _ hd=>exact .d _ _ (Sc hd hsc)
def AfK (L:List Nat) (v:Value) (x y:AV):Prop :=
 y=.d (.val v)∨(∃ d,x=.d d∧y=.d d)∨(∃ b sz off n j,x=.lsl b sz off n∧y=.lsl j sz off n∧L[j]?=some b)∨∃ b j,x=.mp b∧y=.mp j∧L[j]?=some b
def EY (L:List Nat) (e:Nat→Nat→Value) (k:Nat):Aa→Aa→Prop
 | .row fz cs,.row fz' cs'=>fz=fz'∧cs=cs'
 | .map l,.map l'=>l=l'
 | .box cs,.box cs'=>cs.length=cs'.length∧∀ (i:Nat) x y,cs[i]?=some x→cs'[i]?=some y→AfK L (e k i) x y
 | _,_=>False
def ArgV (H:List Aa) (L:List Nat) (x y:AV):Prop:=(∃ d,sealA H x=some d∧AJ x=[]∧(y=.d d∨y=.d (unf d)))∨∃ b off j,x=.ptr b off∧y=.ptr j off∧L[j]?=some b
def Ms (H:List Aa) (L:List Nat):List AV→List AV→Prop
 | [],[]=>True
 | x::r,y::r2=>ArgV H L x y∧Ms H L r r2
 | _,_=>False
theorem N6 {H:List Aa} {L:List Nat}:∀ {xs ys:List AV},Ms H L xs ys→xs.length=ys.length∧∀ (i:Nat) x y,xs[i]?=some x→ys[i]?=some y→ArgV H L x y
 | [],[],_=>by simp
 | x::r,y::r2,h=>by
   obtain ⟨h1,h2⟩:=h
   have ih:=N6 h2
   refine ⟨by simp[ih.1],fun i u v hu hv=>?_⟩
   cases i with
   | zero=>simp at hu hv;subst hu;subst hv;exact h1
   | succ i=>simp at hu hv;exact ih.2 i u v hu hv
 | [],_::_,h=>by simp[Ms] at h
 | _::_,[],h=>by simp[Ms] at h
theorem Vi {H:List Aa} {f:FuncId} {L:List Nat} {avs ars:List AV} {HS:(Nat→Nat→Value)→List Aa} {d:D} (hL:L.Nodup) (hlen:∀ e,(HS e).length=L.length)
  (hview:∀ e (k b:Nat),L[k]?=some b→∃ B C,H[b]?=some B∧(HS e)[k]?=some C∧EY L e k B C) (hargs:Ms H L avs ars) (spec:∀ e,Ctr P G f ars (HS e) (.d d) (HS e))
  {h:Ag} {ρ:Place} {H':AX} {w:World} {vs:Array Value} (hs:Sim G h ρ H' w) (hvs:RL h ρ vs avs) (hr:∀ b,b∈L→H' b=hp H b) :
  Calls P f vs w (fun e w'=>∃ v h' ρ',e=.returned v∧Sim G h' ρ' H' w'∧R h' ρ' v (.d d)∧AU h ρ w h' ρ' w'):=by
 let ρc:Place:=fun k=>(L[k]?).bind ρ
 let e0:Nat→Nat→Value:=fun k i=>match ρc k with
  | some x=>match w.heap[x.1]? with
    | some (.cells c _ _)=>(c[i]?).getD .nilFunc
    | _=>.nilFunc
  | none=>.nilFunc
 have hρc:∀ (k b:Nat),L[k]?=some b→ρc k=ρ b:=fun k b e=>by simp[ρc,e]
 have hρc':∀ k x,ρc k=some x→∃ b,L[k]?=some b∧ρ b=some x:=by
  intro k x e
  simp only[ρc] at e
  cases hk:L[k]? with
  | none=>simp[hk] at e
  | some b=>simp[hk] at e;exact ⟨b,rfl,e⟩
 have hHb:∀ (k b:Nat),L[k]?=some b→∃ B C,H' b=some B∧(HS e0)[k]?=some C∧EY L e0 k B C:=by
  intro k b hk
  obtain ⟨B,C,v1,v2,v3⟩:=hview e0 k b hk
  exact ⟨B,C,by rw[hr b (AdZ hk)];exact v1,v2,v3⟩
 have liveL:∀ (k b:Nat),L[k]?=some b→Bk H' b:=by
  intro k b hk
  obtain ⟨B,C,v1,_,v3⟩:=hHb k b hk
  refine ⟨B,v1,?_⟩
  rintro rfl
  simp[EY] at v3
 have cellE:∀ (k g S:Nat) (c:Array Value) (E:TypeId) (fr:Nat × Nat) (i:Nat) v,ρc k=some (g,S)→w.heap[g]?=some (.cells c E fr)→c[i]?=some v→e0 k i=v:=by
  intro k g S c E fr i v h1 h2 h3
  simp only[e0,h1,h2,h3,AfV]
 have sc:Sim G h ρc (hp (HS e0)) w:=by
  refine ⟨hs.prom,hs.glob,?_,?_,?_⟩
  ·intro k y hy
   have hk:k<L.length:=by
    have:=(AcB.1 hy).1
    rw[hlen] at this;exact this
   have hLk:=AdT hk
   obtain ⟨B,C,v1,v2,v3⟩:=hHb k _ hLk
   have:some y=some C:=hy.symm.trans v2
   cases this
   have hb:=hs.blk L[k] B v1
   have hρk:ρc k=ρ L[k]:=hρc k _ hLk
   cases B with
   | row fz cs =>
    cases y with
    | row fz' cs' =>
     obtain ⟨rfl,rfl⟩:=v3
     obtain ⟨b0,b1⟩:=hb
     refine ⟨b0,?_⟩
     rw[hρk]
     exact b1
    | _=>simp[EY] at v3
   | map l =>
    cases y with
    | map l' =>
     have:l=l':=v3
     subst this
     obtain ⟨g,S,es,clock,b1,b2⟩:=hb
     exact ⟨g,S,es,clock,hρk.trans b1,b2⟩
    | _=>simp[EY] at v3
   | box cs =>
    cases y with
    | box cs' =>
     obtain ⟨c1,c2⟩:=v3
     obtain ⟨g,S,c,E,fr,b1,b2,b3,b4,b5,b6,b7⟩:=hb
     refine ⟨g,S,c,E,fr,hρk.trans b1,b2,b3,b4,by omega,fun j x v hx hv=>?_,b7⟩
     have hj:j<cs.length:=by have:=(AcB.1 hx).1;omega
     have hcj:=AdT hj
     have hc:=c2 j _ x hcj hx
     rw[cellE k g S c E fr j v (hρk.trans b1) b2 hv] at hc
     have hR:=b6 j _ v hcj hv
     rcases hc with rfl | ⟨d,e1,rfl⟩ | ⟨b,sz,off,n,q,e1,rfl,e3⟩ | ⟨b,q,e1,rfl,e3⟩
     ·exact .d _ _ (.val v)
     ·rw[e1] at hR
      cases hR with | d _ _ hd=>exact .d _ _ hd
     ·rw[e1] at hR
      cases hR with
      | lsl0=>exact .lsl0 _ _ _ _
      | lsl _ _ _ _ cap g' S' h1 h2 h3=>exact .lsl _ _ _ _ cap g' S' ((hρc q b e3).trans h1) h2 h3
     ·rw[e1] at hR
      cases hR with | mp _ g' S' h1=>exact .mp _ g' S' ((hρc q b e3).trans h1)
    | _=>simp[EY] at v3
   | _=>cases y<;>simp[EY] at v3
  ·intro k g S e
   obtain ⟨b,hb,hρ⟩:=hρc' k _ e
   refine ⟨(hs.dom b g S hρ).1,?_⟩
   have hk:k<(HS e0).length:=by rw[hlen];exact (AcB.1 hb).1
   exact ⟨(HS e0)[k],AdT hk⟩
  ·intro i j g S S' e1 e2 l1 l2
   obtain ⟨b,hb,hρ⟩:=hρc' i _ e1
   obtain ⟨c,hc,hρ'⟩:=hρc' j _ e2
   have hbc:=hs.inj b c g S S' hρ hρ' (liveL i b hb) (liveL j c hc)
   subst hbc
   exact Fi hL hb hc
 have hga:=N6 hargs
 have hvs':RL h ρc vs ars:=by
  refine ⟨by have:=hvs.1;omega,fun i v y hv hy=>?_⟩
  have hi:i<avs.length:=by have:=(AcB.1 hy).1;omega
  have hx:=AdT hi
  have hR:=hvs.2 i v _ hv hx
  rcases hga.2 i _ y hx hy with ⟨d,e1,e2,e3⟩ | ⟨b,off,j,e1,rfl,e3⟩
  ·have hd:=BU hR e1 (fun b hb=>by rw[e2] at hb;cases hb)
   rcases e3 with rfl | rfl
   ·exact .d _ _ hd
   ·exact .d _ _ hd.unf
  ·rw[e1] at hR
   cases hR with | ptr _ _ g S h1=>exact .ptr _ _ g S ((hρc j b e3).trans h1)
 refine ((spec e0).2 h ρc w vs sc hvs').mono ?_
 rintro e w' ⟨v,h',ρ',rfl,s',r',t'⟩
 let ρ2:Place:=fun i=>match (Ad1 L.length).find? (fun k=>L[k]? == some i) with | some k=>ρ' k | none=>ρ i
 have hin:∀ (k b:Nat),L[k]?=some b→ρ2 b=ρ' k:=by
  intro k b hk
  have:(Ad1 L.length).find? (fun j=>L[j]? == some b)=some k:=by
   rw[Af7]
   refine ⟨by simp[hk],by simpa using (AcB.1 hk).1,fun j hj=>?_⟩
   simp
   intro e
   have:=Fi hL e hk
   omega
  simp only[ρ2,this]
 have hout:∀ i,i∉L→ρ2 i=ρ i:=by
  intro i hi
  have:(Ad1 L.length).find? (fun j=>L[j]? == some i)=none:=by
   rw[Agk]
   intro k hk
   simp
   intro e
   exact hi (AdZ e)
  simp only[ρ2,this]
 have cases2:∀ i:Nat,(∃ k:Nat,L[k]?=some i)∨i∉L:=by
  intro i
  by_cases h:i∈L
  ·obtain ⟨k,hk,e⟩:=Af2 h
   exact .inl ⟨k,by rw[AdT hk,e]⟩
  ·exact .inr h
 have hdom':∀ k x,ρ' k=some x→k<L.length:=by
  intro k x e
  obtain ⟨_,b,hb⟩:=s'.dom k x.1 x.2 e
  have:=(AcB.1 hb).1
  rw[hlen] at this;exact this
 have hf:∀ (j b:Nat) x,L[j]?=some b→ρ' j=some x→ρ2 b=some x:=fun j b x hj e=>by rw[hin j b hj];exact e
 have hmono:ρ.le ρ2:=by
  intro i x e
  rcases cases2 i with ⟨k,hk⟩ | hi
  ·rw[hin k i hk]
   exact t'.rmono k x ((hρc k i hk).trans e)
  ·rw[hout i hi];exact e
 have notc:∀ g,(∀ i S,ρ i≠some (g,S))→∀ i S,ρc i≠some (g,S):=by
  intro g hg i S e
  obtain ⟨b,_,hb⟩:=hρc' i _ e
  exact hg b S hb
 have liveOther:∀ i,i∉L→Bk H' i→∀ g S,ρ i=some (g,S)→∀ j S',ρc j≠some (g,S'):=by
  intro i hi hl g S hg j S' e
  obtain ⟨b,hb,hρb⟩:=hρc' j _ e
  have:=hs.inj i b g S S' hg hρb hl (liveL j b hb)
  subst this
  exact hi (AdZ hb)
 have hrn:∀ i g S,ρ2 i=some (g,S)→(∃ j S',ρ j=some (g,S'))∨w.heap.size≤g:=by
  intro i g S e
  rcases cases2 i with ⟨k,hk⟩ | hi
  ·rw[hin k i hk] at e
   rcases t'.rnew k g S e with ⟨j,S',hj⟩ | hge
   ·obtain ⟨b,_,hb⟩:=hρc' j _ hj
    exact .inl ⟨b,S',hb⟩
   ·exact .inr hge
  ·rw[hout i hi] at e
   exact .inl ⟨i,S,e⟩
 have st:AU h ρ w h' ρ2 w':=⟨t'.os,t'.tape,t'.output,t'.size,fun k hk hn=>t'.keep k hk (notc k hn),t'.mono,fun k hk hn=>t'.new k hk (notc k hn),hmono,hrn⟩
 refine ⟨v,h',ρ2,rfl,⟨s'.prom,s'.glob,?_,?_,?_⟩,?_,st⟩
 ·intro i b hb
  rcases cases2 i with ⟨k,hk⟩ | hi
  ·obtain ⟨B,C,v1,v2,v3⟩:=hHb k i hk
   rw[v1] at hb;cases hb
   have hold:=hs.blk i b v1
   have hnew:=s'.blk k C v2
   have hρi:ρ2 i=ρ' k:=hin k i hk
   cases b with
   | row fz cs =>
    cases C with
    | row fz' cs' =>
     obtain ⟨rfl,rfl⟩:=v3
     obtain ⟨b0,b1⟩:=hnew
     refine ⟨b0,?_⟩
     rw[hρi]
     exact b1
    | _=>simp[EY] at v3
   | map l =>
    cases C with
    | map l' =>
     have:l=l':=v3
     subst this
     obtain ⟨g,S,es,clock,b1,b2⟩:=hnew
     exact ⟨g,S,es,clock,hρi.trans b1,b2⟩
    | _=>simp[EY] at v3
   | box cs =>
    cases C with
    | box cs' =>
     obtain ⟨c1,c2⟩:=v3
     obtain ⟨g0,S0,c0,E0,fr0,o1,o2,o3,o4,o5,o6,o7⟩:=hold
     obtain ⟨g,S,c,E,fr,b1,b2,b3,b4,b5,b6,b7⟩:=hnew
     refine ⟨g,S,c,E,fr,hρi.trans b1,b2,b3,b4,by omega,fun j x v hx hv=>?_,b7⟩
     have hj:j<cs'.length:=by have:=(AcB.1 hx).1;omega
     have hcj:=AdT hj
     have hj0:j<c0.size:=by have:=(AcB.1 hx).1;omega
     have hc:=c2 j x _ hx hcj
     rw[cellE k g0 S0 c0 E0 fr0 j _ ((hρc k i hk).trans o1) o2 (AdU hj0)] at hc
     have hRo:=o6 j x _ hx (AdU hj0)
     have hR:=b6 j _ v hcj hv
     rcases hc with e0' | ⟨d,rfl,e1⟩ | ⟨b,sz,off,n,q,rfl,e1,e3⟩ | ⟨b,q,rfl,e1,e3⟩
     ·rw[e0'] at hR
      cases hR with | d _ _ hd=>cases hd;exact hRo.mono t'.mono hmono
     ·rw[e1] at hR
      cases hR with | d _ _ hd=>exact .d _ _ hd
     ·rw[e1] at hR
      cases hR with
      | lsl0=>exact .lsl0 _ _ _ _
      | lsl _ _ _ _ cap g' S' h1 h2 h3=>exact .lsl _ _ _ _ cap g' S' (hf q b _ e3 h1) h2 h3
     ·rw[e1] at hR
      cases hR with | mp _ g' S' h1=>exact .mp _ g' S' (hf q b _ e3 h1)
    | _=>simp[EY] at v3
   | _=>cases C<;>simp[EY] at v3
  ·by_cases hd:b=.dead
   ·subst hd;trivial
   ·refine (hs.blk i b hb).frame st.n s'.prom t'.mono hmono (fun g S hg=>?_) (fun hn=>(hout i hi).trans hn)
    have hnc:=liveOther i hi ⟨b,hb,hd⟩ g S hg
    have hlt:=(hs.dom i g S hg).1
    exact ⟨t'.keep g hlt hnc,t'.new g hlt hnc⟩
 ·intro i g S e
  rcases cases2 i with ⟨k,hk⟩ | hi
  ·rw[hin k i hk] at e
   obtain ⟨B,C,v1,_,_⟩:=hHb k i hk
   exact ⟨(s'.dom k g S e).1,B,v1⟩
  ·rw[hout i hi] at e
   obtain ⟨q1,b,q2⟩:=hs.dom i g S e
   exact ⟨by have:=t'.size;omega,b,q2⟩
 ·intro i j g S1 S2 e1 e2 l1 l2
  have lv:∀ (k b:Nat),L[k]?=some b→Bk (hp (HS e0)) k:=by
   intro k b hk
   obtain ⟨B,C,_,v2,v3⟩:=hHb k b hk
   refine ⟨C,v2,?_⟩
   rintro rfl
   cases B<;>simp[EY] at v3
  have mixed:∀ (k b:Nat),L[k]?=some b→∀ i,i∉L→Bk H' i→∀ S S',ρ' k=some (g,S)→ρ i=some (g,S')→False:=by
   intro k b hk i hi hl S S' e1 e2
   rcases t'.rnew k g S e1 with ⟨j,S'',hj⟩ | hge
   ·exact liveOther i hi hl g S' e2 j S'' hj
   ·have:=(hs.dom i g S' e2).1;omega
  rcases cases2 i with ⟨k,hk⟩ | hi<;>rcases cases2 j with ⟨k',hk'⟩ | hj
  ·rw[hin k i hk] at e1
   rw[hin k' j hk'] at e2
   have:=s'.inj k k' g S1 S2 e1 e2 (lv k i hk) (lv k' j hk')
   subst this
   rw[hk] at hk';cases hk';rfl
  ·rw[hin k i hk] at e1
   rw[hout j hj] at e2
   exact (mixed k i hk j hj l2 S1 S2 e1 e2).elim
  ·rw[hout i hi] at e1
   rw[hin k' j hk'] at e2
   exact (mixed k' j hk' i hi l1 S2 S1 e2 e1).elim
  ·rw[hout i hi] at e1
   rw[hout j hj] at e2
   exact hs.inj i j g S1 S2 e1 e2 l1 l2
 ·cases r' with
  | d _ _ hd=>exact .d _ _ hd
def DW (f:AV) (xs:List AV):Option (FuncId × List AV) :=
 match f with
 | .fn (.func g) a b=>some (g,a++xs++b)
 | .d (.fn (.func g) a b)=>some (g,a.map .d++xs++b.map .d)
 | _=>none
theorem RL.append {h:Ag} {ρ:Place} {a b:Array Value} {x y:List AV} (h1:RL h ρ a x) (h2:RL h ρ b y):RL h ρ (a++b) (x++y):=by
 refine ⟨by have:=h1.1;have:=h2.1;simp;omega,fun i v z hv hz=>?_⟩
 rw[Array.getElem?_append] at hv
 rw[AfQ] at hz
 have e:=h1.1
 by_cases hi:i<x.length
 ·rw[if_pos hi] at hz
  rw[if_pos (by omega)] at hv
  exact h1.2 i v z hv hz
 ·rw[if_neg hi] at hz
  rw[if_neg (by omega)] at hv
  rw[e] at hv
  exact h2.2 _ v z hv hz
theorem H8 {o:Oper} {ev:Operand→AV} {fo:Operand} {xs:Array Operand} {ts:Array TypeId} {f:FuncId} {avs:List AV}
  (ho:o.op=.call {callee:=.value fo,args:=xs,argTypes:=ts}) (hf:DW (ev fo) (xs.toList.map ev)=some (f,avs)) (hgo:Ar P f=true):∀ (h:Ag) (ρ:Place) (a:Act),(∀ x,x∈o.op.operands.toList→R h ρ (a.eval x) (ev x)) →
   ∃ vs,RL h ρ vs avs∧∀ w:World,(execOp a.eval o).run P w=.ok (.enter f vs) w:=by
 have memf:fo∈o.op.operands.toList:=by simp[Op.operands,Call.operands,ho]
 have memx:∀ x,x∈xs.toList→x∈o.op.operands.toList:=fun x hx=>by simp[Op.operands,Call.operands,ho];exact .inr (by simpa using hx)
 intro h ρ a hops
 have hxs:RL h ρ (xs.map a.eval) (xs.toList.map ev):=by
  refine ⟨by simp,fun i v x hv hx=>?_⟩
  simp only[Array.getElem?_map] at hv
  simp only[AdW,Array.getElem?_toList] at hx
  cases hc:xs[i]? with
  | none=>simp[hc] at hv
  | some z =>
   simp[hc] at hv hx
   subst hv;subst hx
   exact hops z (memx z (by simpa using Array.mem_of_getElem? hc))
 have hcall:∀ (g:FuncId) (args:Array Value) (w:World),Ar P g=true→(callFunc g args).run P w=.ok (.enter g args) w:=by
  intro g args w hg
  unfold Ar at hg
  split at hg
  ·rename_i fn hfn
   simp only[AdY,bne_iff_ne,ne_eq] at hg
   have hb:¬fn.body=none:=by
    intro e;simp[e] at hg
   simp[callFunc,program,Sem.run,hfn,hg.1,hb]
  ·cases hg
 have hfv:=hops fo memf
 unfold DW at hf
 split at hf
 ·rename_i g fa fb hfo
  cases hf
  rw[hfo] at hfv
  generalize he:a.eval fo=v at hfv
  cases hfv with
  | fn _ us ws _ _ hl hl' hra hrb =>
   refine ⟨us++xs.map a.eval++ws,RL.append (RL.append ⟨hl,hra⟩ hxs) ⟨hl',hrb⟩,fun w=>?_⟩
   simp only[execOp,ho,resolve,he,Deferred.ofValue,invoke,Sem.run_bind,Sem.run_pure,Result.andThen_ok]
   exact hcall _ _ w hgo
 ·rename_i g fa fb hfo
  cases hf
  rw[hfo] at hfv
  generalize he:a.eval fo=v at hfv
  cases hfv with
  | d _ _ hd=>cases hd with
    | fn _ us ws _ _ hl hl' hra hrb =>
     have lift:∀ {us:Array Value} {l:List D},us.size=l.length→(∀ (i:Nat) v x,us[i]?=some v→l[i]?=some x→RD h v x)→RL h ρ us (l.map .d):=by
      intro us l hl hr
      refine ⟨by simpa using hl,fun i v x hv hx=>?_⟩
      simp only[AdW] at hx
      cases hc:l[i]? with
      | none=>simp[hc] at hx
      | some y=>simp[hc] at hx;subst hx;exact .d _ _ (hr i v y hv hc)
     refine ⟨us++xs.map a.eval++ws,RL.append (RL.append (lift hl hra) hxs) (lift hl' hrb),fun w=>?_⟩
     simp only[execOp,ho,resolve,he,Deferred.ofValue,invoke,Sem.run_bind,Sem.run_pure,Result.andThen_ok]
     exact hcall _ _ w hgo
 ·cases hf
theorem NR {o:Oper} {ev:Operand→AV} {H:List Aa} {m:Bool} {L:List Nat} {fo:Operand} {xs:Array Operand} {ts:Array TypeId} {f:FuncId} {avs:List AV} {k:Eff→Prop}
  (ho:o.op=.call {callee:=.value fo,args:=xs,argTypes:=ts}) (hf:DW (ev fo) (xs.toList.map ev)=some (f,avs)) (hL:L.Nodup) (hk:OV P G m H L f avs k):∃ e,Ah P G o ev (hp H) e∧k e:=by
 have memf:fo∈o.op.operands.toList:=by simp[Op.operands,Call.operands,ho]
 have memx:∀ x,x∈xs.toList→x∈o.op.operands.toList:=fun x hx=>by simp[Op.operands,Call.operands,ho];exact .inr (by simpa using hx)
 unfold OV at hk
 simp only at hk
 split at hk
 ·rename_i ars HC hpa hpb
  obtain ⟨k1,res,Hn,ks,spec,hlen,kk,k2⟩:=hk
  refine ⟨_,Ah.drop ?_ ?_ kk,k2⟩
  rotate_left
  ·intro p hp
   unfold callEff at hp ⊢
   split
   ·rename_i hc;rw[if_pos hc] at hp;cases hp
   ·rename_i hc
    rw[if_neg hc] at hp
    simp only[Aga] at hp ⊢
    rcases hp with hp | hp
    ·exact .inl (.inr (by simpa using BC hp))
    ·exact .inr (Ae2 hp)
  have enter:=fun h ρ a hops=>H8 ho hf spec.1 h ρ a hops
  have hids:∀ b,b∈sidsL H L avs++sidsBs H L L→b∉L:=by
   intro b hb
   have:=Ae1.1 k1 b hb
   simpa using this
  unfold callEff
  split
  ·rename_i hsp
   simp only[AdY,List.isEmpty_iff] at hsp
   obtain ⟨⟨e1,e2⟩,e3⟩:=hsp
   subst e2
   rw[e1] at hpa hpb ⊢
   simp[passBs] at hpb
   subst hpb
   cases res with
   | d x =>
    intro h ρ H' a w hs hops hr
    obtain ⟨vs,hvs,hrun⟩:=enter h ρ a hops
    unfold Oper.wp
    rw[hrun w]
    refine (SU (P:=P) e3 hpa (fun b hb=>AfX _ hb) spec hs hvs hr).mono ?_
    rintro e w' ⟨v,h',ρ',rfl,q1,q2,q3⟩
    exact ⟨v,h',ρ',rfl,q1,q2,q3⟩
   | _=>simp[BS] at e3
  ·intro h ρ H' a w hs hops hr
   obtain ⟨vs,hvs,hrun⟩:=enter h ρ a hops
   unfold Oper.wp
   rw[hrun w]
   refine (Vj (P:=P) hL hids hpa hpb (fun b hb=>AfX _ hb) (fun b hb=>Age _ hb) spec hlen hs hvs hr).mono ?_
   rintro e w' ⟨v,h',ρ',rfl,q1,q2,q3⟩
   exact ⟨v,h',ρ',rfl,q1,q2,q3⟩
 ·exact hk.elim
theorem Xl {o:Oper} {ev:Operand→AV} {H:List Aa} {M:FuncId→Bool} {fo:Operand} {xs:Array Operand} {ts:Array TypeId} {f:FuncId} {avs:List AV} {k:Eff→Prop}
  (ho:o.op=.call {callee:=.value fo,args:=xs,argTypes:=ts}) (hf:DW (ev fo) (xs.toList.map ev)=some (f,avs)) (hk:Xm P G M H f avs k):∃ e,Ah P G o ev (hp H) e∧k e :=
 NR ho hf (ET _) hk
end
end Go.Abs
namespace Go.Abs
open Go
def fR (r:Option Nat):Fence:={fn:=fun _=>True,depth:=none,alive:=false,round:=r}
theorem H7 {r:Option Nat} {n:Nat} {P:Program} {f:FuncId} {args:Array Value} {w:World} {R:Ending→World→Prop}:CallsIn (fR r) n P f args w R↔Calls P f args w R :=
 callsIn_wide (n:=n)
theorem Hu {P:Program} {o:Oper} (hd:∀ c,o.op≠.defer c) {r:Option Nat} {a:Act} {w:World} {K:Act→World→Prop} {Q:Exit→Act→World→Prop} (hh:o.wp P a w K Q):o.wpIn (fR r) 0 P a w K Q:=by
 unfold Oper.wp at hh
 refine ⟨fun _ _=>trivial,?_⟩
 rw[Oper.semAt_eq _ _ _ hd]
 generalize (execOp a.eval o).run P w=x at *
 cases x with
 | ok n w' =>
  cases n<;>simp only[Oper.upon,Oper.uponIn] at hh ⊢ <;>
   first
    | exact hh
    | exact ⟨fun h=>by simp[fR] at h,H7.2 hh⟩
    | exact ⟨fun h=>by simp[fR] at h,fun c cs _=>let ⟨v,w',q,s⟩:=hh c cs;⟨v,w',q,stepsIn_wide.2 s⟩⟩
 | halt x w'=>cases x<;>simp only[Oper.upon,Oper.uponIn] at hh ⊢<;>first | exact hh.elim | exact hh
def N4 (y:Bool) (h:Ag) (ρ:Place) (w:World) (h':Ag) (ρ':Place) (w':World):Prop:=h.le h'∧ρ.le ρ'∧(y=false→AU h ρ w h' ρ' w')
theorem AU.y {y:Bool} {h:Ag} {ρ:Place} {w:World} {h':Ag} {ρ':Place} {w':World} (s:AU h ρ w h' ρ' w'):N4 y h ρ w h' ρ' w':=⟨s.mono,s.rmono,fun _=>s⟩
structure Frm (y:Bool) (r:Option Nat) (h0:Ag) (ρ0:Place) (w0:World) (ds:List Deferred) (h:Ag) (ρ:Place) (w:World):Prop where
 step:y=false→AU h0 ρ0 w0 h ρ w
 nots:y=true→ds=[]∧r=none
 nodup:(ds.map (·.target)).Pairwise (·≠·)
 mark:∀ d,d∈ds→∃ D,d={target:=.collected D,args:=#[]}∧w.heap[D]?=some (.deferred (some []))∧w0.heap.size≤D∧∀ i S,ρ i≠some (D,S)
 rnd:∀ l,r=some l→ds=[]
 record:∀ l,r=some l→∃ rec,w.heap[l]?=some (.loop rec)∧∀ i S,ρ i≠some (l,S)
theorem Frm.go {y:Bool} {r:Option Nat} {h0:Ag} {ρ0:Place} {w0:World} {ds:List Deferred} {h h':Ag} {ρ ρ':Place} {w w':World} (f:Frm y r h0 ρ0 w0 ds h ρ w) (s:N4 y h ρ w h' ρ' w'):Frm y r h0 ρ0 w0 ds h' ρ' w':=by
 cases y with
 | true =>
  obtain ⟨e1,e2⟩:=f.nots rfl
  subst e1;subst e2
  exact ⟨fun e=>(by cases e),fun _=>⟨rfl,rfl⟩,List.Pairwise.nil,fun d hd=>(by simp at hd),fun _ _=>rfl,fun l e=>by cases e⟩
 | false =>
  have st:=s.2.2 rfl
  have key:∀ k o,w.heap[k]?=some o→(∀ i S,ρ i≠some (k,S))→w'.heap[k]?=some o∧∀ i S,ρ' i≠some (k,S):=by
   intro k o hk hn
   have hlt:=(Array.getElem?_eq_some_iff.1 hk).1
   refine ⟨(st.keep k hlt hn).trans hk,fun i S e=>?_⟩
   rcases st.rnew i k S e with ⟨j,S',hj⟩ | hge
   ·exact hn j S' hj
   ·omega
  refine ⟨fun _=>(f.step rfl).trans st,fun e=>(by cases e),f.nodup,fun d hd=>?_,f.rnd,fun l e=>?_⟩
  ·obtain ⟨D,e,h1,h2,h3⟩:=f.mark d hd
   obtain ⟨k1,k2⟩:=key D _ h1 h3
   exact ⟨D,e,k1,h2,k2⟩
  ·obtain ⟨rec,h1,h2⟩:=f.record l e
   obtain ⟨k1,k2⟩:=key l _ h1 h2
   exact ⟨rec,k1,k2⟩
theorem Frm.pl {y:Bool} {r:Option Nat} {h0:Ag} {ρ0:Place} {w0:World} {ds:List Deferred} {h:Ag} {ρ ρ':Place} {w:World} (f:Frm y r h0 ρ0 w0 ds h ρ w)
  (h1:y=false→ρ0.le ρ') (h2:∀ k x,ρ' k=some x→∃ j,ρ j=some x):Frm y r h0 ρ0 w0 ds h ρ' w:=by
 have key:∀ k,(∀ i S,ρ i≠some (k,S))→∀ i S,ρ' i≠some (k,S):=fun k hn i S e=>by
  obtain ⟨j,hj⟩:=h2 i _ e
  exact hn j S hj
 refine ⟨fun e=>?_,f.nots,f.nodup,fun d hd=>?_,f.rnd,fun l e=>?_⟩
 ·have q:=f.step e
  exact ⟨q.os,q.tape,q.output,q.size,q.keep,q.mono,q.new,h1 e,fun i g S hi=>by obtain ⟨j,hj⟩:=h2 i _ hi;exact q.rnew j g S hj⟩
 ·obtain ⟨D,e,a,b,c⟩:=f.mark d hd
  exact ⟨D,e,a,b,key D c⟩
 ·obtain ⟨rec,a,b⟩:=f.record l e
  exact ⟨rec,a,key l b⟩
theorem Frm.start (h0:Ag) (ρ0:Place) (w0:World):Frm false none h0 ρ0 w0 [] h0 ρ0 w0 :=
 ⟨fun _=>AU.refl _ _ _,fun e=>(by cases e),List.Pairwise.nil,fun d hd=>(by simp at hd),fun _ _=>rfl,fun l e=>by cases e⟩
theorem Frm.startY (h0:Ag) (ρ0:Place) (w0:World):Frm true none h0 ρ0 w0 [] h0 ρ0 w0 :=
 ⟨fun e=>(by cases e),fun _=>⟨rfl,rfl⟩,List.Pairwise.nil,fun d hd=>(by simp at hd),fun _ _=>rfl,fun l e=>by cases e⟩
def putA (s:List AV) (d:Option Nat) (x:AV):List AV:=match d with | some t=>s.set t x | none=>s
theorem PM (s:List AV) (d:Option Nat) (x:AV):(putA s d x).length=s.length:=by cases d<;>simp[putA]
abbrev Hj:Nat:=4000000007
def CT:List Nat→Bool
 | [a,b]=>Nat.beq a Hj && Nat.beq b Hj
 | _=>false
def rd (r:List Nat) (b:Nat):Bool:=r.contains b || CT r
theorem Sk {r:List Nat} {b:Nat} (h:b∈r):rd r b=true:=by simp[rd,h]
theorem AaK {b:Nat}:rd [Hj,Hj] b=true:=by
 have:CT [Hj,Hj]=true:=by decide
 simp only[rd,this,Bool.or_true]
def XE (y:Bool) (r:Option Nat) (P:Program) (G:Ad) (ops:Array Oper) (o:Oper) (s:List AV) (H:AX) (e:Eff):Prop :=
 ∀ (h:Ag) (ρ:Place) (H':AX) (s':List AV) (a:Act) (w:World),Sim G h ρ H' w→SR h ρ a.tmps s'→(∀ t,t∈o.looksAt ops→s'[t]?=s[t]?)→(∀ b,rd e.r b=true→H' b=H b) →
  let K:Act→World→Prop:=fun a' w'=>∃ v h' ρ',a'=a.put o.dst v∧Sim G h' ρ' (Aj H' e.w) w'∧R h' ρ' v e.res∧N4 y h ρ w h' ρ' w'
  if Region.wanted o (yielded ops a.tmps) then o.wpIn (fR r) 0 P a w K (fun _ _ _=>False) else K (a.put o.dst undef) w
inductive Kd (y:Bool) (r:Option Nat) (P:Program) (G:Ad) (ops:Array Oper):List Oper→List AV→AX→List Eff→List AV→AX→Prop
 | nil (s:List AV) (H:AX):Kd y r P G ops [] s H [] s H
 | cons {o:Oper} {rest:List Oper} {s s':List AV} {H H':AX} {e:Eff} {es:List Eff} (h1:XE y r P G ops o s H e)
   (h2:Kd y r P G ops rest (putA s o.dst e.res) (Aj H e.w) es s' H'):Kd y r P G ops (o::rest) s H (e::es) s' H'
theorem SR.putA {h:Ag} {ρ:Place} {a:Act} {s:List AV} (r:SR h ρ a.tmps s) (d:Option Nat) {v:Value} {x:AV} (hv:R h ρ v x):SR h ρ (a.put d v).tmps (putA s d x):=by
 cases d with
 | none=>exact r
 | some t=>exact r.put t hv
theorem Ln (a:Act) (d:Option Nat) (v:Value):(a.put d v).defers=a.defers:=by cases d<;>rfl
def At (y:Bool) (r:Option Nat) (G:Ad) (h0:Ag) (ρ0:Place) (w0:World) (s:List AV) (H:AX) (a:Act) (w:World):Prop :=
 ∃ h ρ,Sim G h ρ H w∧SR h ρ a.tmps s∧Frm y r h0 ρ0 w0 a.defers h ρ w
theorem Oper.wpIn_false {r:Option Nat} {P:Program} {o:Oper} {a:Act} {w:World} {K:Act→World→Prop} {Q:Exit→Act→World→Prop} (hh:o.wpIn (fR r) 0 P a w K (fun _ _ _=>False)):o.wpIn (fR r) 0 P a w K Q:=by
 unfold Oper.wpIn at *
 refine ⟨hh.1,?_⟩
 have hh:=hh.2
 generalize (o.semAt (fR r).round a.eval).run P w=x at *
 cases x with
 | ok n w' =>
  cases n<;>simp only[Oper.uponIn] at hh ⊢ <;>
   first
    | exact hh
    | exact ⟨hh.1,CallsIn.mono hh.2 (fun e w'' he=>by
      cases e with
      | returned v=>exact he
      | panicked c=>exact he.elim
      | outgrown=>obtain ⟨_,_,hq⟩:=he;exact hq.elim)⟩
    | exact ⟨hh.1,RowsIn.mono hh.2 (fun _ _ he=>he)⟩
    | exact ⟨hh.1,RoundIn.mono hh.2 (fun e w'' he=>by
      cases e with
      | returned v=>exact he
      | panicked c=>exact he.elim
      | outgrown=>obtain ⟨_,_,hq⟩:=he;exact hq.elim)⟩
    | exact hh.elim
 | halt x w'=>cases x<;>simp only[Oper.uponIn] at hh ⊢<;>first | exact hh.elim | exact hh
theorem Vd {y:Bool} {r:Option Nat} {P:Program} {G:Ad} {ops:Array Oper} {h0:Ag} {ρ0:Place} {w0:World} {Q:Exit→Act→World→Prop} {todo:List Oper} {s s':List AV} {H H':AX} {es:List Eff}
  (c:Kd y r P G ops todo s H es s' H'):∀ (i:Nat) (a:Act) (w:World),(∀ j,todo[j]?=ops[i+j]?)→At y r G h0 ρ0 w0 s H a w→(∀ a w,At y r G h0 ρ0 w0 s' H' a w→Q .normal a w) →
   wpOpsIn (fR r) 0 P ops Q ((Ad1 todo.length).map (i+·)) a w:=by
 induction c with
 | nil s H=>intro i a w _ ha hq;exact hq a w ha
 | cons h1 h2 ih =>
  rename_i o rest s s' H H' e es
  intro i a w hops ⟨h,ρ,q1,q2,q4⟩ hq
  have ho:ops[i]?=some o:=by simpa using (hops 0).symm
  have hrest:∀ j,rest[j]?=ops[i+1+j]?:=fun j=>by have:=hops (j+1);simp at this;rw[this];congr 1;omega
  have hl:(Ad1 (rest.length+1)).map (i+·)=i::(Ad1 rest.length).map (i+1+·):=by
   rw[List.range_succ_eq_map]
   simp[Function.comp_def]
   intro x _;omega
  rw[List.length_cons,hl]
  have hloc:=h1 h ρ H s a w q1 q2 (fun _ _=>rfl) (fun _ _=>rfl)
  have next:∀ a' w',(∃ v h' ρ',a'=a.put o.dst v∧Sim G h' ρ' (Aj H e.w) w'∧R h' ρ' v e.res∧N4 y h ρ w h' ρ' w')→wpOpsIn (fR r) 0 P ops Q ((Ad1 rest.length).map (i+1+·)) a' w':=by
   rintro a' w' ⟨v,h',ρ',rfl,t1,t2,t3⟩
   exact ih (i+1) _ w' hrest ⟨h',ρ',t1,(q2.mono t3.1 t3.2.1).putA o.dst t2,by rw[Ln];exact q4.go t3⟩ hq
  simp only[wpOpsIn,ho]
  simp only at hloc
  split at hloc
  ·rename_i hw
   simp only[hw,if_true]
   exact Oper.wpIn_mono next (Oper.wpIn_false hloc)
  ·rename_i hw
   simp only[hw]
   obtain ⟨v,h',ρ',e1,t1,t2,t3⟩:=hloc
   exact ⟨fun _ _=>trivial,next _ _ ⟨v,h',ρ',e1,t1,t2,t3⟩⟩
def CQ (o:Oper) (e:Eff) (σ:List AV × AX):List AV × AX:=(putA σ.1 o.dst e.res,Aj σ.2 e.w)
def stS:List (Oper × Eff)→Nat→(Nat→Bool)→List AV × AX→List AV × AX
 | [],_,_,σ=>σ
 | (o,e)::r,i,S,σ=>stS r (i+1) S (if S i then CQ o e σ else σ)
theorem Ky (H H':AX):∀ (w:List (Nat × Aa)) (b:Nat),(H b=H' b∨b∈w.map (·.1))→Aj H w b=Aj H' w b
 | [],b,h=>by rcases h with h | h;exact h;simp at h
 | (i,x)::r,b,h=>by
   rw[Aj,Aj]
   refine Ky _ _ r b ?_
   by_cases hb:b=i
   ·exact .inl (by simp[hb])
   ·rcases h with h | h
    ·exact .inl (by simp[hb,h])
    ·simp[hb] at h
     exact .inr (by simpa using h)
theorem Pw (t:Nat):∀ (l:List (Oper × Eff)) (i:Nat) (S S':Nat→Bool) (σ σ':List AV × AX),(∀ j o e,l[j]?=some (o,e)→S (i+j)≠S' (i+j)→o.dst≠some t) →
  σ.1.length=σ'.1.length→σ.1[t]?=σ'.1[t]?→(stS l i S σ).1[t]?=(stS l i S' σ').1[t]?
 | [],_,_,_,_,_,_,_,h=>h
 | (o,e)::r,i,S,S',σ,σ',hd,hl,h=>by
   rw[stS,stS]
   refine Pw t r (i+1) S S' _ _ (fun j o' e' hj hne=>hd (j+1) o' e' (by simpa using hj) (by rwa[show i+(j+1)=i+1+j by omega])) ?_ ?_
   ·split<;>split<;>simp[CQ,PM,hl]
   ·have h0:=hd 0 o e rfl
    have same:∀ (x y:List AV) (v:AV),x.length=y.length→x[t]?=y[t]?→(putA x o.dst v)[t]?=(putA y o.dst v)[t]?:=by
     intro x y v hxy hx
     cases hdst:o.dst with
     | none=>simpa[putA] using hx
     | some d=>simp only[putA,AfO,hxy,hx]
    have none_:o.dst≠some t→∀ (x:List AV) (v:AV),(putA x o.dst v)[t]?=x[t]?:=by
     intro hne x v
     cases hdst:o.dst with
     | none=>rfl
     | some d =>
      have:d≠t:=fun e=>hne (by rw[hdst,e])
      simp[putA,this]
    by_cases h1:S i=true<;>by_cases h2:S' i=true<;>simp only[h1,h2,if_true,if_false,AdX]
    ·exact same _ _ _ hl h
    ·simp only[CQ];rw[none_ (h0 (by simp[h1,h2]))];exact h
    ·simp only[CQ];rw[none_ (h0 (by simp[h1,h2]))];exact h
    ·exact h
theorem Tt (b:Nat):∀ (l:List (Oper × Eff)) (i:Nat) (S S':Nat→Bool) (σ σ':List AV × AX),(∀ j o e,l[j]?=some (o,e)→S (i+j)≠S' (i+j)→b∉e.w.map (·.1)) →
  σ.2 b=σ'.2 b→(stS l i S σ).2 b=(stS l i S' σ').2 b
 | [],_,_,_,_,_,_,h=>h
 | (o,e)::r,i,S,S',σ,σ',hd,h=>by
   rw[stS,stS]
   refine Tt b r (i+1) S S' _ _ (fun j o' e' hj hne=>hd (j+1) o' e' (by simpa using hj) (by rwa[show i+(j+1)=i+1+j by omega])) ?_
   have h0:=hd 0 o e rfl
   have none_:b∉e.w.map (·.1)→∀ H:AX,Aj H e.w b=H b:=fun hne H=>Av H e.w b (fun p hp e'=>hne (by rw[←e'];exact Ae2 hp))
   by_cases h1:S i=true<;>by_cases h2:S' i=true<;>simp only[h1,h2,if_true,if_false,AdX]
   ·exact Ky _ _ _ _ (.inl h)
   ·simp only[CQ];rw[none_ (h0 (by simp[h1,h2]))];exact h
   ·simp only[CQ];rw[none_ (h0 (by simp[h1,h2]))];exact h
   ·exact h
def JG (o o':Oper) (e e':Eff):Prop:=(∀ d,o.dst=some d→o'.dst≠some d)∧∀ b,b∈e.w.map (·.1)→b∉e'.w.map (·.1)
theorem Uq (H:AX) (w w':List (Nat × Aa)) (h:∀ b,b∈w.map (·.1)→b∉w'.map (·.1)):Aj (Aj H w) w'=Aj (Aj H w') w:=by
 funext b
 have other:∀ (H:AX) (w:List (Nat × Aa)),b∉w.map (·.1)→Aj H w b=H b:=fun H w hb=>Av H w b (fun p hp e=>hb (by rw[←e];exact Ae2 hp))
 by_cases h1:b∈w.map (·.1)
 ·have h2:=h b h1
  rw[other _ w' h2]
  exact Ky _ _ w b (.inr h1)
 ·rw[other _ w h1]
  by_cases h2:b∈w'.map (·.1)
  ·exact Ky _ _ w' b (.inr h2)
  ·rw[other _ w' h2,other _ w' h2,other _ w h1]
theorem Rw {o o':Oper} {e e':Eff} (h:JG o o' e e') (σ:List AV × AX):CQ o e (CQ o' e' σ)=CQ o' e' (CQ o e σ):=by
 unfold CQ
 refine Prod.ext ?_ (Uq σ.2 e.w e'.w h.2).symm
 cases hd:o.dst with
 | none=>simp[putA]
 | some d =>
  cases hd':o'.dst with
  | none=>simp[putA]
  | some d' =>
   have hne:d≠d':=fun e=>h.1 d hd (by rw[hd',e])
   simp only[putA]
   exact List.set_comm _ _ (Ne.symm hne)
theorem MO {o:Oper} {e:Eff}:∀ (l:List (Oper × Eff)) (i:Nat) (S:Nat→Bool) (σ:List AV × AX),(∀ j o' e',l[j]?=some (o',e')→S (i+j)=true→JG o o' e e') →
  stS l i S (CQ o e σ)=CQ o e (stS l i S σ)
 | [],_,_,_,_=>rfl
 | (o',e')::r,i,S,σ,h=>by
   rw[stS,stS]
   have ih:=fun τ=>MO r (i+1) S τ (fun j o'' e'' hj hs=>h (j+1) o'' e'' (by simpa using hj) (by rwa[show i+(j+1)=i+1+j by omega]))
   by_cases h1:S i=true
   ·simp only[h1,if_true]
    rw[←Rw (h 0 o' e' rfl h1),ih]
   ·simp only[h1,if_false,AdX]
    rw[ih]
theorem Tu {o:Oper} {e:Eff} {k:Nat}:∀ (l:List (Oper × Eff)) (i:Nat) (S:Nat→Bool) (σ:List AV × AX),i≤k→l[k-i]?=some (o,e)→S k=false →
  (∀ j o' e',l[j]?=some (o',e')→k<i+j→S (i+j)=true→JG o o' e e')→stS l i (fun j=>S j || j == k) σ=CQ o e (stS l i S σ)
 | [],_,_,_,_,h,_,_=>by simp at h
 | (o',e')::r,i,S,σ,hik,hl,hS,ha=>by
   rw[stS,stS]
   by_cases hi:i=k
   ·subst hi
    simp at hl
    obtain ⟨rfl,rfl⟩:=hl
    simp only[hS,Bool.false_or,beq_self_eq_true,if_true,AdX,if_false]
    have e2:stS r (i+1) (fun j=>S j || j == i) (CQ o' e' σ)=stS r (i+1) S (CQ o' e' σ):=by
     have gen:∀ (l:List (Oper × Eff)) (m:Nat) (τ:List AV × AX),i<m→stS l m (fun j=>S j || j == i) τ=stS l m S τ:=by
      intro l
      induction l with
      | nil=>intros;rfl
      | cons p l ih =>
       intro m τ hm
       obtain ⟨op,ep⟩:=p
       rw[stS,stS,ih (m+1) _ (by omega)]
       have:(m == i)=false:=by simp;omega
       simp[this]
     exact gen r (i+1) _ (by omega)
    rw[e2]
    exact MO r (i+1) S σ (fun j o'' e'' hj hs=>ha (j+1) o'' e'' (by simpa using hj) (by omega) (by rwa[show i+(j+1)=i+1+j by omega]))
   ·have hne:(i == k)=false:=by simpa using hi
    simp only[hne,Bool.or_false]
    have hk:k-i=(k-(i+1))+1:=by omega
    rw[hk] at hl
    exact Tu r (i+1) S _ (by omega) (by simpa using hl) hS (fun j o'' e'' hj hlt hs=>ha (j+1) o'' e'' (by simpa using hj) (by omega) (by rwa[show i+(j+1)=i+1+j by omega]))
def Kr (o:Oper):List Nat:=(o.after.toList.filter (Region.binds .any ·)).map (·.on)
def OD (o:Oper) (acc:List Nat):Nat:=(Kr o).foldl (fun s i=>s ||| 2^i ||| acc.getD i 0) 0
def EN:List Oper→List Nat→List Nat
 | [],acc=>acc
 | o::r,acc=>EN r (acc++[OD o acc])
theorem Nl (acc:List Nat) (i:Nat):∀ (l:List Nat) (s:Nat),(l.foldl (fun s i=>s ||| 2^i ||| acc.getD i 0) s).testBit i=true→s.testBit i=true∨∃ k,k∈l∧(i=k∨(acc.getD k 0).testBit i=true)
 | [],s,h=>.inl h
 | x::r,s,h=>by
   rw[List.foldl_cons] at h
   rcases Nl acc i r _ h with h | ⟨k,hk,h⟩
   ·rw[Agt,Agt,Nat.testBit_two_pow] at h
    simp only[Agb,decide_eq_true_eq] at h
    rcases h with (h | h) | h
    ·exact .inl h
    ·exact .inr ⟨x,by simp,.inl h.symm⟩
    ·exact .inr ⟨x,by simp,.inr h⟩
   ·exact .inr ⟨k,by simp[hk],h⟩
theorem Nk:∀ (l:List Oper) (acc:List Nat),(∀ j,j<acc.length→(EN l acc)[j]?=acc[j]?) ∧
  (∀ j o,l[j]?=some o→∃ pre,(∀ k,(EN l acc)[k]?=pre[k]?∨pre.length≤k)∧pre.length=acc.length+j∧(EN l acc)[acc.length+j]?=some (OD o pre))
 | [],acc=>⟨fun j hj=>rfl,fun j o h=>by simp at h⟩
 | o::r,acc=>by
   obtain ⟨h1,h2⟩:=Nk r (acc++[OD o acc])
   refine ⟨fun j hj=>?_,fun j p hp=>?_⟩
   ·rw[EN,h1 j (by simp;omega),Afv hj]
   ·cases j with
    | zero =>
     simp at hp
     subst hp
     refine ⟨acc,fun k=>?_,rfl,?_⟩
     ·by_cases hk:k<acc.length
      ·exact .inl (by rw[EN,h1 k (by simp;omega),Afv hk])
      ·exact .inr (by omega)
     ·rw[EN,Agx,h1 acc.length (by simp)]
      simp
    | succ j =>
     obtain ⟨pre,q1,q2,q3⟩:=h2 j p (by simpa using hp)
     simp at q2 q3
     exact ⟨pre,by simpa[EN] using q1,by omega,by rw[EN,show acc.length+(j+1)=acc.length+1+j by omega];exact q3⟩
theorem So {ops:List Oper} {j:Nat} {o:Oper} (ho:ops[j]?=some o) {i:Nat} (h:((EN ops []).getD j 0).testBit i=true) :
  ∃ k,k∈Kr o∧(i=k∨k<j∧((EN ops []).getD k 0).testBit i=true):=by
 obtain ⟨pre,q1,q2,q3⟩:=(Nk ops []).2 j o ho
 simp at q2 q3
 rw[AdV,q3] at h
 simp only[AfV,OD] at h
 rcases Nl pre i (Kr o) 0 h with h | ⟨k,hk,h⟩
 ·simp at h
 ·refine ⟨k,hk,?_⟩
  rcases h with h | h
  ·exact .inl h
  ·by_cases hlt:k<pre.length
   ·refine .inr ⟨by omega,?_⟩
    rcases q1 k with e | e
    ·rw[AdV,e,←AdV];exact h
    ·omega
   ·rw[AdV,Afs (by omega)] at h
    simp at h
theorem PY {ops:List Oper} {S:Nat→Prop} (hdc:∀ k,S k→∀ o,ops[k]?=some o→∀ i,i∈Kr o→S i):∀ (j:Nat) (o:Oper),ops[j]?=some o→(∀ i,i∈Kr o→S i) →
  ∀ i,((EN ops []).getD j 0).testBit i=true→S i:=by
 intro j
 induction j using Ags with
 | _ j ih =>
  intro o ho hb i hi
  obtain ⟨k,hk,h⟩:=So ho hi
  rcases h with rfl | ⟨hlt,h⟩
  ·exact hb _ hk
  ·cases hok:ops[k]? with
   | none =>
    have:ops.length≤k:=AfR.1 hok
    have:=(AcB.1 ho).1
    omega
   | some ok=>exact ih k hlt ok hok (hdc k (hb k hk) ok hok) i h
def D4 (ops:Array Oper) (x y:Oper) (tx ty:List Nat × List Nat):Bool :=
 (match x.dst,y.dst with | some a,some b=>a != b | _,_=>true) &&
 (match x.dst with | some a=>!(y.looksAt ops).contains a | none=>true) &&
 (match y.dst with | some a=>!(x.looksAt ops).contains a | none=>true) &&
 tx.2.all (fun b=>!rd ty.1 b && !ty.2.contains b) && ty.2.all (fun b=>!rd tx.1 b)
def Ds (ops:Array Oper) (tr:List (List Nat × List Nat)):Bool :=
 let ms:=EN ops.toList []
 let l:=ops.toList.zip tr
 l.zipIdx.all fun (q,j)=>(Kr q.1).all (·<j) && (l.zipIdx.take j).all fun (p,i)=>(ms.getD j 0).testBit i || D4 ops p.1 q.1 p.2 q.2
theorem Rd {ops:Array Oper} {tr:List (List Nat × List Nat)} (h:Ds ops tr=true) :
  (∀ j o t,ops.toList[j]?=some o→tr[j]?=some t→∀ i,i∈Kr o→i<j) ∧
  (∀ i j oi oj ti tj,ops.toList[i]?=some oi→tr[i]?=some ti→ops.toList[j]?=some oj→tr[j]?=some tj→i<j →
   ((EN ops.toList []).getD j 0).testBit i=true∨D4 ops oi oj ti tj=true):=by
 have hz:∀ j o t,ops.toList[j]?=some o→tr[j]?=some t→(ops.toList.zip tr)[j]?=some (o,t):=fun j o t h1 h2=>by
  rw[Afw];exact ⟨h1,h2⟩
 have hzi:∀ j o t,ops.toList[j]?=some o→tr[j]?=some t→((o,t),j)∈(ops.toList.zip tr).zipIdx:=fun j o t h1 h2=>by
  rw[List.mem_zipIdx_iff_getElem?];exact hz j o t h1 h2
 simp only[Ds,Ae1] at h
 refine ⟨fun j o t h1 h2 i hi=>?_,fun i j oi oj ti tj h1 h2 h3 h4 hlt=>?_⟩
 ·have:=h ((o,t),j) (hzi j o t h1 h2)
  simp only[AdY,Ae1,decide_eq_true_eq] at this
  exact this.1 i hi
 ·have:=h ((oj,tj),j) (hzi j oj tj h3 h4)
  simp only[AdY,Ae1,decide_eq_true_eq,Agb] at this
  refine this.2 ((oi,ti),i) ?_
  have hgi:((ops.toList.zip tr).zipIdx)[i]?=some ((oi,ti),i):=by
   rw[List.getElem?_zipIdx,hz i oi ti h1 h2];simp
  refine AdZ (i:=i) ?_
  rw[Agi,if_pos hlt,hgi]
section
variable {y:Bool} {r:Option Nat} {P:Program} {G:Ad} {ops:Array Oper}
theorem KY:∀ (l:List (Oper × Eff)) (m:Nat) (S:Nat→Bool) (σ:List AV × AX),(∀ j,m≤j→S j=false)→stS l m S σ=σ
 | [],_,_,_,_=>rfl
 | (o,e)::r,m,S,σ,h=>by
   rw[stS,h m (Af5 _)]
   simp only[AdX,if_false]
   exact KY r (m+1) S σ (fun j hj=>h j (by omega))
theorem Ve {todo:List Oper} {s s':List AV} {H H':AX} {es:List Eff} (c:Kd y r P G ops todo s H es s' H'):∀ (m k:Nat) (o:Oper) (e:Eff),(todo.zip es)[k]?=some (o,e) →
  XE y r P G ops o (stS (todo.zip es) m (fun j=>decide (j<m+k)) (s,H)).1 (stS (todo.zip es) m (fun j=>decide (j<m+k)) (s,H)).2 e:=by
 induction c with
 | nil s H=>intro m k o e h;simp at h
 | cons h1 h2 ih =>
  rename_i o rest s s' H H' e es
  intro m k o' e' h
  cases k with
  | zero =>
   simp at h
   obtain ⟨rfl,rfl⟩:=h
   rw[KY _ _ _ _ (fun j hj=>by simp;omega)]
   exact h1
  | succ k =>
   simp at h
   have:=ih (m+1) k o' e' h
   simp only[Af3,stS]
   have hm:decide (m<m+(k+1))=true:=by simp
   simp only[hm,if_true]
   have e2:(fun j=>decide (j<m+(k+1)))=(fun j=>decide (j<m+1+k)):=by funext j;congr 1;apply propext;constructor<;>intro<;>omega
   rw[e2]
   exact this
theorem Vf {todo:List Oper} {s s':List AV} {H H':AX} {es:List Eff} (c:Kd y r P G ops todo s H es s' H'):es.length=todo.length∧∀ (m:Nat) (S:Nat→Bool),(∀ k,k<todo.length→S (m+k)=true)→stS (todo.zip es) m S (s,H)=(s',H'):=by
 induction c with
 | nil s H=>exact ⟨rfl,fun m S _=>rfl⟩
 | cons h1 h2 ih =>
  rename_i o rest s s' H H' e es
  refine ⟨by simp[ih.1],fun m S hS=>?_⟩
  have h0:=hS 0 (by simp)
  simp only[Agx] at h0
  simp only[Af3,stS,h0,if_true,CQ]
  exact ih.2 (m+1) S (fun k hk=>by have:=hS (k+1) (by simp;omega);rwa[show m+(k+1)=m+1+k by omega] at this)
theorem J4 {x y:Oper} {ex ey:Eff} (h:D4 ops x y (ex.r,ex.w.map (·.1)) (ey.r,ey.w.map (·.1))=true):JG x y ex ey∧JG y x ey ex ∧
  (∀ d,x.dst=some d→d∉y.looksAt ops)∧(∀ d,y.dst=some d→d∉x.looksAt ops)∧(∀ b,b∈ex.w.map (·.1)→rd ey.r b=false)∧(∀ b,b∈ey.w.map (·.1)→rd ex.r b=false):=by
 simp only[D4,AdY,Ae1,Agp,List.contains_eq_mem,decide_eq_false_iff_not] at h
 obtain ⟨⟨⟨⟨h1,h2⟩,h3⟩,h4⟩,h5⟩:=h
 have hd:∀ d,x.dst=some d→y.dst≠some d:=by
  intro d hx hy
  simp[hx,hy] at h1
 refine ⟨⟨hd,fun b hb=>(h4 b hb).2⟩,⟨fun d hy hx=>hd d hx hy,fun b hb hb'=>(h4 b hb').2 hb⟩,fun d hx=>?_,fun d hy=>?_,fun b hb=>(h4 b hb).1,h5⟩
 ·simpa[hx] using h2
 ·simpa[hy] using h3
theorem Rp {n:Nat} {listed:Array Bool} {i:Nat} (hs:listed.size=n) (hi:i<n) (hl:listed.getD i false=false) :
  (Ad1 n).countP (fun j=>!(listed.setIfInBounds i true).getD j false)+1=(Ad1 n).countP (fun j=>!listed.getD j false):=by
 have gen:∀ m,m≤n→(Ad1 m).countP (fun j=>!(listed.setIfInBounds i true).getD j false)+(if i<m then 1 else 0)=(Ad1 m).countP (fun j=>!listed.getD j false):=by
  intro m
  induction m with
  | zero=>simp
  | succ m ih =>
   intro hm
   have:=ih (by omega)
   rw[List.range_succ,Agl,Agl]
   simp only[List.countP_cons,List.countP_nil]
   by_cases he:m=i
   ·subst he
    have h1:(listed.setIfInBounds m true).getD m false=true:=by
     simp[hs,hi]
    rw[h1,hl]
    simp at this ⊢
    omega
   ·have h1:(listed.setIfInBounds i true).getD m false=listed.getD m false:=by
     simp[AfP,AfU (Ne.symm he)]
    rw[h1]
    by_cases hlt:i<m
    ·have h2:i<m+1:=by omega
     simp only[hlt,if_true] at this
     simp only[h2,if_true]
     omega
    ·have h2:¬i<m+1:=by omega
     simp only[hlt,if_false] at this
     simp only[h2,if_false]
     omega
 have:=gen n (Af5 _)
 rw[if_pos hi] at this
 exact this
theorem Vp {h0:Ag} {ρ0:Place} {w0:World} {Q:Exit→Act→World→Prop} {s s':List AV} {H H':AX} {es:List Eff}
  (c:Kd y r P G ops ops.toList s H es s' H') (hd:Ds ops (es.map fun e=>(e.r,e.w.map (·.1)))=true) (hq:∀ a w,At y r G h0 ρ0 w0 s' H' a w→Q .normal a w) :
  ∀ (fuel:Nat) (listed:Array Bool) (a:Act) (w:World),listed.size=ops.size→(∀ k,listed.getD k false=true→∀ o,ops.toList[k]?=some o→∀ i,i∈Kr o→listed.getD i false=true) →
   (Ad1 ops.size).countP (fun j=>!listed.getD j false)=fuel →
   At y r G h0 ρ0 w0 (stS (ops.toList.zip es) 0 (fun j=>listed.getD j false) (s,H)).1 (stS (ops.toList.zip es) 0 (fun j=>listed.getD j false) (s,H)).2 a w→wpAnyIn (fR r) 0 P .any ops Q fuel listed a w:=by
 obtain ⟨d1,d2⟩:=Rd hd
 obtain ⟨ce1,ce2⟩:=Vf c
 have hes:∀ j,j<ops.size→∃ o e,ops[j]?=some o∧es[j]?=some e∧(ops.toList.zip es)[j]?=some (o,e):=by
  intro j hj
  have h1:ops.toList[j]?=some ops[j]:=by simp
  have h2:j<es.length:=by rw[ce1];simpa using hj
  exact ⟨ops[j],es[j],by simp[AdU hj],AdT h2,by rw[Afw];exact ⟨h1,AdT h2⟩⟩
 have done:∀ (listed:Array Bool) (a:Act) (w:World),(∀ j,j<ops.size→listed.getD j false=true) →
   At y r G h0 ρ0 w0 (stS (ops.toList.zip es) 0 (fun j=>listed.getD j false) (s,H)).1 (stS (ops.toList.zip es) 0 (fun j=>listed.getD j false) (s,H)).2 a w→Q .normal a w:=by
  intro listed a w hall hat
  have:=ce2 0 (fun j=>listed.getD j false) (fun k hk=>by simpa using hall k (by simpa using hk))
  rw[this] at hat
  exact hq a w hat
 have ready_all:∀ (listed:Array Bool),listed.size=ops.size→Region.ready .any ops listed=[]→∀ j,j<ops.size→listed.getD j false=true:=by
  intro listed hsz hr j
  induction j using Ags with
  | _ j ih =>
   intro hj
   cases hl:listed.getD j false with
   | true=>rfl
   | false =>
    exfalso
    obtain ⟨o,e,q1,q2,q3⟩:=hes j hj
    have hin:j∈Region.ready .any ops listed:=by
     simp only[Region.ready,Af1,Af4]
     refine ⟨hj,?_⟩
     have hlt:j<listed.size:=by omega
     have:listed.getD j true=false:=by
      simp[AdU hlt] at hl ⊢
      exact hl
     simp only[this,q1,AfZ,AfV,Bool.not_false,Agv]
     rw[AfT]
     intro x hx
     by_cases hb:Region.binds .any x=true
     ·have hmem:x.on∈Kr o:=by
       simp only[Kr,AfS,Af1]
       exact ⟨x,⟨by simpa using hx,hb⟩,rfl⟩
      have hlt':=d1 j o (e.r,e.w.map (·.1)) (by simpa using q1) (by simp[q2]) x.on hmem
      have:=ih x.on hlt' (by omega)
      rw[this]
      simp
     ·simp[hb]
    rw[hr] at hin
    cases hin
 intro fuel
 induction fuel with
 | zero =>
  intro listed a w hsz hdc hcnt hat
  have hall:∀ j,j<ops.size→listed.getD j false=true:=by
   intro j hj
   have:=List.countP_eq_zero.1 hcnt j (Af4.2 hj)
   simpa using this
  refine ⟨?_,done listed a w hall hat⟩
  simp only[Region.ready,List.filter_eq_nil_iff,Af4]
  intro j hj
  have:=hall j hj
  have hlt:j<listed.size:=by omega
  have h2:listed.getD j true=true:=by
   simp[AdU hlt] at this ⊢
   exact this
  simp[h2]
 | succ fuel ih =>
  intro listed a w hsz hdc hcnt hat
  refine ⟨fun hr=>done listed a w (ready_all listed hsz hr) hat,fun i hi=>?_⟩
  simp only[Region.ready,Af1,Af4] at hi
  obtain ⟨hin,hi⟩:=hi
  obtain ⟨o,e,q1,q2,q3⟩:=hes i hin
  have hlti:i<listed.size:=by omega
  simp only[q1,AfZ,AfV,AdY,Agp] at hi
  obtain ⟨hi1,hi2⟩:=hi
  have hil:listed.getD i false=false:=by
   simp[AdU hlti] at hi1 ⊢
   exact hi1
  have hedge:∀ k,k∈Kr o→listed.getD k false=true:=by
   intro k hk
   simp only[Kr,AfS,Af1] at hk
   obtain ⟨x,⟨hx,hb⟩,rfl⟩:=hk
   rw[AfT] at hi2
   have:=hi2 x (by simpa using hx)
   simp[hb] at this
   simpa using this
  have hop:ops.toList[i]?=some o:=by simpa using q1
  have apart:∀ j o' e',(ops.toList.zip es)[j]?=some (o',e')→j≠i→listed.getD j false≠decide (j<i)→D4 ops o' o (e'.r,e'.w.map (·.1)) (e.r,e.w.map (·.1))=true∨D4 ops o o' (e.r,e.w.map (·.1)) (e'.r,e'.w.map (·.1))=true:=by
   intro j o' e' hj hne hS
   rw[Afw] at hj
   obtain ⟨hj1,hj2⟩:=hj
   rcases Nat.lt_or_gt_of_ne hne with hlt | hgt
   ·
    have hnl:listed.getD j false=false:=by
     have:decide (j<i)=true:=by simpa using hlt
     rw[this] at hS
     cases hc:listed.getD j false<;>simp_all
    rcases d2 j i o' o (e'.r,e'.w.map (·.1)) (e.r,e.w.map (·.1)) hj1 (by simp[hj2]) hop (by simp[q2]) hlt with hm | hm
    ·have:=PY (ops:=ops.toList) (S:=fun k=>listed.getD k false=true) (fun k hk o ho i hi=>hdc k hk o ho i hi) i o hop hedge j hm
     rw[hnl] at this;cases this
    ·exact .inl hm
   ·have hyl:listed.getD j false=true:=by
     have:decide (j<i)=false:=by simp;omega
     rw[this] at hS
     cases hc:listed.getD j false<;>simp_all
    rcases d2 i j o o' (e.r,e.w.map (·.1)) (e'.r,e'.w.map (·.1)) hop (by simp[q2]) hj1 (by simp[hj2]) hgt with hm | hm
    ·have:=PY (ops:=ops.toList) (S:=fun k=>listed.getD k false=true) (fun k hk o ho i hi=>hdc k hk o ho i hi) j o' hj1 (hdc j hyl o' hj1) i hm
     rw[hil] at this;cases this
    ·exact .inr hm
  have apart':∀ j o' e',(ops.toList.zip es)[j]?=some (o',e')→j≠i→listed.getD j false≠decide (j<i)→JG o o' e e'∧(∀ d,o'.dst=some d→d∉o.looksAt ops)∧(∀ b,b∈e'.w.map (·.1)→rd e.r b=false):=by
   intro j o' e' hj hne hS
   rcases apart j o' e' hj hne hS with h | h
   ·obtain ⟨p1,p2,p3,p4,p5,p6⟩:=J4 h
    exact ⟨p2,p3,p5⟩
   ·obtain ⟨p1,p2,p3,p4,p5,p6⟩:=J4 h
    exact ⟨p1,p4,p6⟩
  obtain ⟨h,ρ,t1,t2,t4⟩:=hat
  have hloc:=Ve c 0 i o e q3 h ρ _ _ a w t1 t2
   (fun t ht=>Pw t _ 0 _ _ _ _ (fun j o' e' hj hS hdst=>by
    simp only[AfJ] at hS
    have hne:j≠i:=by
     rintro rfl
     simp[hil] at hS
    exact (apart' j o' e' hj hne hS).2.1 t hdst ht) rfl rfl)
   (fun b hb=>Tt b _ 0 _ _ _ _ (fun j o' e' hj hS hbw=>by
    simp only[AfJ] at hS
    have hne:j≠i:=by
     rintro rfl
     simp[hil] at hS
    have h1:=(apart' j o' e' hj hne hS).2.2 b hbw
    rw[hb] at h1
    cases h1) rfl)
  have hset:(fun j=>(listed.setIfInBounds i true).getD j false)=(fun j=>listed.getD j false || j == i):=by
   funext j
   by_cases hj:j=i
   ·subst hj;simp[hlti]
   ·simp[AfP,AfU (Ne.symm hj),hj]
  have hadd:=Tu (o:=o) (e:=e) (k:=i) (ops.toList.zip es) 0 (fun j=>listed.getD j false) (s,H) (Nat.zero_le _) (by simpa using q3) hil
   (fun j o' e' hj hlt hS=>by
    simp only[AfJ] at hlt hS
    exact (apart' j o' e' hj (by omega) (by rw[hS];simp;omega)).1)
  have next:∀ a' w',(∃ v h' ρ',a'=a.put o.dst v∧Sim G h' ρ' (Aj (stS (ops.toList.zip es) 0 (fun j=>listed.getD j false) (s,H)).2 e.w) w'∧R h' ρ' v e.res∧N4 y h ρ w h' ρ' w')→wpAnyIn (fR r) 0 P .any ops Q fuel (listed.setIfInBounds i true) a' w':=by
   rintro a' w' ⟨v,h',ρ',rfl,u1,u2,u3⟩
   refine ih (listed.setIfInBounds i true) _ w' (by simpa using hsz) (fun k hk p hp j hj=>?_) ?_ ⟨h',ρ',?_,?_,by rw[Ln];exact t4.go u3⟩
   ·have e1:(listed.setIfInBounds i true).getD k false=(listed.getD k false || k == i):=congrFun hset k
    rw[e1] at hk
    have e2:(listed.setIfInBounds i true).getD j false=(listed.getD j false || j == i):=congrFun hset j
    rw[e2]
    by_cases hki:k=i
    ·subst hki
     have:p=o:=by rw[hop] at hp;exact (Option.some.inj hp).symm
     subst this
     simp[hedge j hj]
    ·have hk':listed.getD k false=true:=by
      simp only[Agb,beq_iff_eq,hki,or_false] at hk
      exact hk
     rw[hdc k hk' p hp j hj]
     rfl
   ·have:=Rp hsz hin hil
    omega
   ·rw[hset,hadd];exact u1
   ·rw[hset,hadd];exact (t2.mono u3.1 u3.2.1).putA o.dst u2
  simp only at hloc
  unfold wpOpIn
  simp only[q1]
  split at hloc
  ·rename_i hw
   simp only[hw,if_true]
   exact Oper.wpIn_mono next (Oper.wpIn_false hloc)
  ·rename_i hw
   simp only[hw]
   obtain ⟨v,h',ρ',e1,u1,u2,u3⟩:=hloc
   exact ⟨fun _ _=>trivial,next _ _ ⟨v,h',ρ',e1,u1,u2,u3⟩⟩
end
end Go.Abs
namespace Go.Abs
open Go
abbrev BZ:=FuncId→Bool
def S9 (P:Program) (H:List Aa) (e:Nat) (k:Eff→Prop):Prop :=
 match Al P e with
 | some ti=>k ⟨.ptr H.length 0,[(H.length,.box (ti.zero.map .d))],[H.length]⟩
 | none=>False
def O9 (P:Program) (H:List Aa) (e:Nat) (k:Eff→Prop):Prop :=
 match Al P e with
 | some ti=>ti.zero=[.nilp,.sl 0 true []]∧k ⟨.ptr H.length 0,[(H.length,.bld e false 0 none)],[H.length]⟩
 | none=>False
def O8 (m:Bool) (P:Program) (H:List Aa) (e:Nat) (k:Eff→Prop):Prop :=
 match m with
 | false=>S9 P H e k
 | true=>O9 P H e k
def Aa0 (H:List Aa) (x:AV) (k:Eff→Prop):Prop :=
 match AA x with
 | some cs=>k ⟨.ptr H.length 0,[(H.length,.box cs)],[H.length]⟩
 | none=>False
def Wg (c x y:AV) (k:Eff→Prop):Prop :=
 match c with
 | .d (.bool b)=>k ⟨if b then x else y,[],[]⟩
 | _=>False
def Bf:List D→Option (List Int)
 | []=>some []
 | .int .u8 n::r=>match Bf r with
   | some l=>some (n::l)
   | none=>none
 | _::_=>none
theorem Gq:∀ {cs:List D} {xs:List Int},Bf cs=some xs→xs.length=cs.length∧∀ (i:Nat) x,cs[i]?=some x→x=.int .u8 (xs.getD i 0)
 | [],xs,e=>by simp[Bf] at e;subst e;simp
 | c::r,xs,e=>by
   unfold Bf at e
   split at e
   ·rename_i he;cases he
   ·rename_i n r' he
    cases he
    split at e
    ·rename_i l hl
     cases e
     obtain ⟨h1,h2⟩:=Gq hl
     refine ⟨by simp[h1],fun i x hx=>?_⟩
     cases i with
     | zero=>simp at hx;subst hx;simp
     | succ i=>simpa using h2 i x (by simpa using hx)
    ·cases e
   ·cases e
def GV:List D→Option (List Int)
 | []=>some []
 | .int .i32 n::r=>match GV r with
   | some l=>some (n::l)
   | none=>none
 | _::_=>none
theorem Fy:∀ {cs:List D} {xs:List Int},GV cs=some xs→xs.length=cs.length∧∀ (i:Nat) x,cs[i]?=some x→x=.int .i32 (xs.getD i 0)
 | [],xs,e=>by simp[GV] at e;subst e;simp
 | c::r,xs,e=>by
   unfold GV at e
   split at e
   ·rename_i he;cases he
   ·rename_i n r' he
    cases he
    split at e
    ·rename_i l hl
     cases e
     obtain ⟨h1,h2⟩:=Fy hl
     refine ⟨by simp[h1],fun i x hx=>?_⟩
     cases i with
     | zero=>simp at hx;subst hx;simp
     | succ i=>simpa using h2 i x (by simpa using hx)
    ·cases e
   ·cases e
def HD (s:ByteArray):Nat→Nat→List Nat
 | 0,_=>[]
 | b+1,i=>if i<s.size then (Utf8.decode s i).1::HD s b (i+(Utf8.decode s i).2) else []
def Da (s:ByteArray):List Nat:=HD s s.size 0
theorem IA (s:ByteArray):∀ (b i:Nat) (acc:Array Value),Conv.runesFrom s b i acc=acc++((HD s b i).map fun (n:Nat)=>Value.int .i32 (n:Int)).toArray
 | 0,_,acc=>by simp[Conv.runesFrom,HD]
 | b+1,i,acc=>by
   unfold Conv.runesFrom HD
   split
   ·simp only
    rw[IA s b]
    apply Array.ext'
    simp
   ·simp
theorem MU (s:ByteArray):Conv.runesFrom s s.size 0 #[]=((Da s).map fun (n:Nat)=>Value.int .i32 (n:Int)).toArray:=by rw[IA];simp[Da]
theorem Ld (s:ByteArray):∀ (b i:Nat),(HD s b i).length≤b
 | 0,_=>Af5 _
 | b+1,i=>by unfold HD;split<;>simp;exact Ld s b _
def Jk (s:ByteArray):List D:=(Da s).map fun (n:Nat)=>.int .i32 (n:Int)
def T8 (P:Program) (H:List Aa) (src dst:Nat) (x:AV) (k:Eff→Prop):Prop :=
 match x with
 | .d (.int _ n)=>match D0 P dst with
   | some kk=>(Al P src).isSome=true∧k ⟨.d (.int kk (kk.wrap n)),[],[]⟩
   | none=>(D0 P src).isSome=true∧AD P dst=true∧k ⟨.d (.str (Utf8.encode n)),[],[]⟩
 | .d (.str s)=>AD P src=true∧match AD P dst with
   | true=>k ⟨.d (.str s),[],[]⟩
   | false=>match Ak P dst with
     | some (e,_)=>match D0 P e with
       | some .u8=>k ⟨.lsl H.length 1 0 s.size,[(H.length,.row false (s.data.toList.map fun b=>.int .u8 b.toNat))],[H.length]⟩
       | some .i32=>s.size≤70368744177664∧k ⟨.lsl H.length 1 0 (Da s).length,[(H.length,.row false (Jk s))],[H.length]⟩
       | _=>False
     | none=>False
 | .d (.sl n _ cs)=>match Ak P src with
   | some (e,_)=>AD P dst=true∧cs.length=n∧match D0 P e with
     | some .u8=>(match Bf cs with
       | some l=>k ⟨.d (.str (strOfNums l)),[],[]⟩
       | none=>False)
     | some .i32=>(match GV cs with
       | some l=>k ⟨.d (.str (runesBytes l)),[],[]⟩
       | none=>False)
     | _=>False
   | none=>False
 | .lsl b _ off n=>match Ak P src with
   | some (e,_)=>AD P dst=true∧match H[b]? with
     | some (.row _ cs)=>(cut cs off n).length=n∧(match D0 P e with
       | some .u8=>(match Bf (cut cs off n) with
         | some l=>k ⟨.d (.str (strOfNums l)),[],[b]⟩
         | none=>False)
       | some .i32=>(match GV (cut cs off n) with
         | some l=>k ⟨.d (.str (runesBytes l)),[],[b]⟩
         | none=>False)
       | _=>False)
     | _=>False
   | none=>False
 | _=>False
def noE:AV→AV
 | .d .esl=>.d (.sl 0 true [])
 | .d (.val (.slice none 0 0))=>.d (.sl 0 true [])
 | x=>x
theorem R.noE {h:Ag} {ρ:Place} {v:Value} {x:AV} (r:R h ρ v x):R h ρ v (noE x):=by
 unfold Go.Abs.noE
 split
 ·cases r with | d _ _ hd=>cases hd with | esl a=>exact .d _ _ (.sl0 _ _)
 ·cases r with | d _ _ hd=>cases hd with | val=>exact .d _ _ (.sl0 _ _)
 ·exact r
def Xr (m:Bool) (P:Program) (H:List Aa) (ts:Array TypeId) (s x:AV) (k:Eff→Prop):Prop :=
 match m with
 | false=>match s with
   | .d .esl=>CF P H ts (.d (.sl 0 true [])) (noE x) k
   | .d (.val (.slice none 0 0))=>CF P H ts (.d (.sl 0 true [])) (noE x) k
   | _=>CF P H ts s x k
 | true=>I7 P H ts s x k
def I9 (P:Program) (l:Nat) (J:List (D × Bool)→Ag→Place→World→Prop):Prop :=
 ∀ (x:D) (b:Bool) (rest:List (D × Bool)) (G:Ad) (h:Ag) (ρ:Place) (H:AX) (w:World) (v:Value),Sim G h ρ H w→H 0=some (.ext J ((x,b)::rest))→RD h v x →
  ∃ fn tmps assign body,(Instr.yield l #[v]).run P w=.ok (.round l fn tmps assign body) w ∧
   RoundIn (fR none) 0 P l fn tmps assign body w (fun e w'=>e=.returned (.bool b)∧∃ h',h.le h'∧Sim G h' ρ (Aj H [(0,.ext J rest)]) w')
def Jb (P:Program) (M:BZ) (f:AV) (xs:List AV) (H:List Aa) (k:Eff→Prop):Prop :=
 M 3000000=true∧∃ l J d b rest Hr x,f=.fn (.yield l) [] []∧xs=[x]∧H=.ext J ((d,b)::rest)::Hr∧I9 P l J∧sealA H x=some d∧AJ x=[]∧k ⟨.d (.bool b),[(0,.ext J rest)],[0]⟩
theorem Jb.by {P:Program} {M:BZ} {l:Nat} {J:List (D × Bool)→Ag→Place→World→Prop} {d:D} {b:Bool} {rest:List (D × Bool)} {Hr:List Aa} {x:AV} {k:Eff→Prop} (hM:M 3000000=true) (hJ:I9 P l J)
  (hs:sealA (.ext J ((d,b)::rest)::Hr) x=some d) (hi:AJ x=[]) (hk:k ⟨.d (.bool b),[(0,.ext J rest)],[0]⟩):Jb P M (.fn (.yield l) [] []) [x] (.ext J ((d,b)::rest)::Hr) k :=
 ⟨hM,l,J,d,b,rest,Hr,x,rfl,rfl,rfl,hJ,hs,hi,hk⟩
def FQ:Nat→List Aa→List (Nat × Aa)
 | _,[]=>[]
 | n,b::r=>(n,b)::FQ (n+1) r
def Aa8 (H:List Aa) (x y:AV):Prop:=y=x∨y=unfA x∨∃ d,sealA H x=some d∧AJ x=[]∧(y=.d d∨y=.d (unf d))
def Ke (H:List Aa):List AV→List AV→Prop
 | [],[]=>True
 | x::r,y::r2=>Aa8 H x y∧Ke H r r2
 | _,_=>False
def Ap (P:Program) (G:Ad) (H:List Aa) (f:FuncId) (avs:List AV) (k:Eff→Prop):Prop :=
 (∃ avs' res Hn,Ke H avs avs'∧Ctr P G f avs' H res Hn∧H.length≤Hn.length∧k ⟨res,FQ 0 Hn,[Hj,Hj]⟩)∨(∃ (m:Bool) (L:List Nat),L.Nodup∧OV P G m H L f avs k) ∨
  ∃ (L:List Nat) (HS:(Nat→Nat→Value)→List Aa) (ars:List AV) (d:D),L.Nodup∧(∀ e,(HS e).length=L.length)∧(∀ e (j b:Nat),L[j]?=some b→∃ B C,H[b]?=some B∧(HS e)[j]?=some C∧EY L e j B C) ∧
   Ms H L avs ars∧(∀ e,Ctr P G f ars (HS e) (.d d) (HS e))∧k ⟨.d d,[],L⟩
def SV (P:Program) (G:Ad) (M:BZ) (H:List Aa) (f:FuncId) (avs:List AV) (k:Eff→Prop):Prop :=
 match M (4000000+f) with
 | false=>Xm P G M H f avs k
 | true=>Ap P G H f avs k
def Mc (P:Program) (G:Ad) (M:BZ) (m:Bool) (ev:Operand→AV) (H:List Aa) (c:Call) (k:Eff→Prop):Prop :=
 match c.callee with
 | .value fo=>match DW (ev fo) (c.args.toList.map ev) with
   | some (f,avs)=>SV P G M H f avs k
   | none=>Jb P M (ev fo) (c.args.toList.map ev) H k
 | .builtin b=>match b,c.args.toList with
   | .append,[s,x]=>Xr m P H c.argTypes (ev s) (ev x) k
   | .len,[x]=>Zc P c.argTypes (ev x) k
   | .clear,[x]=>OS P H c.argTypes (ev x) k
   | .max,_=>mmK true (c.args.toList.map ev) k
   | .min,_=>mmK false (c.args.toList.map ev) k
   | _,_=>False
 | _=>False
@[reducible] def markK (M:BZ):Option Nat→Bool
 | some t=>M (2000000+t)
 | none=>false
def TA (H:List Aa) (x:AV) (k:Eff→Prop):Prop :=
 match x with
 | .lsl b _ _ _=>match H[b]? with
   | some (.box cs)=>match sealR H cs with
     | some ds=>cs.all AV.one=true∧b∉idsL cs∧k ⟨x,frz H (idsL cs)++[(b,.row false ds)],b::idsL cs⟩
     | none=>False
   | _=>False
 | _=>False
def Wy (m:Bool) (H:List Aa) (x:AV) (k:Eff→Prop):Prop :=
 match m with
 | false=>k ⟨x,[],[]⟩
 | true=>TA H x k
def OW (m:Bool) (P:Program) (ev:Operand→AV) (H:List Aa) (t len:Nat) (parts:Array (Nat × Operand)) (k:Eff→Prop):Prop :=
 match m with
 | false=>EX P ev H t len parts k
 | true=>Ha P ev H t len parts k
def Sp (m:Bool) (P:Program) (H:List Aa) (t:Nat) (l c:AV) (k:Eff→Prop):Prop :=
 match m with
 | false=>FH P H t l c k
 | true=>IJ P H t l c k
def WO (P:Program) (t:Nat):Bool :=
 match P.underlying t with
 | some (.interface _)=>true
 | _=>false
def TT (op:BinOp) (x:AV) (k:Eff→Prop):Prop :=
 match op,x with
 | .eql,.d .nili=>k ⟨.d (.bool true),[],[]⟩
 | .eql,.d .ifc=>k ⟨.d (.bool false),[],[]⟩
 | .neq,.d .nili=>k ⟨.d (.bool false),[],[]⟩
 | .neq,.d .ifc=>k ⟨.d (.bool true),[],[]⟩
 | _,_=>False
def Zo (P:Program) (t:Nat):Bool :=
 match P.underlying t with
 | some (.func ..)=>true
 | _=>false
def TU (op:BinOp) (x:AV) (k:Eff→Prop):Prop :=
 match op,x with
 | .eql,.d .nilf=>k ⟨.d (.bool true),[],[]⟩
 | .eql,.d (.fn _ _ _)=>k ⟨.d (.bool false),[],[]⟩
 | _,_=>False
def XV (op:BinOp) (x:AV) (k:Eff→Prop):Prop :=
 match op,x with
 | .neq,.d .esl=>k ⟨.d (.bool true),[],[]⟩
 | .neq,.d (.sl (_+1) _ _)=>k ⟨.d (.bool true),[],[]⟩
 | .neq,.d (.val (.slice none _ _))=>k ⟨.d (.bool false),[],[]⟩
 | _,_=>False
def ZD (P:Program) (op:BinOp) (t:Nat) (y:Operand) (a b:AV) (k:Eff→Prop):Prop :=
 match y with
 | .const .nilIface=>WO P t=true∧TT op a k
 | .const .nilFunc=>Zo P t=true∧TU op a k
 | .const (.slice none 0 0)=>A0 P t=true∧XV op a k
 | _=>ZF P op t a b k
@[reducible] def WE (M:BZ):Option Nat→Bool
 | some t=>M (5000000+t)
 | none=>false
def evC (ev:Operand→AV):Operand→AV
 | .const v=>.d (.val v)
 | x=>ev x
def OU (e:Bool) (P:Program) (G:Ad) (M:BZ) (m:Bool) (ev:Operand→AV) (H:List Aa) (c:Call) (k:Eff→Prop):Prop :=
 match e with
 | true=>Mc P G M m (evC ev) H c k
 | false=>Mc P G M m ev H c k
def JD (P:Program) (H:List Aa) (t len:Nat) (parts:Array (Nat × Operand)) (k:Eff→Prop):Prop :=
 len=0∧parts=#[]∧(Ak P t).isSome=true∧k ⟨.d .esl,[(H.length,.dead)],[H.length]⟩
def OX (e m:Bool) (P:Program) (ev:Operand→AV) (H:List Aa) (t len:Nat) (parts:Array (Nat × Operand)) (k:Eff→Prop):Prop :=
 match e with
 | true=>JD P H t len parts k
 | false=>OW m P ev H t len parts k
def opK (P:Program) (G:Ad) (M:BZ) (o:Oper) (ev:Operand→AV) (H:List Aa) (k:Eff→Prop):Prop :=
 match o.op with
 | .move x=>Wy (markK M o.dst) H (ev x) k
 | .assign x=>k ⟨ev x,[],[]⟩
 | .pick c x y=>Wg (ev c) (ev x) (ev y) k
 | .alloc e=>O8 (markK M o.dst) P H e k
 | .box _ x=>Aa0 H (ev x) k
 | .build t ps=>OY P ev t ps k
 | .buildSlice t n ps=>OX (WE M o.dst) (markK M o.dst) P ev H t n ps k
 | .load t a=>TW P H t (ev a) k
 | .store t a x=>Oh P H t (ev a) (ev x) k
 | .nilCheck x=>G4 (ev x) k
 | .binOp op t x y _=>ZD P op t y (ev x) (ev y) k
 | .unOp op _ x=>unK op (ev x) k
 | .convert src dst x=>T8 P H src dst (ev x) k
 | .makeFunc fn a b=>k ⟨.fn fn (a.toList.map ev) (b.toList.map ev),[],[]⟩
 | .makeSlice t l c=>Sp (markK M o.dst) P H t (ev l) (ev c) k
 | .slice t x lo hi mx=>KA (markK M o.dst) P H ev t (ev x) lo hi mx k
 | .fieldAddr t x f=>FM P t (ev x) f k
 | .field t x f=>fieldK P t (ev x) f k
 | .indexAddr t x i=>FJ P t (ev x) (ev i) k
 | .index t x i=>OG P t (ev x) (ev i) k
 | .extract x i=>IR (ev x) i k
 | .call c=>OU (WE M o.dst) P G M (markK M o.dst) ev H c k
 | .lookup t x i ok=>KI P H t (ev x) (ev i) ok k
 | .mapUpdate t x i v=>Il P H t (ev x) (ev i) (ev v) k
 | .insert t x i v=>Il P H t (ev x) (ev i) (ev v) k
 | .makeMap t none=>II P H t k
 | .range t x=>Ou P H t (ev x) k
 | .next x str=>TV H (ev x) str k
 | _=>False
section
variable {P:Program} {G:Ad} {M:BZ} {o:Oper} {ev:Operand→AV} {H:List Aa}
theorem RD.int_val {h:Ag} {v:Value} {k:IntKind} {n:Int} (r:RD h v (.int k n)):v=.int k n:=by cases r;rfl
theorem Mt:strOfNums []=ByteArray.empty:=rfl
theorem Lg {w:World} {src dst e:Nat} (hs:P.underlying src=some (.slice e)) (he:P.underlying e=some (.int .u8)) (hd:P.underlying dst=some .string) (base:Option Addr) :
  (convert src dst (.slice base 0 0)).run P w=.ok (.string (strOfNums [])) w:=by
 rw[run_convert_bytes_string w src dst e base 0 0 hs he hd,Mt]
 cases base with
 | none=>simp[Conv.bytesToString]
 | some b=>simp[Conv.bytesToString,loadCells,loadCellsFrom]
theorem Lf {w:World} {src dst e:Nat} (hs:P.underlying src=some (.slice e)) (he:P.underlying e=some (.int .i32)) (hd:P.underlying dst=some .string) (base:Option Addr) :
  (convert src dst (.slice base 0 0)).run P w=.ok (.string (runesBytes [])) w:=by
 cases base with
 | none=>rw[run_convert_runes_nil w src dst e 0 0 hs he hd];rfl
 | some b=>rw[run_convert_runes w src dst e b 0 0 [] (Af5 _) hs he hd (fun j hj=>by simp at hj)];rfl
theorem Zx {src dst e:Nat} {x:Operand} {s:ByteArray} {k:Eff→Prop} (ho:o.op=.convert src dst x) (mx:x∈o.op.operands.toList) (hx:ev x=.d (.str s)) (hus:P.underlying src=some .string) (hu:P.underlying dst=some (.slice e)) (he:P.underlying e=some (.int .u8))
  (hk:k ⟨.lsl H.length 1 0 s.size,[(H.length,.row false (s.data.toList.map fun b=>.int .u8 b.toNat))],[H.length]⟩):∃ e,Ah P G o ev (hp H) e∧k e:=by
 refine ⟨_,Ah.gen fun h ρ H' a w hs hops hr=>?_,hk⟩
 have e1:=(hx▸hops x mx).str_inv
 have hn:H' H.length=none:=by rw[hr _ (by simp)];simp[hp]
 have hrun:=run_bytes_of_string (P:=P) w src dst e s hus hu he
 have hge:=grownCap_ge w s.size 0 e
 have hsz:s.data.size=s.size:=rfl
 have hcs:(bytesRow s (grownCap w s.size 0 e)).size=grownCap w s.size 0 e:=by simp[bytesRow];omega
 generalize hC:bytesRow s (grownCap w s.size 0 e)=C at hrun hcs
 obtain ⟨s1,t1⟩:=hs.drew.alloc H.length hn (.cells C e (C.size,C.size+1)) C.size (.row false (s.data.toList.map fun b=>.int .u8 b.toNat))
  ⟨fun j x hx=>by
    simp only[AdW] at hx
    cases hc:s.data.toList[j]? with
    | none=>simp[hc] at hx
    | some b=>simp[hc] at hx;subst hx;rfl,
   .inr ⟨w.heap.size,_,_,e,_,Ao _ _ _,heap_alloc_new w.drew _,rfl,fun j hj h=>by simp at h;omega,by simp;omega,fun j x v hx hv=>by
    simp only[AdW] at hx
    cases hc:s.data.toList[j]? with
    | none=>simp[hc] at hx
    | some b =>
     simp[hc] at hx;subst hx
     have hj:j<s.data.size:=by
      have:=(AcB.1 hc).1
      simpa using this
     have hb:=bytesRow_at s (grownCap w s.size 0 e) j hj
     rw[hC,hv] at hb
     cases hb
     have:s.data[j]=b:=by
      have h2:=(AcB.1 hc).2
      simpa using h2
     rw[this]
     exact .int _ _,(fun e=>by cases e),fun j _=>hs.held_none j⟩⟩
 refine ⟨_,_,h,_,?_,s1,.lsl H.length 1 0 s.size (grownCap w s.size 0 e) w.heap.size _ (Ao _ _ _) hge (by omega),AU.drew.trans t1⟩
 simp[execOp,ho,e1,hrun]
theorem Xj {src dst e:Nat} {x:Operand} {s:ByteArray} {k:Eff→Prop} (ho:o.op=.convert src dst x) (mx:x∈o.op.operands.toList) (hx:ev x=.d (.str s)) (hus:P.underlying src=some .string) (hu:P.underlying dst=some (.slice e)) (he:P.underlying e=some (.int .i32))
  (h46:s.size≤70368744177664) (hk:k ⟨.lsl H.length 1 0 (Da s).length,[(H.length,.row false (Jk s))],[H.length]⟩):∃ e,Ah P G o ev (hp H) e∧k e:=by
 refine ⟨_,Ah.gen fun h ρ H' a w hs hops hr=>?_,hk⟩
 have e1:=(hx▸hops x mx).str_inv
 have hn:H' H.length=none:=by rw[hr _ (by simp)];simp[hp]
 have hlen:=Ld s s.size 0
 have hsz:(Conv.runesFrom s s.size 0 #[]).size=(Da s).length:=by rw[MU];simp
 have hrun:=run_runes_of_string (P:=P) w src dst e s hus hu he (by rw[hsz];exact Nat.le_trans hlen h46)
 have hge:=grownCap_ge w (Da s).length 0 e
 rw[hsz] at hrun
 generalize hC:Conv.runesFrom s s.size 0 #[]++Agc (grownCap w (Da s).length 0 e-(Da s).length) (Value.int .i32 0)=C at hrun
 have hcs:C.size=grownCap w (Da s).length 0 e:=by rw[←hC,Array.size_append,hsz];simp;omega
 have hat:∀ (j:Nat) (n:Nat),(Da s)[j]?=some n→C[j]?=some (.int .i32 (n:Int)):=by
  intro j n hj
  have hl:=(AcB.1 hj).1
  rw[←hC,Array.getElem?_append_left (by rw[hsz];exact hl),MU]
  simp[hj]
 obtain ⟨s1,t1⟩:=hs.drew.alloc H.length hn (.cells C e (0,0)) C.size (.row false (Jk s))
  ⟨fun j x hx=>by
    simp only[Jk,AdW] at hx
    cases hc:(Da s)[j]? with
    | none=>simp[hc] at hx
    | some b=>simp[hc] at hx;subst hx;rfl,
   .inr ⟨w.heap.size,_,_,e,_,Ao _ _ _,heap_alloc_new w.drew _,rfl,fun j hj h=>by simp at h,by simp[Jk];omega,fun j x v hx hv=>by
    simp only[Jk,AdW] at hx
    cases hc:(Da s)[j]? with
    | none=>simp[hc] at hx
    | some b =>
     simp[hc] at hx;subst hx
     rw[hat j b hc] at hv
     cases hv
     exact .int _ _,(fun e=>by cases e),fun j _=>hs.held_none j⟩⟩
 refine ⟨_,_,h,_,?_,s1,.lsl H.length 1 0 (Da s).length (grownCap w (Da s).length 0 e) w.heap.size _ (Ao _ _ _) hge (by omega),AU.drew.trans t1⟩
 simp[execOp,ho,e1,hrun]
theorem Hm {w:World} {src dst e:Nat} (hs:P.underlying src=some (.slice e)) (he:P.underlying e=some (.int .i32)) (hd:P.underlying dst=some .string) {g off n cap:Nat} {l:List Int} (hl:l.length=n)
  (hc:∀ i,i<n→w.cell? ⟨g,off+i,none⟩=some (.int .i32 (l.getD i 0))):(convert src dst (.slice (some ⟨g,off,none⟩) n cap)).run P w=.ok (.string (runesBytes l)) w:=by
 have:=run_convert_runes w src dst e ⟨g,off,none⟩ n cap l (by omega) hs he hd (fun j hj=>by
  have e:Addr.add ⟨g,off,none⟩ j=⟨g,off+j,none⟩:=by unfold Addr.add;split<;>simp_all
  rw[e];exact hc j (by omega))
 rwa[List.take_of_length_le (by omega)] at this
theorem T7 {src dst:Nat} {x:Operand} {n:Nat} {full:Bool} {cs:List D} {kd:IntKind} {l:List Int} {st:ByteArray} {k:Eff→Prop} (ho:o.op=.convert src dst x) (mx:x∈o.op.operands.toList) (hx:ev x=.d (.sl n full cs)) (hcs:cs.length=n) (hl:l.length=n)
  (q2:∀ (i:Nat) x,cs[i]?=some x→x=.int kd (l.getD i 0))
  (h0:l=[]→∀ (w:World) (base:Option Addr),(convert src dst (.slice base 0 0)).run P w=.ok (.string st) w)
  (h1:∀ (w:World) (g off cap:Nat),(∀ i,i<n→w.cell? ⟨g,off+i,none⟩=some (.int kd (l.getD i 0)))→(convert src dst (.slice (some ⟨g,off,none⟩) n cap)).run P w=.ok (.string st) w)
  (hk:k ⟨.d (.str st),[],[]⟩):∃ e,Ah P G o ev (hp H) e∧k e:=by
 refine ⟨_,Ah.val fun h ρ H' a w hs hops hr=>⟨.string st,?_,.d _ _ (.str _)⟩,hk⟩
 have hv:=hx▸hops x mx
 suffices (convert src dst (a.eval x)).run P w=.ok (.string st) w by simp[execOp,ho,this]
 generalize a.eval x=v at hv
 cases hv with
 | d v y hy =>
  cases hy with
  | sl0 base=>exact h0 (AfY hl) w base
  | sl g off n cap full cells vs hn hf hh hr' ho' =>
   refine h1 w g off cap fun i hi=>?_
   have hlt:i<cs.length:=by omega
   have g1:=AdT hlt
   have g2:=hs.prom _ _ _ (hh i _ g1)
   have g3:=hr' i _ g1
   rw[q2 i _ g1] at g3
   rw[g2,g3.int_val]
theorem Rq {src dst:Nat} {x:Operand} {b sz off n:Nat} {fz:Bool} {cs:List D} {kd:IntKind} {l:List Int} {st:ByteArray} {k:Eff→Prop} (ho:o.op=.convert src dst x) (mx:x∈o.op.operands.toList) (hx:ev x=.lsl b sz off n) (hb:H[b]?=some (.row fz cs)) (k3:(cut cs off n).length=n) (hl:l.length=n)
  (q2:∀ (i:Nat) x,(cut cs off n)[i]?=some x→x=.int kd (l.getD i 0))
  (h0:l=[]→∀ (w:World) (base:Option Addr),(convert src dst (.slice base 0 0)).run P w=.ok (.string st) w)
  (h1:∀ (w:World) (g off cap:Nat),(∀ i,i<n→w.cell? ⟨g,off+i,none⟩=some (.int kd (l.getD i 0)))→(convert src dst (.slice (some ⟨g,off,none⟩) n cap)).run P w=.ok (.string st) w)
  (hk:k ⟨.d (.str st),[],[b]⟩):∃ e,Ah P G o ev (hp H) e∧k e:=by
 refine ⟨_,Ah.val fun h ρ H' a w hs hops hr=>⟨.string st,?_,.d _ _ (.str _)⟩,hk⟩
 have hv:=hx▸hops x mx
 suffices (convert src dst (a.eval x)).run P w=.ok (.string st) w by simp[execOp,ho,this]
 generalize a.eval x=v at hv
 cases hv with
 | lsl0 base b sz' off=>exact h0 (AfY hl) w base
 | lsl b sz' off n cap g S hρ hn hc =>
  obtain ⟨ho',hblk⟩:=hs.blk b (.row fz cs) (by rw[hr b (by simp)];exact hb)
  rcases hblk with ⟨b1,_⟩ | ⟨g',S',c,E,fr,b1,b2,b3,b4,b5,b6,b7,b8⟩
  ·rw[hρ] at b1;cases b1
  rw[hρ] at b1;cases b1
  refine h1 w g off cap fun i hi=>?_
  have hlt:i<(cut cs off n).length:=by omega
  have h1:=AdT hlt
  have h4:=(Du h1).2
  have hin:=(AcB.1 h4).1
  have hcl:off+i<c.size:=by omega
  have h3:=b6 (off+i) _ _ h4 (AdU hcl)
  rw[q2 i _ h1] at h3
  have h5:=h3.int_val
  simp[World.cell?,b2,AdU hcl,h5]
theorem Xk {src dst:Nat} {x:Operand} {k:Eff→Prop} (ho:o.op=.convert src dst x) (hk:T8 P H src dst (ev x) k):∃ e,Ah P G o ev (hp H) e∧k e:=by
 have mx:x∈o.op.operands.toList:=by simp[Op.operands,ho]
 unfold T8 at hk
 split at hk
 ·rename_i kk n hx
  split at hk
  ·rename_i kd hd
   have hu:=Di hd
   obtain ⟨ti,hti⟩:=Ae3.1 hk.1
   obtain ⟨i,u,z,h1,h2,_⟩:=AG hti
   refine ⟨_,Ah.val fun h ρ H' a w hs hops hr=>⟨.int kd (kd.wrap n),?_,.d _ _ (.int _ _)⟩,hk.2⟩
   have e1:=(hx▸hops x mx).int_inv
   simp[execOp,ho,e1,convert,run_underlying h2,run_underlying hu,Conv.intToInt]
  ·obtain ⟨k1,k2,k3⟩:=hk
   obtain ⟨ks,hks⟩:=Ae3.1 k1
   have hu:=Di hks
   have hd:=B9 k2
   refine ⟨_,Ah.val fun h ρ H' a w hs hops hr=>⟨.string (Utf8.encode n),?_,.d _ _ (.str _)⟩,k3⟩
   have e1:=(hx▸hops x mx).int_inv
   simp[execOp,ho,e1,convert,run_underlying hu,run_underlying hd,Conv.intToString]
 ·rename_i s hx
  obtain ⟨k1,hk⟩:=hk
  have hus:=B9 k1
  split at hk
  ·rename_i k2
   have hud:=B9 k2
   refine ⟨_,Ah.val fun h ρ H' a w hs hops hr=>⟨.string s,?_,.d _ _ (.str _)⟩,hk⟩
   have e1:=(hx▸hops x mx).str_inv
   simp[execOp,ho,e1,convert,run_underlying hus,run_underlying hud]
  ·split at hk
   ·rename_i e te hse
    split at hk
    ·rename_i k2
     have he:=Di k2
     obtain ⟨hu,hte⟩:=Ay hse
     exact Zx ho mx hx hus hu he hk
    ·rename_i k2
     have he:=Di k2
     obtain ⟨hu,hte⟩:=Ay hse
     exact Xj ho mx hx hus hu he hk.1 hk.2
    ·exact hk.elim
   ·exact hk.elim
 ·rename_i n full cs hx
  split at hk
  ·rename_i e te hse
   obtain ⟨k2,k3,hk⟩:=hk
   have hd:=B9 k2
   obtain ⟨hu,hte⟩:=Ay hse
   split at hk
   ·rename_i k1
    have he:=Di k1
    split at hk
    ·rename_i l hl
     obtain ⟨q1,q2⟩:=Gq hl
     exact T7 ho mx hx (by omega) (by omega) q2 (fun e w base=>by subst e;exact Lg hu he hd base) (fun w g off cap hc=>run_convert_bytes_arg w src e hu he g off n cap l (by omega) hc dst hd) hk
    ·exact hk.elim
   ·rename_i k1
    have he:=Di k1
    split at hk
    ·rename_i l hl
     obtain ⟨q1,q2⟩:=Fy hl
     exact T7 ho mx hx (by omega) (by omega) q2 (fun e w base=>by subst e;exact Lf hu he hd base) (fun w g off cap hc=>Hm hu he hd (by omega) hc) hk
    ·exact hk.elim
   ·exact hk.elim
  ·exact hk.elim
 ·rename_i b sz off n hx
  split at hk
  ·rename_i e te hse
   obtain ⟨k2,hk⟩:=hk
   have hd:=B9 k2
   obtain ⟨hu,hte⟩:=Ay hse
   split at hk
   ·rename_i fz cs hb
    obtain ⟨k3,hk⟩:=hk
    split at hk
    ·rename_i k1
     have he:=Di k1
     split at hk
     ·rename_i l hl
      obtain ⟨q1,q2⟩:=Gq hl
      exact Rq ho mx hx hb k3 (by omega) q2 (fun e w base=>by subst e;exact Lg hu he hd base) (fun w g off cap hc=>run_convert_bytes_arg w src e hu he g off n cap l (by omega) hc dst hd) hk
     ·exact hk.elim
    ·rename_i k1
     have he:=Di k1
     split at hk
     ·rename_i l hl
      obtain ⟨q1,q2⟩:=Fy hl
      exact Rq ho mx hx hb k3 (by omega) q2 (fun e w base=>by subst e;exact Lf hu he hd base) (fun w g off cap hc=>Hm hu he hd (by omega) hc) hk
     ·exact hk.elim
    ·exact hk.elim
   ·exact hk.elim
  ·exact hk.elim
 ·exact hk.elim
def Id (y:Bool) (r:Option Nat) (P:Program) (G:Ad) (o:Oper) (ev:Operand→AV) (H:AX) (e:Eff):Prop :=
 ∀ (h:Ag) (ρ:Place) (H':AX) (a:Act) (w:World),Sim G h ρ H' w→(∀ x,x∈o.op.operands.toList→R h ρ (a.eval x) (ev x))→(∀ b,rd e.r b=true→H' b=H b) →
  o.wpIn (fR r) 0 P a w (fun a' w'=>∃ v h' ρ',a'=a.put o.dst v∧Sim G h' ρ' (Aj H' e.w) w'∧R h' ρ' v e.res∧N4 y h ρ w h' ρ' w') (fun _ _ _=>False)
theorem Ah.y {y:Bool} {r:Option Nat} {e:Eff} {H:AX} (hd:∀ c,o.op≠.defer c) (h:Ah P G o ev H e):Id y r P G o ev H e:=by
 intro hh ρ H' a w hs hx hb
 refine Hu hd (Oper.wp_mono (fun a' w'=>?_) (h hh ρ H' a w hs hx (fun b hm=>hb b (Sk hm))))
 rintro ⟨v,h',ρ',e1,t1,t2,t3⟩
 exact ⟨v,h',ρ',e1,t1,t2,t3.y⟩
theorem Ui {r:Option Nat} {fo:Operand} {xs:Array Operand} {ts:Array TypeId} {k:Eff→Prop} (ho:o.op=.call {callee:=.value fo,args:=xs,argTypes:=ts}) (hk:Jb P M (ev fo) (xs.toList.map ev) H k) :
  ∃ e,Id (M 3000000) r P G o ev (hp H) e∧k e:=by
 obtain ⟨hM,l,J,d,b,rest,Hr,x,e1,e2,rfl,hJ,hs,hi,hk⟩:=hk
 have memf:fo∈o.op.operands.toList:=by simp[Op.operands,Call.operands,ho]
 have memx:∀ x,x∈xs.toList→x∈o.op.operands.toList:=fun x hx=>by simp[Op.operands,Call.operands,ho];exact .inr (by simpa using hx)
 obtain ⟨xo,rfl,rfl⟩:∃ xo,xs=#[xo]∧ev xo=x:=by
  cases hl:xs.toList with
  | nil=>rw[hl] at e2;simp at e2
  | cons xo t =>
   rw[hl] at e2
   simp at e2
   obtain ⟨h1,h2⟩:=e2
   subst h2
   exact ⟨xo,by rw[←Ad0 (xs:=xs),hl],h1⟩
 refine ⟨_,?_,hk⟩
 intro h ρ H' a w hsim hops hag
 have hH0:H' 0=some (.ext J ((d,b)::rest)):=by rw[hag 0 (Sk (by simp))];rfl
 have hf:=hops fo memf
 rw[e1] at hf
 have hfv:a.eval fo=.func (.yield l) #[] #[]:=by
  generalize a.eval fo=v at hf
  cases hf with
  | fn f vs us first captured hl hl' =>
   have h1:vs=#[]:=by simpa using hl
   have h2:us=#[]:=by simpa using hl'
   rw[h1,h2]
 have hx:=hops xo (memx xo (by simp))
 have hd:=BU hx hs (fun c hc=>by rw[hi] at hc;cases hc)
 obtain ⟨fn,tmps,assign,body,hy,hR⟩:=hJ d b rest G h ρ H' w _ hsim hH0 hd
 have hrun:(execOp a.eval o).run P w=.ok (.round l fn tmps assign body) w:=by
  simp only[execOp,ho,resolve,hfv]
  simpa[go_sem] using hy
 rw[hM]
 refine ⟨fun _ _=>trivial,?_⟩
 rw[Oper.semAt_eq _ _ _ (fun c=>by rw[ho];simp),hrun]
 refine ⟨fun h=>by simp[fR] at h,?_⟩
 refine RoundIn.mono (R:=fun e w'=>e=.returned (.bool b)∧∃ h',h.le h'∧Sim G h' ρ (Aj H' [(0,.ext J rest)]) w') hR ?_
 rintro e w' ⟨rfl,h',q1,q2⟩
 exact ⟨.bool b,h',ρ,rfl,q2,.d _ _ (.bool b),q1,Place.le_refl _,fun e=>by cases e⟩
theorem Rz:∀ (l:List Aa) (n i:Nat),(∀ p,p∈FQ n l→n≤p.1)∧(∀ (H:AX),Aj H (FQ n l) i=if n≤i∧i<n+l.length then l[i-n]? else H i)
 | [],n,i=>⟨fun p hp=>by simp[FQ] at hp,fun H=>by simp[FQ,Aj];intro h1 h2;omega⟩
 | b::r,n,i=>by
   obtain ⟨h1,h2⟩:=Rz r (n+1) i
   refine ⟨fun p hp=>?_,fun H=>?_⟩
   ·rcases AfW.1 hp with rfl | hp
    ·exact Af5 _
    ·have:=h1 p hp;omega
   ·have hl:n+(b::r).length=n+(r.length+1):=by simp
    rw[FQ,Aj,h2,hl]
    by_cases hi:i=n
    ·subst hi
     rw[if_neg (fun h=>by omega),if_pos (⟨by omega,by omega⟩:i≤i∧i<i+(r.length+1))]
     simp
    ·by_cases hlt:n+1≤i∧i<n+1+r.length
     ·rw[if_pos hlt,if_pos (⟨by omega,by omega⟩:n≤i∧i<n+(r.length+1))]
      rw[show i-n=(i-(n+1))+1 by omega]
      simp
     ·rw[if_neg hlt,if_neg (fun h=>hlt ⟨by omega,by omega⟩:¬(n≤i∧i<n+(r.length+1)))]
      exact if_neg hi
theorem Ur (H l:List Aa) (h:H.length≤l.length):Aj (hp H) (FQ 0 l)=hp l:=by
 funext i
 rw[(Rz l 0 i).2]
 by_cases hi:i<l.length
 ·rw[if_pos (by omega)];rfl
 ·rw[if_neg (by omega)]
  simp only[hp]
  rw[Afs (by omega),Afs (by omega)]
theorem ZK {h:Ag} {ρ:Place} {H:List Aa} {v:Value} {x y:AV} (e:Aa8 H x y) (r:R h ρ v x):R h ρ v y:=by
 rcases e with rfl | rfl | ⟨d,e1,e2,e3⟩
 ·exact r
 ·cases r with
  | d _ _ hd=>exact .d _ _ hd.unf
  | lsl0=>exact .lsl0 _ _ _ _
  | lsl b sz off n cap g S a b c=>exact .lsl _ _ _ _ cap g S a b c
  | ptr b off g S a=>exact .ptr _ _ g S a
  | rptr g base off cells vs a b=>exact .rptr g base off cells vs a b
  | mp b g S a=>exact .mp _ g S a
  | agg vs cells a b=>exact .agg vs cells a b
  | tup vs cells a b=>exact .tup vs cells a b
  | fn f vs us a b c d e g=>exact .fn f vs us a b c d e g
  | undef=>exact .undef _
 ·have hd:=BU r e1 (fun b hb=>by rw[e2] at hb;cases hb)
  rcases e3 with rfl | rfl
  ·exact .d _ _ hd
  ·exact .d _ _ hd.unf
theorem XH {h:Ag} {ρ:Place} {H:List Aa} {vs:Array Value} {xs ys:List AV} (e:Ke H xs ys) (r:RL h ρ vs xs):RL h ρ vs ys:=by
 have gen:∀ (xs ys:List AV),Ke H xs ys→xs.length=ys.length∧∀ (i:Nat) x y,xs[i]?=some x→ys[i]?=some y→Aa8 H x y:=by
  intro xs
  induction xs with
  | nil=>intro ys e;cases ys with | nil=>simp | cons _ _=>simp[Ke] at e
  | cons x r ih =>
   intro ys e
   cases ys with
   | nil=>simp[Ke] at e
   | cons y r2 =>
    obtain ⟨e1,e2⟩:=e
    have q:=ih r2 e2
    refine ⟨by simp[q.1],fun i u v hu hv=>?_⟩
    cases i with
    | zero=>simp at hu hv;subst hu;subst hv;exact e1
    | succ i=>simp at hu hv;exact q.2 i u v hu hv
 obtain ⟨g1,g2⟩:=gen xs ys e
 refine ⟨by have:=r.1;omega,fun i v y hv hy=>?_⟩
 have hi:i<xs.length:=by have:=(AcB.1 hy).1;omega
 have hx:=AdT hi
 exact ZK (g2 i _ y hx hy) (r.2 i v _ hv hx)
theorem Uj {r:Option Nat} {fo:Operand} {xs:Array Operand} {ts:Array TypeId} {f:FuncId} {avs:List AV} {k:Eff→Prop}
  (ho:o.op=.call {callee:=.value fo,args:=xs,argTypes:=ts}) (hf:DW (ev fo) (xs.toList.map ev)=some (f,avs)) (hk:Ap P G H f avs k):∃ e,Id (M 3000000) r P G o ev (hp H) e∧k e:=by
 have hd:∀ c,o.op≠.defer c:=fun c=>by rw[ho];simp
 rcases hk with ⟨avs',res,Hn,hav,spec,hlen,hk⟩ | ⟨m,L,hL,hk⟩ | ⟨L,HS,ars,d,hL,hlen,hview,hargs,spec,hk⟩
 rotate_left
 ·obtain ⟨e,h1,h2⟩:=NR ho hf hL hk
  exact ⟨e,h1.y hd,h2⟩
 ·refine ⟨_,?_,hk⟩
  intro h ρ H' a w hs hops hr
  refine Hu hd ?_
  obtain ⟨vs,hvs,hrun⟩:=H8 ho hf (spec fun _ _=>.nilFunc).1 h ρ a hops
  unfold Oper.wp
  rw[hrun w]
  refine (Vi (P:=P) (G:=G) hL hlen hview hargs spec hs hvs (fun b hb=>hr b (Sk hb))).mono ?_
  rintro e w' ⟨v,h',ρ',rfl,q1,q2,q3⟩
  exact ⟨v,h',ρ',rfl,q1,q2,q3.y⟩
 refine ⟨_,?_,hk⟩
 intro h ρ H' a w hs hops hr
 have hH:H'=hp H:=by
  funext b
  exact hr b AaK
 subst hH
 refine Hu hd ?_
 obtain ⟨vs,hvs,hrun⟩:=H8 ho hf spec.1 h ρ a hops
 unfold Oper.wp
 rw[hrun w]
 have hvs':RL h ρ vs avs':=XH hav hvs
 refine (spec.2 h ρ w vs hs hvs').mono ?_
 rintro e w' ⟨v,h',ρ',rfl,q1,q2,q3⟩
 exact ⟨v,h',ρ',rfl,by rw[Ur H Hn hlen];exact q1,q2,q3.y⟩
theorem NQ {r:Option Nat} {m:Bool} {c:Call} {k:Eff→Prop} (ho:o.op=.call c) (hk:Mc P G M m ev H c k):∃ e,Id (M 3000000) r P G o ev (hp H) e∧k e:=by
 have hd:∀ c,o.op≠.defer c:=fun c=>by rw[ho];simp
 have up:(∃ e,Ah P G o ev (hp H) e∧k e)→∃ e,Id (M 3000000) r P G o ev (hp H) e∧k e:=fun ⟨e,h1,h2⟩=>⟨e,h1.y hd,h2⟩
 obtain ⟨callee,args,ts⟩:=c
 unfold Mc at hk
 simp only at hk
 split at hk
 ·rename_i fo
  split at hk
  ·rename_i f avs hf
   unfold SV at hk
   split at hk
   ·exact up (Xl ho hf hk)
   ·exact Uj ho hf hk
  ·exact Ui ho hk
 ·rename_i b
  refine up ?_
  split at hk
  ·rename_i s x hargs
   have:args=#[s,x]:=by rw[←Ad0 (xs:=args),hargs]
   subst this
   unfold Xr at hk
   split at hk
   ·split at hk
    ·rename_i hs
     have hk':CF P H ts (noE (ev s)) (noE (ev x)) k:=by rw[hs];exact hk
     obtain ⟨e,h1,h2⟩:=FP (ev:=fun z=>noE (ev z)) ho hk'
     exact ⟨e,fun h ρ H' a w hs' hx hr=>h1 h ρ H' a w hs' (fun z hz=>(hx z hz).noE) hr,h2⟩
    ·rename_i hs
     have hk':CF P H ts (noE (ev s)) (noE (ev x)) k:=by rw[hs];exact hk
     obtain ⟨e,h1,h2⟩:=FP (ev:=fun z=>noE (ev z)) ho hk'
     exact ⟨e,fun h ρ H' a w hs' hx hr=>h1 h ρ H' a w hs' (fun z hz=>(hx z hz).noE) hr,h2⟩
    ·exact FP ho hk
   ·exact Rx ho hk
  ·rename_i x hargs
   have:args=#[x]:=by rw[←Ad0 (xs:=args),hargs]
   subst this
   exact Zb ho hk
  ·rename_i x hargs
   have:args=#[x]:=by rw[←Ad0 (xs:=args),hargs]
   subst this
   exact Vb ho hk
  ·exact Wz (greatest:=true) (by simpa using ho) hk
  ·exact Wz (greatest:=false) (by simpa using ho) hk
  ·exact hk.elim
 ·exact hk.elim
theorem V2 {x:Operand} {k:Eff→Prop} (ho:o.op=.move x) (hk:TA H (ev x) k):∃ e,Ah P G o ev (hp H) e∧k e:=by
 have mx:x∈o.op.operands.toList:=by simp[Op.operands,ho]
 unfold TA at hk
 split at hk
 ·rename_i b sz off n hx
  split at hk
  ·rename_i cs hb
   split at hk
   ·rename_i ds hds
    obtain ⟨k1,k2,k3⟩:=hk
    refine ⟨_,?_,k3⟩
    intro h ρ H' a w hs hops hr
    have hv:=hops x mx
    obtain ⟨h',s1,t1,f1⟩:=BF H (idsL cs) h H' hs (fun y hy=>.inl (hr y (by simp[hy])))
    have hbb:Aj H' (frz H (idsL cs)) b=some (.box cs):=by
     rw[Av _ _ b (fun q hq e=>k2 (e▸BC hq)),hr b (by simp)]
     exact hb
    obtain ⟨g,S,c,E,fr,b1,b2,b3,b4,b5,b6,b7⟩:=s1.blk b _ hbb
    have hrl:RL h' ρ (c.extract 0 cs.length) cs:=⟨by simp;omega,fun j v y hv hy=>b6 j y v hy (by
     rw[Af9] at hv
     split at hv
     ·simpa using hv
     ·cases hv)⟩
    have hds':=K9 hrl hds f1
    have hlen:ds.length=cs.length:=by have:=hds'.1;have:=hrl.1;omega
    have s2:=s1.reblk b ⟨_,hbb,by simp⟩ (.row false ds) ⟨Jj hds k1,.inr ⟨g,S,c,E,fr,b1,b2,b3,b4,by omega,fun j y v hy hv=>by
     have hj:=(AcB.1 hy).1
     refine hds'.2 j v y ?_ hy
     rw[Af9,if_pos (by omega)]
     simpa using hv,(fun e=>by cases e),fun j _=>b7 j⟩⟩
    unfold Oper.wp
    rw[show (execOp a.eval o).run P w=.ok (.value (a.eval x)) w by simp[execOp,ho]]
    exact ⟨a.eval x,h',ρ,rfl,by rw[Ch];exact s2,hv.mono t1.mono (Place.le_refl _),t1⟩
   ·exact hk.elim
  ·exact hk.elim
 ·exact hk.elim
theorem Zj {t:Nat} (h:WO P t=true):∃ ms,P.underlying t=some (.interface ms):=by
 unfold WO at h
 split at h
 ·exact ⟨_,by assumption⟩
 ·cases h
theorem R.nili_inv {h:Ag} {ρ:Place} {v:Value} (r:R h ρ v (.d .nili)):v=.nilIface:=by cases r with | d _ _ hd=>cases hd;rfl
theorem R.ifc_inv {h:Ag} {ρ:Place} {v:Value} (r:R h ρ v (.d .ifc)):∃ t u,v=.iface t u:=by cases r with | d _ _ hd=>cases hd;exact ⟨_,_,rfl⟩
theorem UD {t:Nat} {ms:Array (String × Nat)} (ht:P.underlying t=some (.interface ms)) (w:World) (d u:Nat) (v:Value):(Op.equalIn (d+1) t (.iface u v) .nilIface).run P w=.ok false w:=by
 simp[Op.equalIn,run_underlying ht]
theorem TC {t:Nat} {ms:Array (String × Nat)} (ht:P.underlying t=some (.interface ms)) (w:World) (u:Nat) (v:Value):(Op.equal t (.iface u v) .nilIface).run P w=.ok false w:=UD ht w 9999 u v
theorem Sg {t:Nat} {ms:Array (String × Nat)} (ht:P.underlying t=some (.interface ms)) (w:World) (d:Nat):(Op.equalIn (d+1) t .nilIface .nilIface).run P w=.ok true w:=by
 simp[Op.equalIn,run_underlying ht]
theorem PC {t:Nat} {ms:Array (String × Nat)} (ht:P.underlying t=some (.interface ms)) (w:World):(Op.equal t .nilIface .nilIface).run P w=.ok true w:=Sg ht w 9999
theorem Zn {t:Nat} (h:Zo P t=true):(∃ a b c,P.underlying t=some (.func a b c)):=by
 unfold Zo at h
 split at h
 ·exact ⟨_,_,_,by assumption⟩
 ·cases h
theorem R.nilf_inv {h:Ag} {ρ:Place} {v:Value} (r:R h ρ v (.d .nilf)):v=.nilFunc:=by cases r with | d _ _ hd=>cases hd;rfl
theorem R.fn_inv {h:Ag} {ρ:Place} {v:Value} {f:Fn} {a b:List D} (r:R h ρ v (.d (.fn f a b))):∃ x y,v=.func f x y:=by cases r with | d _ _ hd=>cases hd;exact ⟨_,_,rfl⟩
theorem Ww {op:BinOp} {t yt:Nat} {x:Operand} {k:Eff→Prop} (ho:o.op=.binOp op t x (.const .nilFunc) yt) (ht:Zo P t=true) (hk:TU op (ev x) k):∃ e,Ah P G o ev (hp H) e∧k e:=by
 have mx:x∈o.op.operands.toList:=by simp[Op.operands,ho]
 obtain ⟨a0,b0,c0,ht⟩:=Zn ht
 have fin:∀ b:Bool,(∀ (a:Act) (w:World) h ρ,R h ρ (a.eval x) (ev x)→(execOp a.eval o).run P w=.ok (.value (.bool b)) w)→Ah P G o ev (hp H) ⟨.d (.bool b),[],[]⟩ :=
  fun b hb=>Ah.val fun h ρ H' a' w hs hops hr=>⟨.bool b,hb _ _ _ _ (hops x mx),.d _ _ (.bool _)⟩
 have r1:∀ w,(Op.equal t .nilFunc .nilFunc).run P w=.ok true w:=fun w=>(fun d=>by simp[Op.equalIn,run_underlying ht]:∀ d,(Op.equalIn (d+1) t .nilFunc .nilFunc).run P w=.ok true w) 9999
 have r2:∀ w f x y,(Op.equal t (.func f x y) .nilFunc).run P w=.ok false w:=fun w f x y=>(fun d=>by simp[Op.equalIn,run_underlying ht]:∀ d,(Op.equalIn (d+1) t (.func f x y) .nilFunc).run P w=.ok false w) 9999
 unfold TU at hk
 split at hk
 ·rename_i hx
  refine ⟨_,fin true fun a w h ρ r=>?_,hk⟩
  rw[hx] at r
  have e4:a.eval (.const .nilFunc)=.nilFunc:=rfl
  simp[execOp,ho,r.nilf_inv,e4,eqGuard,binOp,r1]
 ·rename_i hx
  refine ⟨_,fin false fun a w h ρ r=>?_,hk⟩
  rw[hx] at r
  obtain ⟨u,v,e⟩:=r.fn_inv
  have e4:a.eval (.const .nilFunc)=.nilFunc:=rfl
  simp[execOp,ho,e,e4,eqGuard,binOp,r2]
 ·exact hk.elim
theorem Wv {op:BinOp} {t yt:Nat} {x:Operand} {k:Eff→Prop} (ho:o.op=.binOp op t x (.const .nilIface) yt) (ht:WO P t=true) (hk:TT op (ev x) k):∃ e,Ah P G o ev (hp H) e∧k e:=by
 have mx:x∈o.op.operands.toList:=by simp[Op.operands,ho]
 obtain ⟨ms,ht⟩:=Zj ht
 have fin:∀ b:Bool,(∀ (a:Act) (w:World) h ρ,R h ρ (a.eval x) (ev x)→(execOp a.eval o).run P w=.ok (.value (.bool b)) w)→Ah P G o ev (hp H) ⟨.d (.bool b),[],[]⟩ :=
  fun b hb=>Ah.val fun h ρ H' a' w hs hops hr=>⟨.bool b,hb _ _ _ _ (hops x mx),.d _ _ (.bool _)⟩
 unfold TT at hk
 split at hk
 ·rename_i hx
  refine ⟨_,fin true fun a w h ρ r=>?_,hk⟩
  rw[hx] at r
  have e4:a.eval (.const .nilIface)=.nilIface:=rfl
  have hv:=r.nili_inv
  generalize hg:a.eval x=v0 at hv
  subst hv
  simp[execOp,ho,hg,e4,eqGuard,binOp,PC ht]
 ·rename_i hx
  refine ⟨_,fin false fun a w h ρ r=>?_,hk⟩
  rw[hx] at r
  obtain ⟨u,v,e⟩:=r.ifc_inv
  have e4:a.eval (.const .nilIface)=.nilIface:=rfl
  simp[execOp,ho,e,e4,eqGuard,binOp,TC ht]
 ·rename_i hx
  refine ⟨_,fin false fun a w h ρ r=>?_,hk⟩
  rw[hx] at r
  have e4:a.eval (.const .nilIface)=.nilIface:=rfl
  have hv:=r.nili_inv
  generalize hg:a.eval x=v0 at hv
  subst hv
  simp[execOp,ho,hg,e4,eqGuard,binOp,PC ht]
 ·rename_i hx
  refine ⟨_,fin true fun a w h ρ r=>?_,hk⟩
  rw[hx] at r
  obtain ⟨u,v,e⟩:=r.ifc_inv
  have e4:a.eval (.const .nilIface)=.nilIface:=rfl
  simp[execOp,ho,e,e4,eqGuard,binOp,TC ht]
 ·exact hk.elim
theorem XU {op:BinOp} {t yt:Nat} {x:Operand} {k:Eff→Prop} (ho:o.op=.binOp op t x (.const (.slice none 0 0)) yt) (ht:A0 P t=true) (hk:XV op (ev x) k):∃ e,Ah P G o ev (hp H) e∧k e:=by
 have mx:x∈o.op.operands.toList:=by simp[Op.operands,ho]
 obtain ⟨⟨e,te⟩,hse⟩:=Ae3.1 ht
 obtain ⟨hu,hte⟩:=Ay hse
 have fin:∀ b:Bool,(∀ (a:Act) (w:World) h ρ,R h ρ (a.eval x) (ev x)→(execOp a.eval o).run P w=.ok (.value (.bool b)) w)→Ah P G o ev (hp H) ⟨.d (.bool b),[],[]⟩ :=
  fun b hb=>Ah.val fun h ρ H' a' w hs hops hr=>⟨.bool b,hb _ _ _ _ (hops x mx),.d _ _ (.bool _)⟩
 have ask:∀ (base:Option Addr) (n c:Nat) (w:World),(binOp .neq t (.slice base n c) (.slice none 0 0)).run P w=.ok (.bool (!base.isNone)) w:=fun base n c w=>by
  simp only[binOp]
  simp[run_equal_slice_nil w t e base n c hu]
 unfold XV at hk
 split at hk
 ·rename_i hx
  refine ⟨_,fin true fun a w h ρ r=>?_,hk⟩
  rw[hx] at r
  have e4:a.eval (.const (.slice none 0 0))=.slice none 0 0:=rfl
  generalize hg:a.eval x=v0 at r
  cases r with | d _ _ hd=>cases hd with | esl a0=>simp[execOp,ho,hg,e4,eqGuard,ask]
 ·rename_i hx
  refine ⟨_,fin true fun a w h ρ r=>?_,hk⟩
  rw[hx] at r
  have e4:a.eval (.const (.slice none 0 0))=.slice none 0 0:=rfl
  generalize hg:a.eval x=v0 at r
  cases r with | d _ _ hd=>cases hd with | sl=>simp[execOp,ho,hg,e4,eqGuard,ask]
 ·rename_i hx
  refine ⟨_,fin false fun a w h ρ r=>?_,hk⟩
  rw[hx] at r
  have e4:a.eval (.const (.slice none 0 0))=.slice none 0 0:=rfl
  generalize hg:a.eval x=v0 at r
  cases r with | d _ _ hd=>cases hd with | val=>simp[execOp,ho,hg,e4,eqGuard,ask]
 ·exact hk.elim
theorem ZC {op:BinOp} {t yt:Nat} {x y:Operand} {k:Eff→Prop} (ho:o.op=.binOp op t x y yt) (hk:ZD P op t y (ev x) (ev y) k):∃ e,Ah P G o ev (hp H) e∧k e:=by
 unfold ZD at hk
 split at hk
 ·exact Wv ho hk.1 hk.2
 ·exact Ww ho hk.1 hk.2
 ·exact XU ho hk.1 hk.2
 ·exact ZE ho hk
theorem OZ {t len:Nat} {parts:Array (Nat × Operand)} {k:Eff→Prop} (ho:o.op=.buildSlice t len parts) (hk:JD P H t len parts k):∃ e,Ah P G o ev (hp H) e∧k e:=by
 obtain ⟨rfl,rfl,hse,hk⟩:=hk
 obtain ⟨⟨e,te⟩,hse⟩:=Ae3.1 hse
 obtain ⟨hu,hte⟩:=Ay hse
 obtain ⟨i,u,z,h1,h2,h3,h4,h5,h6,h7⟩:=AG hte
 refine ⟨_,Ah.gen fun h ρ H' a w hs hops hr=>?_,hk⟩
 have hn:H' H.length=none:=by rw[hr _ (by simp)];simp[hp]
 have hρ:ρ H.length=none:=by
  cases e:ρ H.length with
  | none=>rfl
  | some y=>obtain ⟨_,b,hb⟩:=hs.dom _ y.1 y.2 e;rw[hn] at hb;cases hb
 obtain ⟨s2,t2⟩:=hs.alloc H.length hn (.cells #[] e) 0 .dead trivial
 refine ⟨_,_,h,_,?_,s2,.d _ _ (.esl ⟨w.heap.size,0,none⟩),t2⟩
 simp[execOp,ho,Instr.buildSlice,run_underlying hu,sizeOf,typeInfo,h1,Instr.fill,newRow,newObj,Sem.run]
 exact congrArg (fun c=>w.alloc (Obj.cells c e)) (Array.eq_empty_of_size_eq_zero (by simp))
theorem Wm {r:Option Nat} {k:Eff→Prop} (hk:opK P G M o ev H k):∃ e,Id (M 3000000) r P G o ev (hp H) e∧k e:=by
 by_cases hc:∃ c,o.op=.call c
 ·obtain ⟨c,hc⟩:=hc
  unfold opK at hk
  rw[hc] at hk
  replace hk:OU (WE M o.dst) P G M (markK M o.dst) ev H c k:=hk
  unfold OU at hk
  split at hk
  ·obtain ⟨e,h1,h2⟩:=NQ (ev:=evC ev) (r:=r) hc hk
   refine ⟨e,fun h ρ H' a w hs hx hr=>h1 h ρ H' a w hs (fun z hz=>?_) hr,h2⟩
   unfold evC
   split
   ·exact .d _ _ (.val _)
   ·exact hx _ hz
  ·exact NQ hc hk
 have hd:∀ c,o.op≠.defer c:=fun c e=>by unfold opK at hk;rw[e] at hk;exact hk
 refine (fun ⟨e,h1,h2⟩=>⟨e,Ah.y hd h1,h2⟩:(∃ e,Ah P G o ev (hp H) e∧k e)→_) ?_
 unfold opK at hk
 split at hk<;>rename_i ho
 ·unfold Wy at hk
  split at hk
  ·exact ⟨_,Pz (.inl ho),hk⟩
  ·exact V2 ho hk
 ·exact ⟨_,Pz (.inr ho),hk⟩
 ·unfold Wg at hk
  split at hk
  ·rename_i b hc;exact ⟨_,V0 ho hc,hk⟩
  ·exact hk.elim
 ·unfold O8 at hk
  split at hk
  ·unfold S9 at hk
   split at hk
   ·rename_i ti ht;exact ⟨_,UA ho ht,hk⟩
   ·exact hk.elim
  ·unfold O9 at hk
   split at hk
   ·rename_i ti ht;exact ⟨_,Sb ho ht hk.1,hk.2⟩
   ·exact hk.elim
 ·unfold Aa0 at hk
  split at hk
  ·rename_i cs hc;exact ⟨_,Y1 ho hc,hk⟩
  ·exact hk.elim
 ·exact Vk ho hk
 ·unfold OX at hk
  split at hk
  ·exact OZ ho hk
  ·unfold OW at hk
   split at hk
   ·exact Me ho hk
   ·exact O0 ho hk
 ·exact WF ho hk
 ·exact Uv ho hk
 ·exact OB ho hk
 ·exact ZC ho hk
 ·exact Aab ho hk
 ·exact Xk ho hk
 ·exact ⟨_,Ol ho,hk⟩
 ·unfold Sp at hk
  split at hk
  ·exact Mx ho hk
  ·exact P7 ho hk
 ·exact R4 ho hk
 ·exact Mz ho hk
 ·exact U2 ho hk
 ·exact My ho hk
 ·exact UX ho hk
 ·exact Rc ho hk
 ·exact absurd ⟨_,ho⟩ hc
 ·exact Sq ho hk
 ·exact KU (.inl ho) hk
 ·exact KU (.inr ho) hk
 ·exact PZ ho hk
 ·exact UH ho hk
 ·exact Wx ho hk
 ·exact hk.elim
end
def applyW (H:List Aa):List (Nat × Aa)→List Aa
 | []=>H
 | (i,b)::r=>applyW (if i<H.length then H.set i b else H++[b]) r
def wOK:Nat→List (Nat × Aa)→Bool
 | _,[]=>true
 | n,(i,_)::r=>if i<n then wOK n r else i == n && wOK (n+1) r
theorem DM:∀ (w:List (Nat × Aa)) (H:List Aa),wOK H.length w=true→hp (applyW H w)=Aj (hp H) w
 | [],H,_=>rfl
 | (i,b)::r,H,h=>by
   simp only[wOK] at h
   have step:hp (if i<H.length then H.set i b else H++[b])=fun j=>if j=i then some b else hp H j:=by
    funext j
    simp only[hp]
    by_cases hi:i<H.length
    ·simp only[hi,if_true]
     rw[AfO]
     by_cases hj:j=i
     ·subst hj;simp[hi]
     ·simp[hj,Ne.symm hj]
    ·simp only[hi,if_false,AdY,beq_iff_eq] at h
     simp only[hi,if_false]
     obtain ⟨rfl,_⟩:=h
     by_cases hj:j=H.length
     ·subst hj;simp
     ·simp only[hj,if_false]
      rw[AfQ]
      split
      ·rfl
      ·rename_i hlt
       rw[Afs (by simp;omega),Afs (by omega)]
   rw[applyW,Aj,DM r _ (by
    by_cases hi:i<H.length
    ·simp only[hi,if_true] at h ⊢
     simpa using h
    ·simp only[hi,if_false,AdY] at h ⊢
     simpa using h.2),step]
def Cz (ops:Array Oper) (j:Nat):Option Nat:=(ops[j]?).bind (·.dst)
def DG (P:Program) (G:Ad) (M:BZ) (ops:Array Oper):List Oper→List AV→List Aa→List (List Nat × List Nat)→(List AV→List Aa→List (List Nat × List Nat)→Prop)→Prop
 | [],s,H,tr,K=>K s H tr
 | o::rest,s,H,tr,K =>
  match o.guard with
  | none=>opK P G M o (evalA G s) H (fun e=>wOK H.length e.w=true∧DG P G M ops rest (putA s o.dst e.res) (applyW H e.w) (tr++[(e.r,e.w.map (·.1))]) K)
  | some (j,want)=>match Cz ops j with
    | some t=>match s.getD t .undef with
      | .d (.bool c) =>
       (c=want→opK P G M o (evalA G (s.set t (.d (.bool want)))) H (fun e=>wOK H.length e.w=true∧DG P G M ops rest (putA (s.set t (.d (.bool want))) o.dst e.res) (applyW H e.w) (tr++[(e.r,e.w.map (·.1))]) K)) ∧
       (c=(!want)→DG P G M ops rest (putA (s.set t (.d (.bool (!want)))) o.dst (.tup [])) H (tr++[([],[])]) K)
      | .tup []=>DG P G M ops rest (putA s o.dst (.tup [])) H (tr++[([],[])]) K
      | _=>False
    | none=>False
section
variable {y:Bool} {r:Option Nat} {P:Program} {G:Ad} {M:BZ} {ops:Array Oper}
theorem Sr {G:Ad} {ops:Array Oper} {o:Oper} {s s':List AV} (hag:∀ t,t∈o.looksAt ops→s'[t]?=s[t]?):∀ x,x∈o.op.operands.toList→evalA G s' x=evalA G s x:=by
 intro x hx
 cases x with
 | tmp t =>
  have:t∈o.looksAt ops:=AfX _ (List.mem_filterMap.2 ⟨.tmp t,hx,rfl⟩)
  simp only[evalA,AdV,hag t this]
 | _=>rfl
theorem LK {o:Oper} {s:List AV} {H:List Aa} {e:Eff} (h:Id y r P G o (evalA G s) (hp H) e)
  (hg:∀ (tmps:Array Value) (s':List AV) (h:Ag) (ρ:Place),SR h ρ tmps s'→(∀ t,t∈o.looksAt ops→s'[t]?=s[t]?)→Region.wanted o (yielded ops tmps)=true):XE y r P G ops o s (hp H) e:=by
 intro hh ρ H' s' a w hs hr hag hb
 simp only[hg a.tmps s' hh ρ hr hag,if_true]
 exact h hh ρ H' a w hs (fun x hx=>by rw[←Sr hag x hx];exact GE hs hr x) hb
theorem GA {o:Oper} {j t:Nat} {want:Bool} (hg:o.guard=some (j,want)) (ht:Cz ops j=some t):t∈o.looksAt ops:=by
 unfold Oper.looksAt
 refine Age _ ?_
 simp only[hg]
 unfold Cz at ht
 simp[ht]
theorem MH {o:Oper} {j t:Nat} {want c:Bool} (hg:o.guard=some (j,want)) (ht:Cz ops j=some t) {tmps:Array Value} (hv:tmps[t]?=some (.bool c)):Region.wanted o (yielded ops tmps)=(c == want):=by
 unfold Cz at ht
 simp only[Region.wanted,hg,yielded,ht,Option.bind_some,hv]
 cases c<;>cases want<;>rfl
theorem MP {h:Ag} {ρ:Place} {tmps:Array Value} {s:List AV} {t:Nat} {c:Bool} (hr:SR h ρ tmps s) (hs:s[t]?=some (.d (.bool c))):tmps[t]?=some (.bool c):=by
 have hlt:t<tmps.size:=by have:=(AcB.1 hs).1;have:=hr.1;omega
 have:=(hr.2 t _ _ (AdU hlt) hs).bool_inv
 rw[AdU hlt,this]
theorem Eo:∀ (todo:List Oper) (s:List AV) (H:List Aa) (tr:List (List Nat × List Nat)) (K:List AV→List Aa→List (List Nat × List Nat)→Prop),DG P G M ops todo s H tr K →
  ∃ es s' H',Kd (M 3000000) r P G ops todo s (hp H) es s' (hp H')∧K s' H' (tr++es.map fun e=>(e.r,e.w.map (·.1)))
 | [],s,H,tr,K,h=>⟨[],s,H,.nil _ _,by simpa[DG] using h⟩
 | o::rest,s,H,tr,K,h=>by
   simp only[DG] at h
   split at h
   ·rename_i hg
    obtain ⟨e,he,hw,hk⟩:=Wm h
    obtain ⟨es,s',H',c,hK⟩:=Eo rest _ _ _ K hk
    refine ⟨e::es,s',H',.cons (LK he (fun tmps s' h ρ _ _=>by simp[Region.wanted,hg])) (by rw[←DM e.w H hw];exact c),by simpa using hK⟩
   ·rename_i j want hg
    split at h
    ·rename_i t ht
     split at h
     ·rename_i c hc
      have hst:s[t]?=some (.d (.bool c)):=by
       rw[AdV] at hc
       cases hh:s[t]? with
       | none=>simp[hh] at hc
       | some y=>simp[hh] at hc;rw[hc]
      have hself:s.set t (.d (.bool c))=s:=by
       apply Agn
       intro i
       rw[AfO]
       split
       ·rename_i e;subst e
        have:=(AcB.1 hst).1
        rw[if_pos this,hst]
       ·rfl
      by_cases hcw:c=want
      ·subst hcw
       have h1:=h.1 rfl
       rw[hself] at h1
       obtain ⟨e,he,hw,hk⟩:=Wm h1
       obtain ⟨es,s',H',ch,hK⟩:=Eo rest _ _ _ K hk
       refine ⟨e::es,s',H',.cons (LK he (fun tmps s' h ρ hr hag=>?_)) (by rw[←DM e.w H hw];exact ch),by simpa using hK⟩
       have:=MP hr ((hag t (GA hg ht)).trans hst)
       rw[MH hg ht this]
       simp
      ·have hcn:c=!want:=by cases c<;>cases want<;>simp_all
       have h2:=h.2 hcn
       rw[←hcn,hself] at h2
       obtain ⟨es,s',H',ch,hK⟩:=Eo rest _ _ _ K h2
       refine ⟨⟨.tup [],[],[]⟩::es,s',H',.cons ?_ ch,by simpa using hK⟩
       intro hh ρ H' s' a w hs hr hag hb
       have:=MP hr ((hag t (GA hg ht)).trans hst)
       have hw:Region.wanted o (yielded ops a.tmps)=false:=by
        rw[MH hg ht this]
        simpa using hcw
       simp only[hw,AdX,if_false]
       exact ⟨undef,hh,ρ,rfl,hs,.tup #[] [] rfl (by simp),(AU.refl _ _ _).y⟩
     ·rename_i hc
      obtain ⟨es,s',H',ch,hK⟩:=Eo rest _ _ _ K h
      refine ⟨⟨.tup [],[],[]⟩::es,s',H',.cons ?_ ch,by simpa using hK⟩
      intro hh ρ H' s' a w hs hr hag hb
      have hst:s[t]?=some (.tup []):=by
       rw[AdV] at hc
       cases hh:s[t]? with
       | none=>simp[hh] at hc
       | some y=>simp[hh] at hc;rw[hc]
      have hst':=(hag t (GA hg ht)).trans hst
      have hlt:t<a.tmps.size:=by have:=(AcB.1 hst').1;have:=hr.1;omega
      have hv:∃ vs,a.tmps[t]=.tuple vs:=by
       have:=hr.2 t _ _ (AdU hlt) hst'
       generalize a.tmps[t]=v at this
       cases this with
       | tup vs _ _ _=>exact ⟨vs,rfl⟩
      obtain ⟨vs,hv⟩:=hv
      have hw:Region.wanted o (yielded ops a.tmps)=false:=by
       unfold Cz at ht
       simp[Region.wanted,hg,yielded,ht,AdU hlt,hv]
      simp only[hw,AdX,if_false]
      exact ⟨undef,hh,ρ,rfl,hs,.tup #[] [] rfl (by simp),(AU.refl _ _ _).y⟩
     ·exact h.elim
    ·exact h.elim
def Ot (P:Program) (G:Ad) (M:BZ) (ops:Array Oper) (draw:Bool) (s:List AV) (H:List Aa) (K:List AV→List Aa→Prop):Prop :=
 DG P G M ops ops.toList s H [] (fun s H tr=>(draw=true→Ds ops tr=true)∧K s H)
theorem UG {id:Nat} {draw:Bool} {s:List AV} {H:List Aa} {K:List AV→List Aa→Prop} (hk:Ot P G M ops draw s H K) (hm:P.follows .mixedOrders=true)
  {h0:Ag} {ρ0:Place} {w0:World} {Q:Exit→Act→World→Prop} {a:Act} {w:World} (ha:At (M 3000000) r G h0 ρ0 w0 s (hp H) a w)
  (hq:∀ s' H',K s' H'→∀ a w,At (M 3000000) r G h0 ρ0 w0 s' (hp H') a w→Q .normal a w):(Code.region id ops draw).wpIn (fR r) 0 P Q a w:=by
 obtain ⟨es,s',H',c,hd,hK⟩:=Eo _ _ _ _ _ hk
 cases draw with
 | false =>
  refine wpIn_region ?_
  have:=Vd (Q:=Q) c 0 a w (fun j=>by simp) ha (hq s' H' hK)
  simpa using this
 | true =>
  refine wpIn_region_any hm ?_
  have hn:∀ (n j:Nat),(Agc n false).getD j false=false:=by
   intro n j
   simp only[AfP,Array.getElem?_replicate]
   split<;>rfl
  refine Vp c (by simpa using hd rfl) (hq s' H' hK) ops.size (Agc ops.size false) a _ (by simp) (fun k hk=>by rw[hn] at hk;cases hk) ?_ ?_
  ·rw[List.countP_eq_length.2 (fun j _=>by rw[hn];rfl)]
   simp
  ·rw[KY _ _ _ _ (fun j _=>hn _ j)]
   obtain ⟨h,ρ,t1,t2,t4⟩:=ha
   exact ⟨h,ρ,t1.drew,t2,t4.go AU.drew.y⟩
end
end Go.Abs
