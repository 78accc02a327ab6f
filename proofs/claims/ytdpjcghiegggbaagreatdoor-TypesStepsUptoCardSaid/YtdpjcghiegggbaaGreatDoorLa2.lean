/-
  The abstract machine, part 13: conversions, lengths, greatest and least numbers.
-/
import Derived.Test.YtdpjcghiegggbaaGreatDoorLa1
import Derived.MapKept
import Derived.ChangeKeysEq
import Derived.Laws.IdiomStrings
import Derived.Laws.Cover4
import Derived.Laws.BytesArg
import Derived.Scope
set_option linter.all false
namespace Go.Abs
open Go
theorem intT_spec {P:Program} {t:Nat} {kk:IntKind} (h:intT P t=some kk):P.underlying t=some (.int kk):=by
 unfold intT at h
 split at h
 ·rename_i ti ht
  obtain ⟨i,u,z,h1,h2,h3,h4,_⟩:=tiOf_spec ht
  split at h
  ·rename_i k' hk
   cases h
   rw [hk] at h4
   cases u<;>simp [absK] at h4
   subst h4
   exact h2
  ·cases h
 ·cases h
section
variable {P:Program} {G:Globals} {o:Oper} {ev:Operand→AV} {H:List ABlk}
theorem lenK_ok {ts:Array TypeId} {x:Operand} {k:Eff→Prop} (ho:o.op=.call {callee:=.builtin .len,args:=#[x],argTypes:=ts})
  (hk:lenK P ts (ev x) k):∃ e,OpSem P G o ev (hp H) e∧k e:=by
 have mx:x∈o.op.operands.toList:=by simp [Op.operands,Call.operands,ho]
 unfold lenK at hk
 split at hk
 ·rename_i t hts
  have hts':ts=#[t]:=by rw [← Array.toArray_toList (xs:=ts),hts]
  subst hts'
  have exec:∀ (a:Act) (w w':World) (v:Value),(Builtin.len_ #[t] o.type #[a.eval x]).run P w=.ok v w'→(execOp a.eval o).run P w=.ok (.value v) w':=by
   intro a w w' v hr
   simp only [execOp,ho,resolve,invoke,builtin,Sem.run_bind,Sem.run_pure,Result.andThen_ok,List.map_toArray,List.map_cons,List.map_nil,hr]
  have slc:isSliceT P t=true→∀ (w:World) (base:Option Addr) (n cap:Nat),(Builtin.len_ #[t] o.type #[.slice base n cap]).run P w=.ok (.int .i64 n) w:=by
   intro hs w base n cap
   obtain ⟨⟨e,te⟩,hse⟩:=Option.isSome_iff_exists.1 hs
   obtain ⟨hu,hte⟩:=sliceElem_spec hse
   simp [Builtin.len_,run_underlying hu,goInt]
  split at hk
  ·rename_i s hx
   have hu:=isStrT_spec hk.1
   refine ⟨_,OpSem.val fun h ρ H' a w hs hops hr=>⟨.int .i64 s.size,?_,.d _ _ (.int _ _)⟩,hk.2⟩
   refine exec a w w _ ?_
   have e1:=(hx▸hops x mx).str_inv
   rw [e1]
   simp [Builtin.len_,run_underlying hu,goInt]
  ·rename_i n full cs hx
   refine ⟨_,OpSem.val fun h ρ H' a w hs hops hr=>?_,hk.2⟩
   have hv:=hx▸hops x mx
   generalize he:a.eval x=v at hv
   cases hv with
   | d _ _ hd=>cases hd with
     | sl0 base=>exact ⟨.int .i64 ((0:Nat):Int),exec a w w _ (by have:=slc hk.1 w base 0 0;rw [he];exact this),.d _ _ (.int _ _)⟩
     | sl g off _ cap=>exact ⟨.int .i64 (n:Int),exec a w w _ (by have:=slc hk.1 w (some ⟨g,off,none⟩) n cap;rw [he];exact this),.d _ _ (.int _ _)⟩
  ·rename_i b sz off n hx
   refine ⟨_,OpSem.val fun h ρ H' a w hs hops hr=>?_,hk.2⟩
   have hv:=hx▸hops x mx
   generalize he:a.eval x=v at hv
   cases hv with
   | lsl0 base=>exact ⟨.int .i64 ((0:Nat):Int),exec a w w _ (by have:=slc hk.1 w base 0 0;rw [he];exact this),.d _ _ (.int _ _)⟩
   | lsl _ _ _ _ cap g=>exact ⟨.int .i64 (n:Int),exec a w w _ (by have:=slc hk.1 w (some ⟨g,off,none⟩) n cap;rw [he];exact this),.d _ _ (.int _ _)⟩
  ·split at hk
   ·rename_i n e sz hae
    obtain ⟨hu,te,hte,hsz⟩:=arrayE_spec hae
    refine ⟨_,OpSem.val fun h ρ H' a w hs hops hr=>⟨.int .i64 (n:Int),?_,.d _ _ (.int _ _)⟩,hk⟩
    refine exec a w w _ ?_
    simp [Builtin.len_,run_underlying hu,goInt]
   ·exact hk.elim
 ·exact hk.elim
theorem mmK_ok {greatest:Bool} {xs:Array Operand} {ts:Array TypeId} {k:Eff→Prop} (ho:o.op=.call {callee:=.builtin (if greatest then .max else .min),args:=xs,argTypes:=ts})
  (hk:mmK greatest (xs.toList.map ev) k):∃ e,OpSem P G o ev (hp H) e∧k e:=by
 have mem:∀ x,x∈xs.toList→x∈o.op.operands.toList:=by intro x hx;cases greatest<;>simpa [Op.operands,Call.operands,ho] using hx
 have exec:∀ (a:Act) (w w':World) (v:Value),(if greatest then Builtin.max_ ts o.type (xs.map a.eval) else Builtin.min_ ts o.type (xs.map a.eval)).run P w=.ok v w'→(execOp a.eval o).run P w=.ok (.value v) w':=by
  intro a w w' v hr
  cases greatest<;>simp only [if_true,if_false,Bool.false_eq_true] at hr ho <;>
  simp only [execOp,ho,resolve,invoke,builtin,Sem.run_bind,Sem.run_pure,Result.andThen_ok,hr]
 unfold mmK at hk
 split at hk
 ·rename_i kk a0 kb b0 hl
  obtain ⟨x,r1,hxs,ea,hr1⟩:=List.map_eq_cons_iff.1 hl
  obtain ⟨y,r2,hxs2,eb,hr2⟩:=List.map_eq_cons_iff.1 hr1
  have hr2:=List.map_eq_nil_iff.1 hr2
  subst hr2;subst hxs2
  have hxa:xs=#[x,y]:=by rw [← Array.toArray_toList (xs:=xs),hxs]
  refine ⟨_,OpSem.val fun h ρ H' a w hs hops hr=>⟨_,exec a w w _ ?_,.d _ _ (.int _ _)⟩,hk⟩
  have e1:=(ea▸hops x (mem x (by simp [hxs]))).int_inv
  have e2:=(eb▸hops y (mem y (by simp [hxs]))).int_inv
  subst hxa
  cases greatest<;>simp [Builtin.max_,Builtin.min_,e1,e2,Builtin.max2,Builtin.min2]
 ·rename_i kk a0 kb b0 kc c0 hl
  obtain ⟨x,r1,hxs,ea,hr1⟩:=List.map_eq_cons_iff.1 hl
  obtain ⟨y,r2,hxs2,eb,hr2⟩:=List.map_eq_cons_iff.1 hr1
  obtain ⟨z,r3,hxs3,ec,hr3⟩:=List.map_eq_cons_iff.1 hr2
  have hr3:=List.map_eq_nil_iff.1 hr3
  subst hr3;subst hxs3;subst hxs2
  have hxa:xs=#[x,y,z]:=by rw [← Array.toArray_toList (xs:=xs),hxs]
  refine ⟨_,OpSem.val fun h ρ H' a w hs hops hr=>⟨_,exec a w w _ ?_,.d _ _ (.int _ _)⟩,hk⟩
  have e1:=(ea▸hops x (mem x (by simp [hxs]))).int_inv
  have e2:=(eb▸hops y (mem y (by simp [hxs]))).int_inv
  have e3:=(ec▸hops z (mem z (by simp [hxs]))).int_inv
  subst hxa
  cases greatest<;>simp [Builtin.max_,Builtin.min_,e1,e2,e3,Builtin.max2,Builtin.min2]
 ·exact hk.elim
end
def isIntK (k:IntKind):D→Bool
 | .int k' _=>decide (k=k')
 | _=>false
def intE (P:Program) (e:Nat):Option IntKind :=
 match tiOf P e with
 | some te=>match te.k with
   | .int k=>if te.size=1 then some k else none
   | _=>none
 | none=>none
def keyKD (P:Program):TK→D→Bool
 | .int k,.int k' _=>decide (k=k')
 | .string,.str _=>true
 | .bool,.bool _=>true
 | .array n e,.agg l=>l.length == n && (match intE P e with | some k=>l.all (isIntK k) | none=>false)
 | _,_=>false
def isKeyD (P:Program) (kt:Nat) (d:D):Bool :=
 match tiOf P kt with
 | some ti=>keyKD P ti.k d
 | none=>false
def keyEqL:List D→List D→Bool
 | [],[]=>true
 | .int _ a::l,.int _ b::m=>a == b && keyEqL l m
 | _,_=>false
def keyEq:D→D→Bool
 | .int _ a,.int _ b=>a == b
 | .str a,.str b=>a == b
 | .bool a,.bool b=>a == b
 | .agg l,.agg m=>keyEqL l m
 | _,_=>false
def findE (k:D):List (D × D)→Option (Nat × D)
 | []=>none
 | x::r=>if keyEq k x.1 then some (0,x.2) else (findE k r).map fun y=>(y.1+1,y.2)
def updE (l:List (D × D)) (k d:D):List (D × D) :=
 match findE k l with
 | some (i,_)=>l.set i (k,d)
 | none=>l++[(k,d)]
def keysOK (P:Program) (kt:Nat) (l:List (D × D)):Bool:=l.all fun e=>isKeyD P kt e.1
def zeroOf (P:Program) (t:Nat):Option D :=
 match P.info? t with
 | some i=>match i.zero with
   | some (.agg cs)=>match valDs cs.toList with
     | some l=>some (.agg l)
     | none=>none
   | some v=>valD v
   | none=>none
 | none=>none
def lookV (z:D) (l:List (D × D)) (k:D) (ok:Bool):D :=
 match findE k l with
 | some (_,d)=>if ok then .tup [d,.bool true] else d
 | none=>if ok then .tup [z,.bool false] else z
section
variable {P:Program} {h:Held} {w:World}
theorem isIntK_spec {k:IntKind} {x:D} {v:Value} (e:isIntK k x=true) (r:RD h v x):∃ n,x=.int k n∧v=.int k n:=by
 unfold isIntK at e
 split at e
 ·rename_i k' n
  simp at e;subst e
  cases r
  exact ⟨n,rfl,rfl⟩
 ·cases e
theorem plainKey_int {e:Nat} {k:IntKind} (hu:P.underlying e=some (.int k)):P.plainKey e=true:=by simp [Program.plainKey,hu]
theorem intE_spec {e:Nat} {k:IntKind} (hi:intE P e=some k):P.underlying e=some (.int k)∧P.cellsOf e=1∧∃ i,P.info? e=some i:=by
 unfold intE at hi
 split at hi
 ·rename_i te ht
  obtain ⟨i,u,z,h1,h2,h3,h4,h5,h6,h7⟩:=tiOf_spec ht
  split at hi
  ·rename_i k' hk
   split at hi
   ·rename_i hs
    cases hi
    rw [hk] at h4
    cases u<;>simp [absK] at h4
    subst h4
    exact ⟨h2,by simp [Program.cellsOf,h1,h5,hs],i,h1⟩
   ·cases hi
  ·cases hi
 ·cases hi
theorem isKeyD_spec {kt:Nat} {d:D} (e:isKeyD P kt d=true):∃ ti u i,tiOf P kt=some ti∧P.info? kt=some i∧P.underlying kt=some u∧absK P u=ti.k∧keyKD P ti.k d=true:=by
 unfold isKeyD at e
 split at e
 ·rename_i ti ht
  obtain ⟨i,u,z,h1,h2,h3,h4,_⟩:=tiOf_spec ht
  exact ⟨ti,u,i,ht,h1,h2,h4,e⟩
 ·cases e
theorem key_cases {kt:Nat} {d:D} {v:Value} (e:isKeyD P kt d=true) (r:RD h v d) :
  (∃ k n,P.underlying kt=some (.int k)∧d=.int k n∧v=.int k n)∨(∃ s,P.underlying kt=some .string∧d=.str s∧v=.string s)∨(∃ b,P.underlying kt=some .bool∧d=.bool b∧v=.bool b) ∨
  ∃ n el k l,∃ ns:List Int,P.underlying kt=some (.array n el)∧intE P el=some k∧d=.agg l∧l=ns.map (D.int k)∧ns.length=n∧v=.agg (ns.map (Value.int k)).toArray:=by
 obtain ⟨ti,u,i,ht,hi,hu,ha,hk⟩:=isKeyD_spec e
 rw [← ha] at hk
 cases u<;>cases d<;>simp only [absK,keyKD,Bool.false_eq_true] at hk
 ·cases r;exact .inr (.inr (.inl ⟨_,hu,rfl,rfl⟩))
 ·rename_i k k' n
  simp at hk;subst hk
  cases r
  exact .inl ⟨_,_,hu,rfl,rfl⟩
 ·cases r;exact .inr (.inl ⟨_,hu,rfl,rfl⟩)
 ·rename_i n el l
  simp only [Bool.and_eq_true,beq_iff_eq] at hk
  obtain ⟨hl,hk⟩:=hk
  split at hk
  ·rename_i k hik
   cases r with
   | agg vs _ hs hr =>
    refine .inr (.inr (.inr ?_))
    have key:∀ (l:List D) (vl:List Value),vl.length=l.length→l.all (isIntK k)=true→(∀ (i:Nat) v x,vl[i]? = some v→l[i]? = some x→RD h v x)→∃ ns:List Int,l=ns.map (D.int k)∧vl=ns.map (Value.int k):=by
     intro l
     induction l with
     | nil=>intro vl h1 _ _;exact ⟨[],rfl,by simpa using h1⟩
     | cons x l ih =>
      intro vl h1 h2 h3
      cases vl with
      | nil=>simp at h1
      | cons v vl =>
       simp only [List.all_cons,Bool.and_eq_true] at h2
       obtain ⟨n,e1,e2⟩:=isIntK_spec h2.1 (h3 0 v x rfl rfl)
       obtain ⟨ns,e3,e4⟩:=ih vl (by simpa using h1) h2.2 (fun i v x hv hx=>h3 (i+1) v x (by simpa using hv) (by simpa using hx))
       exact ⟨n::ns,by simp [e1,e3],by simp [e2,e4]⟩
    obtain ⟨ns,e1,e2⟩:=key l vs.toList (by simpa using hs) hk (fun i v x hv hx=>hr i v x (by simpa using hv) hx)
    refine ⟨n,el,k,l,ns,hu,hik,rfl,e1,?_,?_⟩
    ·have:=congrArg List.length e1;simp at this;omega
    ·rw [← e2]
  ·cases hk
theorem bytes_beq' (a b:ByteArray):(a == b)=decide (a=b):=by
 by_cases e:a=b
 ·rw [decide_eq_true e];exact (MapKept.bytes_beq a b).2 e
 ·rw [decide_eq_false e]
  cases h:(a == b)
  ·rfl
  ·exact absurd ((MapKept.bytes_beq a b).1 h) e
theorem keyEqL_ints {k k':IntKind}:∀ (l m:List Int),keyEqL (l.map (D.int k)) (m.map (D.int k'))=decide (l=m)
 | [],[]=>by simp [keyEqL]
 | [],b::m=>by simp [keyEqL]
 | a::l,[]=>by simp [keyEqL]
 | a::l,b::m=>by
   simp only [List.map_cons,keyEqL,keyEqL_ints l m,List.cons.injEq]
   by_cases h1:a=b<;>by_cases h2:l=m<;>simp [h1,h2]
theorem run_items {el:Nat} {k:IntKind} (hi:intE P el=some k) (dd:Nat) (xs ys:List Int):∀ (is:List Nat),(∀ i∈is,i<xs.length∧i<ys.length) →
  (Op.eqItems (dd+1) el (P.cellsOf el) (xs.map (Value.int k)).toArray (ys.map (Value.int k)).toArray is).run P w=.ok (is.all fun i=>xs.getD i 0 == ys.getD i 0) w
 | [],_=>by simp [Op.eqItems]
 | i::is,hb=>by
   obtain ⟨hu,hc,_⟩:=intE_spec hi
   obtain ⟨b1,b2⟩:=hb i (by simp)
   have p1:=run_part_plain (P:=P) w (plainKey_int hu) (xs:=(xs.map (Value.int k)).toArray) (off:=i) (v:=.int k (xs.getD i 0)) (by simp [List.getD_eq_getElem?_getD,List.getElem?_eq_getElem b1])
   have p2:=run_part_plain (P:=P) w (plainKey_int hu) (xs:=(ys.map (Value.int k)).toArray) (off:=i) (v:=.int k (ys.getD i 0)) (by simp [List.getD_eq_getElem?_getD,List.getElem?_eq_getElem b2])
   have ih:=run_items hi dd xs ys is (fun j hj=>hb j (by simp [hj]))
   have pe:(Op.equalIn (dd+1) el (.int k (xs.getD i 0)) (.int k (ys.getD i 0))).run P w=.ok (xs.getD i 0 == ys.getD i 0) w:=by
    simp [Op.equalIn,run_underlying hu]
   simp only [hc] at ih ⊢
   simp only [Op.eqItems,Nat.mul_one,Sem.run_bind,p1,p2,Result.andThen_ok,pe,List.all_cons]
   cases hq:(xs.getD i 0 == ys.getD i 0)
   ·simp
   ·simpa using ih
theorem all_range {xs ys:List Int} (hl:xs.length=ys.length):((List.range xs.length).all fun i=>xs.getD i 0 == ys.getD i 0)=decide (xs=ys):=by
 by_cases e:xs=ys
 ·subst e;simp
 ·rw [decide_eq_false e]
  cases h:((List.range xs.length).all fun i=>xs.getD i 0 == ys.getD i 0)
  ·rfl
  ·refine absurd (List.ext_getElem hl fun i h1 h2=>?_) e
   have:=List.all_eq_true.1 h i (by simpa using h1)
   simpa [List.getD_eq_getElem?_getD,List.getElem?_eq_getElem h1,List.getElem?_eq_getElem h2] using this
theorem eq_any {kt:Nat} {x y:Value} {r:Result Bool} (hh:∀ d,(Op.equalIn (d+1) kt x y).run P w=r):(Op.equal kt x y).run P w=r:=hh 9999
theorem run_keyEq {kt:Nat} {a b:D} {va vb:Value} (ha:isKeyD P kt a=true) (hb:isKeyD P kt b=true) (ra:RD h va a) (rb:RD h vb b) :
  (Op.equal kt va vb).run P w=.ok (keyEq a b) w∧(keyEq a b=true↔va=vb):=by
 rcases key_cases ha ra with ⟨k,n,hu,rfl,rfl⟩ | ⟨s,hu,rfl,rfl⟩ | ⟨c,hu,rfl,rfl⟩ | ⟨n,el,k,l,ns,hu,hi,rfl,rfl,hn,rfl⟩ <;>
 rcases key_cases hb rb with ⟨k',n',hu',rfl,rfl⟩ | ⟨s',hu',rfl,rfl⟩ | ⟨c',hu',rfl,rfl⟩ | ⟨n',el',k',l',ns',hu',hi',rfl,rfl,hn',rfl⟩ <;>
 rw [hu] at hu'<;>try cases hu'
 ·exact ⟨eq_any fun d=>by simp [Op.equalIn,run_underlying hu,keyEq],by simp [keyEq]⟩
 ·exact ⟨eq_any fun d=>by simp [Op.equalIn,run_underlying hu,keyEq],by simp [keyEq,bytes_beq']⟩
 ·exact ⟨eq_any fun d=>by simp [Op.equalIn,run_underlying hu,keyEq],by simp [keyEq]⟩
 ·rw [hi] at hi';cases hi'
  obtain ⟨hue,hc,i,hinf⟩:=intE_spec hi
  have hlen:ns.length=ns'.length:=by omega
  have h1:=run_equalIn_array (P:=P) (w:=w) 9999 (ns.map (Value.int k)).toArray (ns'.map (Value.int k)).toArray hu hinf
  have h2:=run_items (P:=P) (w:=w) hi 9998 ns ns' (List.range n) (fun i hi=>by simp at hi;omega)
  rw [← hn,all_range hlen] at h2
  refine ⟨?_,?_⟩
  ·have h3:(Op.equal kt (.agg (ns.map (Value.int k)).toArray) (.agg (ns'.map (Value.int k)).toArray)).run P w=_:=h1
   rw [h3,← hn,h2,keyEq,keyEqL_ints]
  ·rw [keyEq,keyEqL_ints]
   simp only [decide_eq_true_eq,Value.agg.injEq]
   constructor
   ·intro e;rw [e]
   ·intro e
    have e2:ns.map (Value.int k)=ns'.map (Value.int k):=by simpa using congrArg Array.toList e
    exact List.map_inj_right (fun a b hab=>by cases hab;rfl) |>.1 e2
theorem run_findAsk {kt:Nat} {kd:D} {kv:Value} (hk:isKeyD P kt kd=true) (rk:RD h kv kd):∀ (es:List MapEntry) (l:List (D × D)) (i:Nat),es.length=l.length →
  (∀ (j:Nat) e p,es[j]? = some e→l[j]? = some p→RD h e.key p.1∧RD h e.val p.2)→keysOK P kt l=true →
  match findE kd l with
  | none=>(Instr.findAsking kt kv es i).run P w=.ok none w
  | some (j,_)=>∃ e,es[j]? = some e∧j<l.length∧(Instr.findAsking kt kv es i).run P w=.ok (some (i+j,e.val)) w∧e.key=kv
 | [],[],i,_,_,_=>by simp [findE,Instr.findAsking]
 | [],_::_,_,hl,_,_=>by simp at hl
 | _::_,[],_,hl,_,_=>by simp at hl
 | e::es,p::l,i,hl,hr,hok=>by
   simp only [keysOK,List.all_cons,Bool.and_eq_true] at hok
   obtain ⟨r1,r2⟩:=hr 0 e p rfl rfl
   obtain ⟨q1,q2⟩:=run_keyEq (w:=w) hk hok.1 rk r1
   simp only [findE]
   cases hq:keyEq kd p.1
   ·have ih:=run_findAsk hk rk es l (i+1) (by simpa using hl) (fun j e' p' a b=>hr (j+1) e' p' (by simpa using a) (by simpa using b)) hok.2
    rw [hq] at q1
    simp only [Bool.false_eq_true,if_false]
    cases hf:findE kd l with
    | none =>
     simp only [hf] at ih
     simp [Instr.findAsking,q1,ih]
    | some y =>
     obtain ⟨j,d⟩:=y
     simp only [hf] at ih
     obtain ⟨e',h1,h2,h3,h4⟩:=ih
     simp only [Option.map_some]
     exact ⟨e',by simpa using h1,by simp;omega,by simp [Instr.findAsking,q1,h3,Nat.add_assoc,Nat.add_comm 1 j],h4⟩
   ·rw [hq] at q1
    exact ⟨e,rfl,by simp,by simp [Instr.findAsking,q1],((q2.1 hq)).symm⟩
theorem sameNow_eq {kt:Nat} {u:TypeDesc} (hu:P.underlying kt=some u) {a b:D} {va vb:Value} (ha:isKeyD P kt a=true) (hb:isKeyD P kt b=true) (ra:RD h va a) (rb:RD h vb b) :
  Instr.sameNow u va vb=some (keyEq a b)∨∃ n e,u=.array n e:=by
 rcases key_cases ha ra with ⟨k,n,hu,rfl,rfl⟩ | ⟨s,hu,rfl,rfl⟩ | ⟨c,hu,rfl,rfl⟩ | ⟨n,el,k,l,ns,hu,hi,rfl,rfl,hn,rfl⟩ <;>
 rcases key_cases hb rb with ⟨k',n',hu',rfl,rfl⟩ | ⟨s',hu',rfl,rfl⟩ | ⟨c',hu',rfl,rfl⟩ | ⟨n',el',k',l',ns',hu',hi',rfl,rfl,hn',rfl⟩ <;>
 rw [hu] at hu'<;>try cases hu'
 all_goals (rename_i hu0;rw [hu] at hu0;cases hu0)
 ·left;simp [Instr.sameNow,keyEq]
 ·left;simp [Instr.sameNow,keyEq]
 ·left;simp [Instr.sameNow,keyEq]
 ·right;exact ⟨_,_,rfl⟩
theorem run_findNow {kt:Nat} {u:TypeDesc} (hu:P.underlying kt=some u) (hna:∀ n e,u≠.array n e) {kd:D} {kv:Value} (hk:isKeyD P kt kd=true) (rk:RD h kv kd):∀ (es:List MapEntry) (l:List (D × D)) (i:Nat),es.length=l.length →
  (∀ (j:Nat) e p,es[j]? = some e→l[j]? = some p→RD h e.key p.1∧RD h e.val p.2)→keysOK P kt l=true →
  match findE kd l with
  | none=>Instr.findNow u kv es i=some none
  | some (j,_)=>∃ e,es[j]? = some e∧j<l.length∧Instr.findNow u kv es i=some (some (i+j,e.val))∧e.key=kv
 | [],[],i,_,_,_=>by simp [findE,Instr.findNow]
 | [],_::_,_,hl,_,_=>by simp at hl
 | _::_,[],_,hl,_,_=>by simp at hl
 | e::es,p::l,i,hl,hr,hok=>by
   simp only [keysOK,List.all_cons,Bool.and_eq_true] at hok
   obtain ⟨r1,r2⟩:=hr 0 e p rfl rfl
   have q2:=(run_keyEq (P:=P) (w:=default) hk hok.1 rk r1).2
   rcases sameNow_eq hu hk hok.1 rk r1 with q1 | ⟨n,e',rfl⟩
   ·simp only [findE]
    cases hq:keyEq kd p.1
    ·have ih:=run_findNow hu hna hk rk es l (i+1) (by simpa using hl) (fun j e' p' a b=>hr (j+1) e' p' (by simpa using a) (by simpa using b)) hok.2
     rw [hq] at q1
     simp only [Bool.false_eq_true,if_false]
     cases hf:findE kd l with
     | none =>
      simp only [hf] at ih
      simp [Instr.findNow,q1,ih]
     | some y =>
      obtain ⟨j,d⟩:=y
      simp only [hf] at ih
      obtain ⟨e',h1,h2,h3,h4⟩:=ih
      simp only [Option.map_some]
      exact ⟨e',by simpa using h1,by simp;omega,by simp [Instr.findNow,q1,h3,Nat.add_assoc,Nat.add_comm 1 j],h4⟩
    ·rw [hq] at q1
     exact ⟨e,rfl,by simp,by simp [Instr.findNow,q1],(q2.1 hq).symm⟩
   ·exact absurd rfl (hna n e')
theorem run_find {kt:Nat} {kd:D} {kv:Value} (hk:isKeyD P kt kd=true) (rk:RD h kv kd) {es:Array MapEntry} {l:List (D × D)} (hm:MapR h es l) (hok:keysOK P kt l=true) :
  match findE kd l with
  | none=>(Instr.findKey kt kv es.toList).run P w=.ok none w
  | some (j,d)=>∃ e,es[j]? = some e∧l[j]? = some (((l[j]?).map (·.1)).getD kd,d)∧(Instr.findKey kt kv es.toList).run P w=.ok (some (j,e.val)) w∧e.key=kv:=by
 obtain ⟨ti,u,i,ht,hi,hu,ha,hkk⟩:=isKeyD_spec hk
 have hl:es.toList.length=l.length:=by simpa using hm.1
 have hr:∀ (j:Nat) e p,es.toList[j]? = some e→l[j]? = some p→RD h e.key p.1∧RD h e.val p.2:=fun j e p a b=>hm.2 j e p (by simpa using a) b
 have snd:∀ (l:List (D × D)) j d,findE kd l=some (j,d)→∃ k',l[j]? = some (k',d):=by
  intro l
  induction l with
  | nil=>intro j d h;simp [findE] at h
  | cons x r ih =>
   intro j d h
   simp only [findE] at h
   split at h
   ·cases h;exact ⟨x.1,rfl⟩
   ·cases hf:findE kd r with
    | none=>simp [hf] at h
    | some y =>
     simp [hf] at h
     obtain ⟨rfl,rfl⟩:=h
     obtain ⟨k',hk'⟩:=ih _ _ hf
     exact ⟨k',by simpa using hk'⟩
 have arr:(∃ n e,u=.array n e)∨∀ n e,u≠.array n e:=by
  cases u<;>first | exact .inl ⟨_,_,rfl⟩ | exact .inr (fun _ _ h=>by cases h)
 rcases arr with ⟨n,e,rfl⟩ | hna
 ·have f1:=run_findAsk (w:=w) hk rk es.toList l 0 hl hr hok
  have f2:Instr.findKey kt kv es.toList=(do match Instr.findNow (← underlying kt) kv es.toList 0 with | some r=>pure r | none=>Instr.findAsking kt kv es.toList):=rfl
  have f3:(Instr.findKey kt kv es.toList).run P w=(Instr.findAsking kt kv es.toList 0).run P w:=by
   rw [f2]
   simp only [Sem.run_bind,run_underlying hu,Result.andThen_ok]
   cases he:es.toList with
   | nil=>simp [Instr.findNow,Instr.findAsking]
   | cons x r =>
    have:Instr.findNow (.array n e) kv (x::r) 0=none:=by
     simp only [Instr.findNow]
     have:Instr.sameNow (.array n e) kv x.key=none:=by simp [Instr.sameNow]
     rw [this]
    rw [this]
  rw [f3]
  cases hf:findE kd l with
  | none=>simpa only [hf] using f1
  | some y =>
   obtain ⟨j,d⟩:=y
   simp only [hf,Nat.zero_add] at f1
   obtain ⟨e',a1,a2,a3,a4⟩:=f1
   obtain ⟨k',hk'⟩:=snd l j d hf
   exact ⟨e',by simpa using a1,by rw [hk'];rfl,a3,a4⟩
 ·have f1:=run_findNow hu hna hk rk es.toList l 0 hl hr hok
  cases hf:findE kd l with
  | none =>
   simp only [hf] at f1
   exact MapKept.run_findKey hu f1
  | some y =>
   obtain ⟨j,d⟩:=y
   simp only [hf,Nat.zero_add] at f1
   obtain ⟨e',a1,a2,a3,a4⟩:=f1
   obtain ⟨k',hk'⟩:=snd l j d hf
   exact ⟨e',by simpa using a1,by rw [hk'];rfl,MapKept.run_findKey hu a3,a4⟩
theorem run_checkItems {el:Nat} {k:IntKind} (hi:intE P el=some k) (em:Bool) (dd:Nat) (xs:List Int):∀ (is:List Nat),(∀ i∈is,i<xs.length) →
  (forIn is PUnit.unit (fun i _=>do Instr.checkKey em (dd+1) el (← part el (xs.map (Value.int k)).toArray (i*(← sizeOf el)));pure (ForInStep.yield PUnit.unit)):Sem PUnit).run P w=.ok PUnit.unit w
 | [],_=>by simp
 | i::is,hb=>by
   obtain ⟨hu,hc,inf,hinf⟩:=intE_spec hi
   have p1:=run_part_plain (P:=P) w (plainKey_int hu) (xs:=(xs.map (Value.int k)).toArray) (off:=i) (v:=.int k (xs.getD i 0)) (by simp [List.getD_eq_getElem?_getD,List.getElem?_eq_getElem (hb i (by simp))])
   have p2:(sizeOf el).run P w=.ok (P.cellsOf el) w:=_root_.Go.run_sizeOf w hinf
   have p3:(Instr.checkKey em (dd+1) el (.int k (xs.getD i 0))).run P w=.ok () w:=by simp [Instr.checkKey,run_underlying hu]
   have ih:=run_checkItems hi em dd xs is (fun j hj=>hb j (by simp [hj]))
   rw [hc] at p2
   simp only [List.forIn_cons,Sem.run_bind,p2,Result.andThen_ok,Nat.mul_one,p1,p3,Sem.run_pure]
   simpa only [Sem.run_bind] using ih
theorem run_checkKeyD {kt:Nat} {kd:D} {kv:Value} (hk:isKeyD P kt kd=true) (rk:RD h kv kd) (em:Bool):(Instr.checkKey em 10000 kt kv).run P w=.ok () w:=by
 suffices hh:∀ d,(Instr.checkKey em (d+1+1) kt kv).run P w=.ok () w from hh 9998
 intro d
 rcases key_cases hk rk with ⟨k,n,hu,rfl,rfl⟩ | ⟨s,hu,rfl,rfl⟩ | ⟨c,hu,rfl,rfl⟩ | ⟨n,el,k,l,ns,hu,hi,rfl,rfl,hn,rfl⟩
 ·simp [Instr.checkKey,run_underlying hu]
 ·simp [Instr.checkKey,run_underlying hu]
 ·simp [Instr.checkKey,run_underlying hu]
 ·have:=run_checkItems (P:=P) (w:=w) hi em d ns (List.range' 0 n) (fun i hi=>by simp at hi;omega)
  generalize d+1=e at *
  rw [Instr.checkKey]
  simp only [Sem.run_bind,run_underlying hu,Result.andThen_ok]
  simp only [Std.Legacy.Range.forIn_eq_forIn_range',Std.Legacy.Range.size,Nat.sub_zero,Nat.add_one_sub_one,Nat.div_one]
  rw [this]
  simp
theorem run_stays {kt:Nat} {kd:D} {kv:Value} (hk:isKeyD P kt kd=true) (rk:RD h kv kd):(Instr.keyThatStays kv kv).run P w=.ok kv w:=by
 have hs:Instr.sameBits 10000 kv kv=true:=by
  suffices hh:∀ d,Instr.sameBits (d+1) kv kv=true from hh 9999
  intro d
  rcases key_cases hk rk with ⟨k,n,hu,rfl,rfl⟩ | ⟨s,hu,rfl,rfl⟩ | ⟨c,hu,rfl,rfl⟩ | ⟨n,el,k,l,ns,hu,hi,rfl,rfl,hn,rfl⟩
  ·simp [Instr.sameBits]
  ·simp [Instr.sameBits,bytes_beq']
  ·simp [Instr.sameBits]
  ·simp only [Instr.sameBits,beq_self_eq_true,Bool.true_and,List.all_eq_true]
   intro x hx
   have:=List.of_mem_zip hx
   simp only [List.mem_map] at this
   have hz:∀ (l:List Value),(∀ v∈l,∃ m,v=Value.int k m)→∀ x∈l.zip l,Instr.sameBits d x.1 x.2=true:=by
    intro l
    induction l with
    | nil=>intro _ x hx;simp at hx
    | cons v l ih =>
     intro hl x hx
     simp only [List.zip_cons_cons,List.mem_cons] at hx
     rcases hx with rfl | hx
     ·obtain ⟨m,rfl⟩:=hl v (by simp)
      simp [Instr.sameBits]
     ·exact ih (fun u hu=>hl u (by simp [hu])) x hx
   exact hz _ (fun v hv=>by simp at hv;obtain ⟨m,_,rfl⟩:=hv;exact ⟨m,rfl⟩) x hx
 simp [Instr.keyThatStays,hs]
end
def lookupK (P:Program) (H:List ABlk) (t:Nat) (x ix:AV) (ok:Bool) (k:Eff→Prop):Prop :=
 match tiOf P t with
 | some ti=>match ti.k with
   | .map kt et=>match zeroOf P et,sealA H ix with
     | some z,some kd=>idsA ix=[]∧isKeyD P kt kd=true∧match x with
       | .d .nilm=>k ⟨.d (lookV z [] kd ok),[],[]⟩
       | .mp b=>match H[b]? with
         | some (.map l)=>keysOK P kt l=true∧k ⟨.d (lookV z l kd ok),[],[b]⟩
         | _=>False
       | _=>False
     | _,_=>False
   | _=>False
 | none=>False
def updateK (P:Program) (H:List ABlk) (t:Nat) (x ix v:AV) (k:Eff→Prop):Prop :=
 match tiOf P t with
 | some ti=>match ti.k with
   | .map kt _=>match sealA H ix,sealA H v with
     | some kd,some d=>idsA ix=[]∧isKeyD P kt kd=true∧match x with
       | .mp b=>match H[b]? with
         | some (.map l)=>keysOK P kt l=true∧k ⟨.undef,frz H (idsA v)++[(b,.map (updE l kd d))],b::idsA v⟩
         | _=>False
       | _=>False
     | _,_=>False
   | _=>False
 | none=>False
def makeMapK (P:Program) (H:List ABlk) (t:Nat) (k:Eff→Prop):Prop :=
 match tiOf P t with
 | some ti=>match ti.k with
   | .map _ _=>k ⟨.mp H.length,[(H.length,.map [])],[H.length]⟩
   | _=>False
 | none=>False
def clearK (P:Program) (H:List ABlk) (ts:Array TypeId) (x:AV) (k:Eff→Prop):Prop :=
 match ts.toList with
 | [t]=>match sliceElem P t with
   | some (_,te)=>match x with
     | .lsl b sz off n=>sz=te.size∧te.zero.length=te.size∧0<te.zero.length∧match H[b]? with
       | some (.row false cs)=>off+n*te.size≤cs.length∧k ⟨.d (.tup []),[(b,.row false (cs.take off++zerosD te.zero (n*te.size)++cs.drop (off+n*te.size)))],[b]⟩
       | _=>False
     | _=>False
   | none=>False
 | _=>False
def rangeK (P:Program) (H:List ABlk) (t:Nat) (x:AV) (k:Eff→Prop):Prop :=
 match x with
 | .d (.str s)=>isStrT P t=true∧k ⟨.ptr H.length 0,[(H.length,.iter s 0)],[H.length]⟩
 | _=>False
def nextC (b:Nat) (k:Eff→Prop):Option ABlk→Prop
 | some (.iter s pos)=>(pos<s.size→k ⟨.d (.tup [.bool true,.int .i64 pos,.int .i32 (Utf8.decode s pos).1]),[(b,.iter s (pos+(Utf8.decode s pos).2))],[b]⟩)∧(¬ pos<s.size→k ⟨.d (.tup [.bool false]),[],[b]⟩)
 | _=>False
def nextK (H:List ABlk) (x:AV) (str:Bool) (k:Eff→Prop):Prop :=
 match str,x with
 | true,.ptr b 0=>nextC b k H[b]?
 | _,_=>False
section
variable {P:Program} {G:Globals} {o:Oper} {ev:Operand→AV} {H:List ABlk}
theorem zeroOf_ok {t:Nat} {z:D} (e:zeroOf P t=some z) (h:Held) (w:World):∃ v,(zeroValue t).run P w=.ok v w∧RD h v z:=by
 unfold zeroOf at e
 split at e
 ·rename_i i hi
  have hz:∀ v,i.zero=some v→(zeroValue t).run P w=.ok v w:=fun v hv=>by simp [zeroValue,typeInfo,hi,hv]
  split at e
  ·rename_i cs hc
   split at e
   ·rename_i l hl
    cases e
    have hd:=valDs_ok (h:=h) hl
    exact ⟨_,hz _ hc,.agg _ _ (by simpa using hd.1) (fun i v x hv hx=>hd.2 i v x (by simpa using hv) hx)⟩
   ·cases e
  ·rename_i v _ hv
   exact ⟨_,hz _ hv,valD_ok e⟩
  ·cases e
 ·cases e
theorem mapT_spec {t kt et:Nat} {ti:TI} (ht:tiOf P t=some ti) (hk:ti.k=.map kt et):P.underlying t=some (.map kt et):=by
 obtain ⟨i,u,z,h1,h2,h3,h4,_⟩:=tiOf_spec ht
 rw [hk] at h4
 cases u<;>simp [absK] at h4
 obtain ⟨rfl,rfl⟩:=h4
 exact h2
theorem run_look {h:Held} {w:World} {t kt et:Nat} {z kd:D} {kv zv xv:Value} {es:Array MapEntry} {l:List (D × D)} {ok:Bool} (hu:P.underlying t=some (.map kt et)) (hz:(zeroValue et).run P w=.ok zv w) (rz:RD h zv z)
  (hk:isKeyD P kt kd=true) (rk:RD h kv kd) (hm:MapR h es l) (hok:keysOK P kt l=true) (hx:(xv=.map none∧es=#[])∨∃ r clock,xv=.map (some r)∧w.heap[r]? = some (.map es clock)) :
  ∃ v,(Instr.lookup t xv kv ok).run P w=.ok v w∧RD h v (lookV z l kd ok):=by
 have hf:=run_find (w:=w) hk rk hm hok
 have hc:=run_checkKeyD (w:=w) hk rk es.isEmpty
 have tup:∀ {a b:Value} {x y:D},RD h a x→RD h b y→RD h (.tuple #[a,b]) (.tup [x,y]):=fun r1 r2=>.tup _ _ rfl fun i v x hv hx=>by
  rcases i with _ | _ | i
  ·simp at hv hx;subst hv;subst hx;exact r1
  ·simp at hv hx;subst hv;subst hx;exact r2
  ·simp at hx
 unfold lookV
 cases hfe:findE kd l with
 | none =>
  simp only [hfe] at hf
  refine ⟨if ok then .tuple #[zv,.bool false] else zv,?_,?_⟩
  ·rcases hx with ⟨rfl,rfl⟩ | ⟨r,clock,rfl,hx⟩
   ·simp only [Instr.lookup,Sem.run_bind,run_underlying hu,Result.andThen_ok,Sem.run_pure,hc,hf,hz]
   ·simp only [Instr.lookup,Sem.run_bind,run_underlying hu,Result.andThen_ok,MapKept.run_getObj_map hx,Sem.run_pure,hc,hf,hz]
  ·cases ok
   ·exact rz
   ·exact tup rz (.bool _)
 | some y =>
  obtain ⟨j,d⟩:=y
  simp only [hfe] at hf
  obtain ⟨e,h1,h2,h3,h4⟩:=hf
  have hd:RD h e.val d:=(hm.2 j e _ h1 h2).2
  refine ⟨if ok then .tuple #[e.val,.bool true] else e.val,?_,?_⟩
  ·rcases hx with ⟨rfl,rfl⟩ | ⟨r,clock,rfl,hx⟩
   ·simp at h1
   ·simp only [Instr.lookup,Sem.run_bind,run_underlying hu,Result.andThen_ok,MapKept.run_getObj_map hx,Sem.run_pure,hc,h3]
  ·cases ok
   ·exact hd
   ·exact tup hd (.bool _)
theorem MapR.nil {h:Held}:MapR h #[] []:=⟨rfl,fun i e p a _=>by simp at a⟩
theorem lookupK_ok {t:Nat} {x ix:Operand} {ok:Bool} {k:Eff→Prop} (ho:o.op=.lookup t x ix ok) (hk:lookupK P H t (ev x) (ev ix) ok k):∃ e,OpSem P G o ev (hp H) e∧k e:=by
 have mx:x∈o.op.operands.toList:=by simp [Op.operands,ho]
 have mi:ix∈o.op.operands.toList:=by simp [Op.operands,ho]
 unfold lookupK at hk
 split at hk
 ·rename_i ti ht
  split at hk
  ·rename_i kt et hkk
   have hu:=mapT_spec ht hkk
   split at hk
   ·rename_i z kd hz hs
    obtain ⟨k1,k2,hk⟩:=hk
    split at hk
    ·rename_i hx
     refine ⟨_,OpSem.val fun h ρ H' a w hs' hops hr=>?_,hk⟩
     have rk:=seal_ok (hops ix mi) hs (fun b hb=>by rw [k1] at hb;cases hb)
     obtain ⟨zv,z1,z2⟩:=zeroOf_ok hz h w
     have ex:a.eval x=.map none:=by
      have:=hx▸hops x mx
      generalize a.eval x=v at this
      cases this with | d _ _ hd=>cases hd;rfl
     obtain ⟨v,v1,v2⟩:=run_look (ok:=ok) (xv:=.map none) hu z1 z2 k2 rk MapR.nil rfl (.inl ⟨rfl,rfl⟩)
     exact ⟨v,by simp only [execOp,ho,ex,Sem.run_bind,v1,Result.andThen_ok,Sem.run_pure],.d _ _ v2⟩
    ·rename_i b hx
     split at hk
     ·rename_i l hb
      obtain ⟨k3,hk⟩:=hk
      refine ⟨_,OpSem.val fun h ρ H' a w hs' hops hr=>?_,hk⟩
      have rk:=seal_ok (hops ix mi) hs (fun b hb=>by rw [k1] at hb;cases hb)
      obtain ⟨zv,z1,z2⟩:=zeroOf_ok hz h w
      obtain ⟨g,S,es,clock,b1,b2,b3,b4,b5⟩:=hs'.blk b (.map l) (by rw [hr b (by simp)];exact hb)
      have ex:a.eval x=.map (some g):=by
       have:=hx▸hops x mx
       generalize a.eval x=v at this
       cases this with | mp _ g' S' hρ=>rw [b1] at hρ;cases hρ;rfl
      obtain ⟨v,v1,v2⟩:=run_look (ok:=ok) (xv:=.map (some g)) hu z1 z2 k2 rk b3 k3 (.inr ⟨g,clock,rfl,b2⟩)
      exact ⟨v,by simp only [execOp,ho,ex,Sem.run_bind,v1,Result.andThen_ok,Sem.run_pure],.d _ _ v2⟩
     ·exact hk.elim
    ·exact hk.elim
   ·exact hk.elim
  ·exact hk.elim
 ·exact hk.elim
theorem makeMapK_ok {t:Nat} {k:Eff→Prop} (ho:o.op=.makeMap t none) (hk:makeMapK P H t k):∃ e,OpSem P G o ev (hp H) e∧k e:=by
 unfold makeMapK at hk
 split at hk
 ·rename_i ti ht
  split at hk
  ·refine ⟨_,OpSem.gen fun h ρ H' a w hs hx hr=>?_,hk⟩
   have hn:H' H.length=none:=by rw [hr _ (by simp)];simp [hp]
   obtain ⟨s1,s2⟩:=hs.alloc H.length hn (.map #[] 0) 0 (.map []) ⟨w.heap.size,0,#[],0,updP_same _ _ _,heap_alloc_new w _,MapR.nil,fun j=>hs.held_none j,Born.nil⟩
   refine ⟨_,_,_,_,?_,s1,.mp _ w.heap.size 0 (updP_same _ _ _),s2⟩
   simp [execOp,ho,Instr.makeMap,newObj,Sem.run]
  ·exact hk.elim
 ·exact hk.elim
theorem rangeK_ok {t:Nat} {x:Operand} {k:Eff→Prop} (ho:o.op=.range t x) (hk:rangeK P H t (ev x) k):∃ e,OpSem P G o ev (hp H) e∧k e:=by
 have mx:x∈o.op.operands.toList:=by simp [Op.operands,ho]
 unfold rangeK at hk
 split at hk
 ·rename_i s hx
  obtain ⟨k1,hk⟩:=hk
  have hu:=isStrT_spec k1
  refine ⟨_,OpSem.gen fun h ρ H' a w hs hops hr=>?_,hk⟩
  have e1:=(hx▸hops x mx).str_inv
  have hn:H' H.length=none:=by rw [hr _ (by simp)];simp [hp]
  obtain ⟨s1,s2⟩:=hs.alloc H.length hn (.stringIter s 0) 0 (.iter s 0) ⟨w.heap.size,0,updP_same _ _ _,heap_alloc_new w _,fun j=>hs.held_none j⟩
  refine ⟨_,_,_,_,?_,s1,.ptr _ _ w.heap.size 0 (updP_same _ _ _),s2⟩
  simp [execOp,ho,e1,Instr.range,run_underlying hu,newObj,Sem.run]
 ·exact hk.elim
theorem run_getObj_iter {w:World} {r:Nat} {s:ByteArray} {pos:Nat} (hb:w.heap[r]? = some (.stringIter s pos)):(getObj r).run P w=.ok (.stringIter s pos) w:=by
 simp [getObj,Sem.run,hb]
theorem run_setObj_iter {w:World} {r:Nat} {s:ByteArray} {pos:Nat} (o:Obj) (hb:w.heap[r]? = some (.stringIter s pos)):(setObj r o).run P w=.ok () {w with heap:=w.heap.setIfInBounds r o}:=by
 simp [setObj,Sem.run,hb]
theorem nextK_ok {x:Operand} {str:Bool} {k:Eff→Prop} (ho:o.op=.next x str) (hk:nextK H (ev x) str k):∃ e,OpSem P G o ev (hp H) e∧k e:=by
 have mx:x∈o.op.operands.toList:=by simp [Op.operands,ho]
 unfold nextK at hk
 split at hk
 ·rename_i b hx
  unfold nextC at hk
  split at hk
  ·rename_i s pos hb
   obtain ⟨k1,k2⟩:=hk
   by_cases hp':pos<s.size
   ·refine ⟨_,OpSem.gen fun h ρ H' a w hs hops hr=>?_,k1 hp'⟩
    have hbb:H' b=some (.iter s pos):=by rw [hr b (by simp)];exact hb
    obtain ⟨g,S,b1,b2,b3⟩:=hs.blk b _ hbb
    have ex:a.eval x=.pointer (some ⟨g,0,none⟩):=by
     obtain ⟨g',S',e1,e2⟩:=(hx▸hops x mx).ptr_inv
     rw [b1] at e2;cases e2;exact e1
    have hh:=MapKept.heap_set (o':=.stringIter s (pos+(Utf8.decode s pos).2)) b2
    obtain ⟨t3,t4⟩:=hs.change b ⟨_,hbb,by simp⟩ g S b1 (.iter s (pos+(Utf8.decode s pos).2)) h {w with heap:=w.heap.setIfInBounds g (.stringIter s (pos+(Utf8.decode s pos).2))} (Held.le_refl _) (fun k hk=>⟨fun _=>rfl,hh.2 k hk⟩) (by simp) rfl rfl rfl
     (fun o v e=>by rw [b3 o] at e;cases e) ⟨g,S,b1,hh.1,b3⟩
    refine ⟨_,_,_,_,?_,t3,.d _ (.tup [.bool true,.int .i64 pos,.int .i32 (Utf8.decode s pos).1]) (.tup #[.bool true,.int .i64 pos,.int .i32 (Utf8.decode s pos).1] _ rfl (fun i v y hv hy=>?_)),t4⟩
    ·simp only [execOp,ho,ex,Instr.next,Sem.run_bind,run_getObj_iter b2,Result.andThen_ok,hp',if_true,run_setObj_iter _ b2,Sem.run_pure,goInt]
    ·match i with
     | 0=>simp at hv hy;subst hv;subst hy;exact .bool _
     | 1=>simp at hv hy;subst hv;subst hy;exact .int _ _
     | 2=>simp at hv hy;subst hv;subst hy;exact .int _ _
     | i+3=>simp at hy
   ·refine ⟨_,OpSem.val fun h ρ H' a w hs hops hr=>?_,k2 hp'⟩
    have hbb:H' b=some (.iter s pos):=by rw [hr b (by simp)];exact hb
    obtain ⟨g,S,b1,b2,b3⟩:=hs.blk b _ hbb
    have ex:a.eval x=.pointer (some ⟨g,0,none⟩):=by
     obtain ⟨g',S',e1,e2⟩:=(hx▸hops x mx).ptr_inv
     rw [b1] at e2;cases e2;exact e1
    refine ⟨.tuple #[.bool false],?_,.d _ (.tup [.bool false]) (.tup #[.bool false] _ rfl (fun i v y hv hy=>?_))⟩
    ·simp only [execOp,ho,ex,Instr.next,Sem.run_bind,run_getObj_iter b2,Result.andThen_ok,hp',if_false,Sem.run_pure]
    ·match i with
     | 0=>simp at hv hy;subst hv;subst hy;exact .bool _
     | i+1=>simp at hy
  ·exact hk.elim
 ·exact hk.elim
theorem clearK_ok {ts:Array TypeId} {x:Operand} {k:Eff→Prop} (ho:o.op=.call {callee:=.builtin .clear,args:=#[x],argTypes:=ts})
  (hk:clearK P H ts (ev x) k):∃ e,OpSem P G o ev (hp H) e∧k e:=by
 have mx:x∈o.op.operands.toList:=by simp [Op.operands,Call.operands,ho]
 unfold clearK at hk
 split at hk
 ·rename_i t hts
  have hts':ts=#[t]:=by rw [← Array.toArray_toList (xs:=ts),hts]
  subst hts'
  split at hk
  ·rename_i e te hse
   obtain ⟨hu,hte⟩:=sliceElem_spec hse
   obtain ⟨i,u,z,q1,q2,q3,q4,q5,q6,q7⟩:=tiOf_spec hte
   split at hk
   ·rename_i b sz off n hx
    obtain ⟨rfl,kz,k0,hk⟩:=hk
    split at hk
    ·rename_i cs hb
     obtain ⟨k1,hk⟩:=hk
     refine ⟨_,OpSem.gen fun h ρ H' a w hs hops hr=>?_,hk⟩
     have exec:∀ (w':World),(Builtin.clear_ #[t] o.type #[a.eval x]).run P w=.ok (.tuple #[]) w'→(execOp a.eval o).run P w=.ok (.value (.tuple #[])) w':=by
      intro w' hr
      simp only [execOp,ho,resolve,invoke,builtin,Sem.run_bind,Sem.run_pure,Result.andThen_ok,List.map_toArray,List.map_cons,List.map_nil,hr]
     have hbb:H' b=some (.row false cs):=by rw [hr b (by simp)];exact hb
     have hv:=hx▸hops x mx
     generalize he:a.eval x=v at hv exec
     have hz:z.cells.size=te.zero.length:=by have:=(valDs_ok (h:=h) q7).1;simpa using this
     cases hv with
     | lsl0 base b sz' off =>
      refine ⟨_,w,h,ρ,exec w ?_,?_,.d _ (.tup []) (.tup #[] _ rfl (fun i v x hv hx=>by simp at hv)),Step.refl h ρ w⟩
      ·cases base<;>simp [Builtin.clear_,run_underlying hu]
      ·have:cs.take off++zerosD te.zero (0*te.size)++cs.drop (off+0*te.size)=cs:=by simp [zerosD]
       rw [this]
       refine hs.reblk b ⟨_,hbb,by simp⟩ (.row false cs) (hs.blk b _ hbb)
     | lsl b sz' off n cap g S hρ hn hc =>
      obtain ⟨ho',hblk⟩:=hs.blk b (.row false cs) hbb
      rcases hblk with ⟨b1,_⟩ | ⟨g',S',c,E,fr,b1,b2,b3,b4,b5,b6,b7,b8⟩
      ·rw [hρ] at b1;cases b1
      rw [hρ] at b1;cases b1
      have hsz:(Builtin.zeroCells z.cells n).size=n*te.size:=by simp [Builtin.zeroCells];rw [hz,kz]
      have hone:∀ v,v∈(Builtin.zeroCells z.cells n).toList→v.oneCell'=true:=fun v hv=>by
       obtain ⟨j,hj,rfl⟩:=List.getElem_of_mem hv
       have hj':j<n*te.size:=by rw [← hsz];simpa using hj
       have hr:=RD_zeros (h:=h) q7 k0 j
       have h1:(zerosD te.zero (n*te.size))[j]? = some (te.zero.getD (j % te.zero.length) .nilp):=by simp [zerosD,List.getElem?_range hj']
       have h2:=zerosD_one' q7 (n*te.size) j _ h1
       have h3:(Builtin.zeroCells z.cells n).toList[j]=z.cells[j % z.cells.size]!:=by simp [Builtin.zeroCells]
       rw [h3]
       exact RD.one_ok hr h2
      obtain ⟨c',r1,r2,r3⟩:=run_storeCells' P g off (Builtin.zeroCells z.cells n).toList 0 c E fr w b2 (by rw [b3];exact b4) (by simp [hsz];omega) hone
      have hno:∀ j,h g j=none:=fun j=>b8 j (by simp)
      have hl3:off+(zerosD te.zero (n*te.size)).length≤cs.length:=by rw [zerosD_length];exact k1
      have hput:cs.take off++zerosD te.zero (n*te.size)++cs.drop (off+n*te.size)=putL cs off (zerosD te.zero (n*te.size)):=by
       apply List.ext_getElem?
       intro j
       rw [putL_get hl3,zerosD_length,List.getElem?_append,List.getElem?_append]
       simp only [List.length_append,List.length_take,zerosD_length,List.getElem?_take,List.getElem?_drop]
       have e1:min off cs.length=off:=by omega
       rw [e1]
       by_cases q1:j<off+n*te.size
       ·rw [if_pos q1]
        by_cases q2:j<off
        ·rw [if_pos q2,if_pos q2,if_neg (by omega)]
        ·rw [if_neg q2,if_pos (by omega)]
       ·rw [if_neg q1,if_neg (by omega)]
        congr 1;omega
      obtain ⟨t3,t4⟩:=hs.change b ⟨_,hbb,by simp⟩ g S hρ (.row false (putL cs off (zerosD te.zero (n*te.size)))) h (w.setRow g c') (Held.le_refl _) (fun k hk=>⟨fun _=>rfl,setRow_other w g k c' hk⟩) (by simp) rfl rfl rfl
       (fun o v e=>by rw [hno o] at e;cases e)
       ⟨fun j x' hx=>by
        rw [putL_get hl3] at hx
        split at hx
        ·exact zerosD_one' q7 _ _ x' hx
        ·exact ho' j x' hx,.inr ⟨g,S,c',E,fr,hρ,setRow_heap w g c c' E fr b2,by omega,b4,by rw [putL_length hl3];exact b5,fun j x' v hx hv=>by
        rw [putL_get hl3,zerosD_length] at hx
        rw [r3 j] at hv
        by_cases hin:off≤j∧j<off+n*te.size
        ·rw [if_pos hin] at hx
         rw [if_pos (by simp [hsz];omega)] at hv
         have hj':j - off<n*te.size:=by omega
         have e2:x'=te.zero.getD ((j - off) % te.zero.length) .nilp:=by simpa [zerosD,List.getElem?_range hj'] using hx.symm
         have e3:v=z.cells[(j - off) % z.cells.size]!:=by
          have hj2:j - off<n*z.cells.size:=by rw [hz,kz];exact hj'
          simpa [Builtin.zeroCells,Array.getElem?_range,hj2] using hv.symm
         rw [e2,e3]
         exact RD_zeros q7 k0 _
        ·rw [if_neg hin] at hx
         rw [if_neg (by simp [hsz];omega)] at hv
         exact b6 j x' v hx hv,(fun e=>by cases e),fun j _=>hno j⟩⟩
      refine ⟨_,_,_,_,exec _ ?_,by rw [hput];exact t3,.d _ (.tup []) (.tup #[] _ rfl (fun i v x hv hx=>by simp at hv)),t4⟩
      have r1':(storeCells ⟨g,off,none⟩ (Builtin.zeroCells z.cells n).toList).run P w=.ok () (w.setRow g c'):=r1
      have hzv:(zeroValue e).run P w=.ok z w:=by simp [zeroValue,typeInfo,q1,q3]
      rcases Nat.eq_zero_or_pos n with h0 | h0
      ·subst h0
       have e0:w.setRow g c'=w:=by
        have:(Builtin.zeroCells z.cells 0).toList=[]:=by simp [Builtin.zeroCells]
        rw [this] at r1
        simp only [storeCells,Sem.run_pure,Result.ok.injEq,true_and] at r1
        exact r1.symm
       rw [e0]
       simp [Builtin.clear_,run_underlying hu]
      ·obtain ⟨m,rfl⟩:∃ m,n=m+1:=⟨n - 1,by omega⟩
       simp [Builtin.clear_,run_underlying hu,hzv,r1']
    ·exact hk.elim
   ·exact hk.elim
  ·exact hk.elim
 ·exact hk.elim
theorem Born.push {es:Array MapEntry} {clock:Nat} (b:Born es clock) (k v:Value):Born (es.push {key:=k,val:=v,born:=clock}) (clock+1):=by
 refine ⟨fun e he=>?_,?_⟩
 ·simp only [Array.toList_push,List.mem_append,List.mem_singleton] at he
  rcases he with he | rfl
  ·have:=b.1 e he;omega
  ·exact Nat.lt_succ_self _
 ·rw [Array.toList_push,List.map_append,List.map_cons,List.map_nil]
  refine List.nodup_append.2 ⟨b.2,by simp,fun a ha c hc=>?_⟩
  obtain ⟨e,he,rfl⟩:=List.mem_map.1 ha
  obtain rfl:=List.mem_singleton.1 hc
  have:=b.1 e he
  omega
theorem Born.modify {es:Array MapEntry} {clock:Nat} (b:Born es clock) (k v:Value) (j:Nat):Born (es.modify j fun e=>{e with key:=k,val:=v}) clock:=by
 have e1:(es.modify j fun e=>{e with key:=k,val:=v}).toList.map (·.born)=es.toList.map (·.born):=by
  refine List.ext_getElem (by simp) fun i h1 h2=>?_
  simp only [List.getElem_map,Array.getElem_toList,Array.getElem_modify]
  split<;>rfl
 refine ⟨fun e he=>?_,by rw [e1];exact b.2⟩
 have:e.born∈es.toList.map (·.born):=by rw [← e1];exact List.mem_map_of_mem he
 obtain ⟨x,hx,q⟩:=List.mem_map.1 this
 rw [← q]
 exact b.1 x hx
theorem MapR.push {h:Held} {es:Array MapEntry} {l:List (D × D)} (m:MapR h es l) {kv v:Value} {kd d:D} (rk:RD h kv kd) (rv:RD h v d) (c:Nat):MapR h (es.push {key:=kv,val:=v,born:=c}) (l++[(kd,d)]):=by
 refine ⟨by simp [m.1],fun i e p he hp=>?_⟩
 by_cases hi:i<l.length
 ·rw [List.getElem?_append_left hi] at hp
  rw [Array.getElem?_push_lt (by have:=m.1;omega)] at he
  exact m.2 i e p (by rw [Array.getElem?_eq_getElem (by have:=m.1;omega)];exact he) hp
 ·have hi2:i=l.length:=by
   have:=(List.getElem?_eq_some_iff.1 hp).1
   simp at this;omega
  subst hi2
  simp at hp
  rw [← m.1] at he
  simp at he
  subst he;subst hp
  exact ⟨rk,rv⟩
theorem MapR.modify {h:Held} {es:Array MapEntry} {l:List (D × D)} (m:MapR h es l) {kv v:Value} {kd d:D} (rk:RD h kv kd) (rv:RD h v d) (j:Nat):MapR h (es.modify j fun e=>{e with key:=kv,val:=v}) (l.set j (kd,d)):=by
 refine ⟨by simp [m.1],fun i e p he hp=>?_⟩
 rw [Array.getElem?_modify] at he
 rw [List.getElem?_set] at hp
 by_cases hij:j=i
 ·subst hij
  simp only [if_true] at he hp
  split at hp
  ·cases hp
   cases hes:es[j]? with
   | none=>simp [hes] at he
   | some e0=>simp [hes] at he;subst he;exact ⟨rk,rv⟩
  ·cases hp
 ·simp only [hij,if_false] at he hp
  exact m.2 i e p he hp
theorem updateK_ok {t:Nat} {x ix v:Operand} {k:Eff→Prop} (ho:o.op=.mapUpdate t x ix v∨o.op=.insert t x ix v) (hk:updateK P H t (ev x) (ev ix) (ev v) k):∃ e,OpSem P G o ev (hp H) e∧k e:=by
 have mx:x∈o.op.operands.toList:=by rcases ho with ho | ho<;>simp [Op.operands,ho]
 have mi:ix∈o.op.operands.toList:=by rcases ho with ho | ho<;>simp [Op.operands,ho]
 have mv:v∈o.op.operands.toList:=by rcases ho with ho | ho<;>simp [Op.operands,ho]
 unfold updateK at hk
 split at hk
 ·rename_i ti ht
  split at hk
  ·rename_i kt et hkk
   have hu:=mapT_spec ht hkk
   split at hk
   ·rename_i kd d hs hsv
    obtain ⟨k1,k2,hk⟩:=hk
    split at hk
    ·rename_i b hx
     split at hk
     ·rename_i l hb
      obtain ⟨k3,hk⟩:=hk
      refine ⟨_,OpSem.genU fun h ρ H' a w hs0 hops hr=>?_,hk⟩
      obtain ⟨h1,s1,t1,f1⟩:=freeze_ok H (idsA (ev v)) h H' hs0 (fun y hy=>.inl (hr y (by simp [hy])))
      have rk:=(seal_ok (hops ix mi) hs (fun b hb=>by rw [k1] at hb;cases hb)).mono t1.mono
      have rv:=seal_ok ((hops v mv).mono t1.mono (Place.le_refl _)) hsv f1
      have hbb:updH H' (frz H (idsA (ev v))) b=some (.map l):=by
       have:∀ q∈frz H (idsA (ev v)),q.1≠b:=by
        have gen:∀ ids,∀ q∈frz H ids,q.1≠b:=by
         intro ids
         induction ids with
         | nil=>intro q hq;simp [frz] at hq
         | cons i r ih =>
          intro q hq
          simp only [frz] at hq
          split at hq
          ·rename_i cs hcs
           rcases List.mem_cons.1 hq with rfl | hq
           ·intro e;simp only at e;subst e;rw [hcs] at hb;cases hb
           ·exact ih q hq
          ·exact ih q hq
        exact gen _
       rw [updH_other _ _ b this,hr b (by simp)]
       exact hb
      obtain ⟨g,S,es,clock,b1,b2,b3,b4,b5⟩:=s1.blk b (.map l) hbb
      have ex:a.eval x=.map (some g):=by
       have:=hx▸hops x mx
       generalize a.eval x=v at this
       cases this with | mp _ g' S' hρ=>rw [b1] at hρ;cases hρ;rfl
      have hf:=run_find (w:=w) k2 rk b3 k3
      have hc:=run_checkKeyD (w:=w) k2 rk false
      have hlive:live (updH H' (frz H (idsA (ev v)))) b:=⟨_,hbb,by simp⟩
      have hst:=run_stays (w:=w) k2 rk
      have fin:∀ (es':Array MapEntry) (clock':Nat),MapR h1 es' (updE l kd d)→Born es' clock' →
        (Instr.mapUpdate t (.map (some g)) (a.eval ix) (a.eval v)).run P w=.ok () {w with heap:=w.heap.setIfInBounds g (.map es' clock')} →
        ∃ w' h' ρ',(execOp a.eval o).run P w=.ok .skip w'∧Sim G h' ρ' (updH H' (frz H (idsA (ev v))++[(b,.map (updE l kd d))])) w'∧Step h ρ w h' ρ' w':=by
       intro es' clock' hm' hb' hrun
       have hh:=MapKept.heap_set (o':=.map es' clock') b2
       obtain ⟨t3,t4⟩:=s1.change b hlive g S b1 (.map (updE l kd d)) h1 {w with heap:=w.heap.setIfInBounds g (.map es' clock')} (Held.le_refl _) (fun k hk=>⟨fun _=>rfl,hh.2 k hk⟩) (by simp) rfl rfl rfl
        (fun o v e=>by rw [b4 o] at e;cases e) ⟨g,S,es',clock',b1,hh.1,hm',b4,hb'⟩
       refine ⟨_,_,_,?_,by rw [updH_append];exact t3,t1.trans t4⟩
       rcases ho with ho | ho<;>simp only [execOp,ho,ex,Sem.run_bind,hrun,Result.andThen_ok,Sem.run_pure]
      cases hfe:findE kd l with
      | none =>
       simp only [hfe] at hf
       refine fin (es.push {key:=a.eval ix,val:=a.eval v,born:=clock}) (clock+1) ?_ ?_ ?_
       ·simp only [updE,hfe];exact b3.push rk rv clock
       ·exact b5.push _ _
       ·simp only [Instr.mapUpdate,Sem.run_bind,run_underlying hu,Result.andThen_ok,MapKept.run_getObj_map b2,hc,hf,MapKept.run_setObj_map _ b2]
      | some y =>
       obtain ⟨j,d0⟩:=y
       simp only [hfe] at hf
       obtain ⟨e0,q1,q2,q3,q4⟩:=hf
       refine fin (es.modify j fun e=>{e with key:=a.eval ix,val:=a.eval v}) clock ?_ ?_ ?_
       ·simp only [updE,hfe];exact b3.modify rk rv j
       ·exact b5.modify _ _ j
       ·have e4:((es[j]?).map (·.key)).getD (a.eval ix)=a.eval ix:=by rw [q1];simpa using q4
        simp only [Instr.mapUpdate,Sem.run_bind,run_underlying hu,Result.andThen_ok,MapKept.run_getObj_map b2,hc,q3,e4,hst,MapKept.run_setObj_map _ b2]
     ·exact hk.elim
    ·exact hk.elim
   ·exact hk.elim
  ·exact hk.elim
 ·exact hk.elim
end
end Go.Abs
namespace Go.Abs
open Go
def goFn (P:Program) (f:FuncId):Bool :=
 match P.funcs[f]? with
 | some fn=>fn.name != "runtime.NumGoroutine" && fn.body.isSome
 | none=>false
def Ctr (P:Program) (G:Globals) (f:FuncId) (args:List AV) (H:List ABlk) (res:AV) (H':List ABlk):Prop :=
 goFn P f=true∧∀ (h:Held) (ρ:Place) (w:World) (vs:Array Value),Sim G h ρ (hp H) w→RL h ρ vs args →
  Calls P f vs w (fun e w'=>∃ v h' ρ',e=.returned v∧Sim G h' ρ' (hp H') w'∧R h' ρ' v res∧Step h ρ w h' ρ' w')
mutual
def renA (f:Nat→Nat):AV→AV
 | .lsl b sz off n=>.lsl (f b) sz off n
 | .ptr b off=>.ptr (f b) off
 | .mp b=>.mp (f b)
 | .agg cs=>.agg (renL f cs)
 | .tup cs=>.tup (renL f cs)
 | .fn g a b=>.fn g (renL f a) (renL f b)
 | .d x=>.d x
 | .rptr off cs=>.rptr off cs
 | .undef=>.undef
def renL (f:Nat→Nat):List AV→List AV
 | []=>[]
 | x::r=>renA f x::renL f r
end
theorem renL_eq (f:Nat→Nat):∀ l:List AV,renL f l=l.map (renA f)
 | []=>rfl
 | x::r=>by simp [renL,renL_eq f r]
def renB (f:Nat→Nat):ABlk→ABlk
 | .dead=>.dead
 | .row fz cs=>.row fz cs
 | .box cs=>.box (renL f cs)
 | .map l=>.map l
 | .iter s pos=>.iter s pos
 | .bld T used n k=>.bld T used n (k.map f)
 | .buf e l=>.buf e l
 | .ext _ _=>.dead
theorem R.ren {h:Held} {ρ ρ':Place} {f:Nat→Nat} (hf:∀ b x,ρ b=some x→ρ' (f b)=some x) {v:Value} {x:AV} (r:R h ρ v x):R h ρ' v (renA f x):=by
 induction r with
 | d v x hx=>exact .d v x hx
 | lsl0 base b sz off=>exact .lsl0 base (f b) sz off
 | lsl b sz off n cap g S hρ hn hc=>exact .lsl (f b) sz off n cap g S (hf _ _ hρ) hn hc
 | ptr b off g S hρ=>exact .ptr (f b) off g S (hf _ _ hρ)
 | rptr g base off cells vs h1 h2=>exact .rptr g base off cells vs h1 h2
 | mp b g S hρ=>exact .mp (f b) g S (hf _ _ hρ)
 | agg vs cells hl _ ih =>
  rw [renA,renL_eq]
  refine .agg vs _ (by simpa using hl) (fun i v x hv hx=>?_)
  simp only [List.getElem?_map] at hx
  cases hc:cells[i]? with
  | none=>simp [hc] at hx
  | some y=>simp [hc] at hx;subst hx;exact ih i v y hv hc
 | tup vs cells hl _ ih =>
  rw [renA,renL_eq]
  refine .tup vs _ (by simpa using hl) (fun i v x hv hx=>?_)
  simp only [List.getElem?_map] at hx
  cases hc:cells[i]? with
  | none=>simp [hc] at hx
  | some y=>simp [hc] at hx;subst hx;exact ih i v y hv hc
 | fn g vs us a b hl hl' _ _ ih ih' =>
  rw [renA,renL_eq,renL_eq]
  refine .fn g vs us _ _ (by simpa using hl) (by simpa using hl') (fun i v x hv hx=>?_) (fun i v x hv hx=>?_)
  ·simp only [List.getElem?_map] at hx
   cases hc:a[i]? with
   | none=>simp [hc] at hx
   | some y=>simp [hc] at hx;subst hx;exact ih i v y hv hc
  ·simp only [List.getElem?_map] at hx
   cases hc:b[i]? with
   | none=>simp [hc] at hx
   | some y=>simp [hc] at hx;subst hx;exact ih' i v y hv hc
 | undef v=>exact .undef v
theorem BlkR.ren {h:Held} {ρ ρ':Place} {w:World} {f:Nat→Nat} {i:Nat} (hf:∀ b x,ρ b=some x→ρ' (f b)=some x) (hn:ρ i=none→ρ' (f i)=none) {b:ABlk} (r:BlkR h ρ w i b) :
  BlkR h ρ' w (f i) (renB f b):=by
 cases b with
 | dead=>trivial
 | row fz cells =>
  obtain ⟨h0,r⟩:=r
  refine ⟨h0,?_⟩
  rcases r with ⟨h1,h2⟩ | ⟨g,S,c,E,fr,h1,h2⟩
  ·exact .inl ⟨hn h1,h2⟩
  ·exact .inr ⟨g,S,c,E,fr,hf _ _ h1,h2⟩
 | box cells =>
  obtain ⟨g,S,c,E,fr,h1,h2,h3,h4,h5,h6,h7⟩:=r
  refine ⟨g,S,c,E,fr,hf _ _ h1,h2,h3,h4,by simp [renL_eq];exact h5,fun j x v hx hv=>?_,h7⟩
  rw [renL_eq,List.getElem?_map] at hx
  cases hc:cells[j]? with
  | none=>simp [hc] at hx
  | some y=>simp [hc] at hx;subst hx;exact (h6 j y v hc hv).ren hf
 | map l =>
  obtain ⟨g,S,es,clock,h1,h2⟩:=r
  exact ⟨g,S,es,clock,hf _ _ h1,h2⟩
 | iter s pos =>
  obtain ⟨g,S,h1,h2⟩:=r
  exact ⟨g,S,hf _ _ h1,h2⟩
 | bld T used n k =>
  obtain ⟨g,S,v,h1,h2,h3,h4⟩:=r
  exact ⟨g,S,v,hf _ _ h1,h2,h3.ren fun b x _ e=>hf b x e,h4⟩
 | buf e l =>
  rcases r with ⟨h1,h2⟩ | ⟨g,S,c,h1,h2⟩
  ·exact .inl ⟨hn h1,h2⟩
  ·exact .inr ⟨g,S,c,hf _ _ h1,h2⟩
 | ext J t=>trivial
def idx (L:List Nat) (b:Nat):Option Nat:=L.findIdx? (· == b)
theorem idx_spec {L:List Nat} {b k:Nat} (h:idx L b=some k):L[k]? = some b:=by
 unfold idx at h
 have:=List.findIdx?_eq_some_iff_getElem.1 h
 obtain ⟨hk,h1,_⟩:=this
 rw [List.getElem?_eq_getElem hk]
 simpa using h1
mutual
def passA (H:List ABlk) (L:List Nat):AV→Option AV
 | .d x=>some (.d x)
 | .rptr off cs=>some (.rptr off cs)
 | .ptr b off=>match idx L b with | some k=>some (.ptr k off) | none=>none
 | .mp b=>match idx L b with | some k=>some (.mp k) | none=>none
 | .lsl b sz off n=>match idx L b with
   | some k=>some (.lsl k sz off n)
   | none=>match sealA H (.lsl b sz off n) with | some d=>some (.d d) | none=>none
 | .agg cs=>match sealA H (.agg cs) with
   | some d=>some (.d d)
   | none=>match passL H L cs with | some l=>some (.agg l) | none=>none
 | .tup cs=>match sealA H (.tup cs) with
   | some d=>some (.d d)
   | none=>match passL H L cs with | some l=>some (.tup l) | none=>none
 | .fn g a b=>match sealA H (.fn g a b) with
   | some d=>some (.d d)
   | none=>match passL H L a,passL H L b with | some l,some m=>some (.fn g l m) | _,_=>none
 | .undef=>some .undef
def passL (H:List ABlk) (L:List Nat):List AV→Option (List AV)
 | []=>some []
 | x::r=>match passA H L x,passL H L r with | some y,some l=>some (y::l) | _,_=>none
end
mutual
def sidsA (H:List ABlk) (L:List Nat):AV→List Nat
 | .lsl b _ _ _=>match idx L b with | some _=>[] | none=>[b]
 | .agg cs=>match sealA H (.agg cs) with | some _=>idsL cs | none=>sidsL H L cs
 | .tup cs=>match sealA H (.tup cs) with | some _=>idsL cs | none=>sidsL H L cs
 | .fn g a b=>match sealA H (.fn g a b) with | some _=>idsL a++idsL b | none=>sidsL H L a++sidsL H L b
 | .d _=>[]
 | .rptr _ _=>[]
 | .ptr _ _=>[]
 | .mp _=>[]
 | .undef=>[]
def sidsL (H:List ABlk) (L:List Nat):List AV→List Nat
 | []=>[]
 | x::r=>sidsA H L x++sidsL H L r
end
theorem passL_get {H:List ABlk} {L:List Nat}:∀ {cs l:List AV},passL H L cs=some l→cs.length=l.length∧∀ (i:Nat) x y,cs[i]? = some x→l[i]? = some y→passA H L x=some y
 | [],l,e=>by simp [passL] at e;subst e;simp
 | x::r,l,e=>by
   simp only [passL] at e
   split at e
   ·rename_i y m hy hm
    cases e
    have ih:=passL_get hm
    refine ⟨by simp [ih.1],fun i u d hu hd=>?_⟩
    cases i with
    | zero=>simp at hu hd;subst hu;subst hd;exact hy
    | succ i=>simp at hu hd;exact ih.2 i u d hu hd
   ·cases e
theorem sidsL_mem {H:List ABlk} {L:List Nat} {b:Nat}:∀ {cs:List AV} {i:Nat} {x:AV},cs[i]? = some x→b∈sidsA H L x→b∈sidsL H L cs
 | [],_,_,e,_=>by simp at e
 | y::r,0,x,e,h=>by simp at e;subst e;simp [sidsL,h]
 | y::r,i+1,x,e,h=>by simp at e;simp [sidsL,sidsL_mem e h]
theorem pass_ok {h:Held} {ρ:Place} {H:List ABlk} {L:List Nat} {ρc:Place} (hc:∀ (k b:Nat),L[k]? = some b→ρc k=ρ b) {v:Value} {x:AV} (r:R h ρ v x) :
  ∀ {y:AV},passA H L x=some y→(∀ b,b∈sidsA H L x→Fixed h ρ H b)→R h ρc v y:=by
 induction r with
 | d v x hx=>intro y e _;simp [passA] at e;subst e;exact .d v x hx
 | rptr g base off cells vs h1 h2=>intro y e _;simp [passA] at e;subst e;exact .rptr g base off cells vs h1 h2
 | undef v=>intro y e _;simp [passA] at e;subst e;exact .undef v
 | ptr b off g S hρ =>
  intro y e _
  simp only [passA] at e
  split at e
  ·rename_i k hk;cases e;exact .ptr k off g S (by rw [hc k b (idx_spec hk)];exact hρ)
  ·cases e
 | mp b g S hρ =>
  intro y e _
  simp only [passA] at e
  split at e
  ·rename_i k hk;cases e;exact .mp k g S (by rw [hc k b (idx_spec hk)];exact hρ)
  ·cases e
 | lsl0 base b sz off =>
  intro y e hf
  simp only [passA] at e
  split at e
  ·cases e;exact .lsl0 base _ sz off
  ·rename_i hn
   split at e
   ·rename_i d hd
    cases e
    exact .d _ _ (seal_ok (R.lsl0 (h:=h) (ρ:=ρ) base b sz off) hd (fun c hcm=>hf c (by simp [idsA] at hcm;simp [sidsA,hn,hcm])))
   ·cases e
 | lsl b sz off n cap g S hρ hn' hcap =>
  intro y e hf
  simp only [passA] at e
  split at e
  ·rename_i k hk;cases e;exact .lsl k sz off n cap g S (by rw [hc k b (idx_spec hk)];exact hρ) hn' hcap
  ·rename_i hn
   split at e
   ·rename_i d hd
    cases e
    exact .d _ _ (seal_ok (R.lsl b sz off n cap g S hρ hn' hcap) hd (fun c hcm=>hf c (by simp [idsA] at hcm;simp [sidsA,hn,hcm])))
   ·cases e
 | agg vs cells hl hrr ih =>
  intro y e hf
  simp only [passA] at e
  split at e
  ·rename_i d hd
   cases e
   exact .d _ _ (seal_ok (R.agg vs cells hl hrr) hd (fun c hcm=>hf c (by simp [idsA] at hcm;simp [sidsA,hd,hcm])))
  ·rename_i hd
   split at e
   ·rename_i l hpl
    cases e
    have hg:=passL_get hpl
    refine .agg vs l (by omega) (fun i v y hv hy=>?_)
    have hi:i<cells.length:=by have:=(List.getElem?_eq_some_iff.1 hy).1;omega
    have hx:=List.getElem?_eq_getElem hi
    exact ih i v _ hv hx (hg.2 i _ y hx hy) (fun b hb=>hf b (by simp [sidsA,hd];exact sidsL_mem hx hb))
   ·cases e
 | tup vs cells hl hrr ih =>
  intro y e hf
  simp only [passA] at e
  split at e
  ·rename_i d hd
   cases e
   exact .d _ _ (seal_ok (R.tup vs cells hl hrr) hd (fun c hcm=>hf c (by simp [idsA] at hcm;simp [sidsA,hd,hcm])))
  ·rename_i hd
   split at e
   ·rename_i l hpl
    cases e
    have hg:=passL_get hpl
    refine .tup vs l (by omega) (fun i v y hv hy=>?_)
    have hi:i<cells.length:=by have:=(List.getElem?_eq_some_iff.1 hy).1;omega
    have hx:=List.getElem?_eq_getElem hi
    exact ih i v _ hv hx (hg.2 i _ y hx hy) (fun b hb=>hf b (by simp [sidsA,hd];exact sidsL_mem hx hb))
   ·cases e
 | fn g vs us a b hl hl' hra hrb ih ih' =>
  intro y e hf
  simp only [passA] at e
  split at e
  ·rename_i d hd
   cases e
   exact .d _ _ (seal_ok (R.fn g vs us a b hl hl' hra hrb) hd (fun c hcm=>hf c (by simp [idsA] at hcm;simp [sidsA,hd,hcm])))
  ·rename_i hd
   split at e
   ·rename_i l m hpl hpm
    cases e
    have hg:=passL_get hpl
    have hg':=passL_get hpm
    refine .fn g vs us l m (by omega) (by omega) (fun i v y hv hy=>?_) (fun i v y hv hy=>?_)
    ·have hi:i<a.length:=by have:=(List.getElem?_eq_some_iff.1 hy).1;omega
     have hx:=List.getElem?_eq_getElem hi
     exact ih i v _ hv hx (hg.2 i _ y hx hy) (fun b hb=>hf b (by simp [sidsA,hd];exact .inl (sidsL_mem hx hb)))
    ·have hi:i<b.length:=by have:=(List.getElem?_eq_some_iff.1 hy).1;omega
     have hx:=List.getElem?_eq_getElem hi
     exact ih' i v _ hv hx (hg'.2 i _ y hx hy) (fun b hb=>hf b (by simp [sidsA,hd];exact .inr (sidsL_mem hx hb)))
   ·cases e
def passB (H:List ABlk) (L:List Nat):ABlk→Option ABlk
 | .dead=>none
 | .row fz cs=>some (.row fz cs)
 | .box cs=>match passL H L cs with | some l=>some (.box l) | none=>none
 | .map l=>some (.map l)
 | .iter s pos=>some (.iter s pos)
 | .bld T used n k=>match k with
   | none=>some (.bld T used n none)
   | some b=>match idx L b with | some j=>some (.bld T used n (some j)) | none=>none
 | .buf e l=>some (.buf e l)
 | .ext _ _=>none
def sidsB (H:List ABlk) (L:List Nat):ABlk→List Nat
 | .box cs=>sidsL H L cs
 | _=>[]
def passBs (H:List ABlk) (L:List Nat):List Nat→Option (List ABlk)
 | []=>some []
 | b::r=>match H[b]? with
   | some blk=>match passB H L blk,passBs H L r with | some y,some l=>some (y::l) | _,_=>none
   | none=>none
def sidsBs (H:List ABlk) (L:List Nat):List Nat→List Nat
 | []=>[]
 | b::r=>(match H[b]? with | some blk=>sidsB H L blk | none=>[])++sidsBs H L r
theorem passBs_get {H:List ABlk} {L:List Nat}:∀ {bs:List Nat} {l:List ABlk},passBs H L bs=some l→bs.length=l.length ∧
  ∀ (k b:Nat),bs[k]? = some b→∃ blk y,H[b]? = some blk∧l[k]? = some y∧passB H L blk=some y∧∀ c,c∈sidsB H L blk→c∈sidsBs H L bs
 | [],l,e=>by simp [passBs] at e;subst e;simp
 | b::r,l,e=>by
   simp only [passBs] at e
   split at e
   ·rename_i blk hb
    split at e
    ·rename_i y m hy hm
     cases e
     have ih:=passBs_get hm
     refine ⟨by simp [ih.1],fun k c hk=>?_⟩
     cases k with
     | zero =>
      simp at hk;subst hk
      exact ⟨blk,y,hb,rfl,hy,fun c hc=>by simp [sidsBs,hb,hc]⟩
     | succ k =>
      simp at hk
      obtain ⟨blk',y',q1,q2,q3,q4⟩:=ih.2 k c hk
      exact ⟨blk',y',q1,by simpa using q2,q3,fun d hd=>by simp [sidsBs,q4 d hd]⟩
    ·cases e
   ·cases e
end Go.Abs
namespace Go.Abs
open Go
def dedup:List Nat→List Nat
 | []=>[]
 | x::r=>if (dedup r).contains x then dedup r else x::dedup r
theorem dedup_nodup:∀ l:List Nat,(dedup l).Nodup
 | []=>List.nodup_nil
 | x::r=>by
   simp only [dedup]
   split
   ·exact dedup_nodup r
   ·rename_i h
    simp at h
    exact List.nodup_cons.2 ⟨h,dedup_nodup r⟩
mutual
def refsA:AV→List Nat
 | .ptr b _=>[b]
 | .mp b=>[b]
 | .agg cs=>refsL cs
 | .tup cs=>refsL cs
 | .fn _ a b=>refsL a++refsL b
 | _=>[]
def refsL:List AV→List Nat
 | []=>[]
 | x::r=>refsA x++refsL r
end
def refsIn (H:List ABlk):List Nat→List Nat
 | []=>[]
 | b::r=>(match H[b]? with | some (.box cs)=>refsL cs | some (.bld _ _ _ k)=>k.toList | _=>[])++refsIn H r
def passIds (m:Bool) (H:List ABlk) (avs:List AV):List Nat :=
 let l:=refsL avs++(if m then idsL avs else [])
 dedup (l++refsIn H l)
def scalar0:D→Bool
 | .int _ _ | .bool _ | .str _=>true
 | _=>false
def scalarD:D→Bool
 | .tup vs=>vs.all scalar0
 | .agg vs=>vs.all scalar0
 | x=>scalar0 x
theorem scalar0_ok {h h':Held} {v:Value} {x:D} (r:RD h v x) (e:scalar0 x=true):RD h' v x:=by
 cases r<;>first | (simp [scalar0] at e;done) | constructor
theorem scalarD_ok {h h':Held} {v:Value} {x:D} (r:RD h v x) (e:scalarD x=true):RD h' v x:=by
 cases r with
 | agg vs cells hl hr=>exact .agg vs cells hl (fun i v x a b=>scalar0_ok (hr i v x a b) (List.all_eq_true.1 e x (List.mem_of_getElem? b)))
 | tup vs cells hl hr=>exact .tup vs cells hl (fun i v x a b=>scalar0_ok (hr i v x a b) (List.all_eq_true.1 e x (List.mem_of_getElem? b)))
 | int=>exact .int _ _
 | bool=>exact .bool _
 | str=>exact .str _
 | _=>simp [scalarD,scalar0] at e
def outN (L:List Nat) (base k:Nat):Nat:=match L[k]? with | some b=>b | none=>base+(k - L.length)
def outW (L:List Nat) (base:Nat):Nat→List ABlk→List (Nat × ABlk)
 | _,[]=>[]
 | k,b::r=>(outN L base k,renB (outN L base) b)::outW L base (k+1) r
def isScalar:AV→Bool
 | .d x=>scalarD x
 | _=>false
def callEff (H:List ABlk) (L ids:List Nat) (res:AV) (Hn:List ABlk):Eff :=
 if L.isEmpty && Hn.isEmpty && isScalar res then ⟨res,[],ids⟩
 else ⟨renA (outN L H.length) res,frz H ids++outW L H.length 0 Hn,L++ids++(outW L H.length 0 Hn).map (·.1)⟩
def dropW (ks:List Nat):List (Nat × ABlk)→List (Nat × ABlk)
 | []=>[]
 | p::r=>if ks.contains p.1 then dropW ks r else p::dropW ks r
def dropE (ks:List Nat) (e:Eff):Eff:=⟨e.res,dropW ks e.w,e.r⟩
def keepOK (H:List ABlk) (ks:List Nat) (e:Eff):Prop:=ks=[]∨((e.w.map (·.1)).Nodup∧∀ p,p∈e.w→ks.contains p.1=true→H[p.1]? = some p.2)
theorem dropW_nil:∀ w:List (Nat × ABlk),dropW [] w=w
 | []=>rfl
 | p::r=>by simp [dropW,dropW_nil r]
theorem dropE_nil (e:Eff):dropE [] e=e:=by simp [dropE,dropW_nil]
theorem updH_dropW (ks:List Nat):∀ (w:List (Nat × ABlk)) (H:Heap),(w.map (·.1)).Nodup→(∀ p,p∈w→ks.contains p.1=true→H p.1=some p.2)→updH H (dropW ks w)=updH H w
 | [],_,_,_=>rfl
 | (i,b)::r,H,hn,hs=>by
   simp only [List.map_cons,List.nodup_cons] at hn
   have h2:∀ p,p∈r→ks.contains p.1=true→(fun j=>if j=i then some b else H j) p.1=some p.2:=fun p hp hc=>by
    have hne:p.1≠i:=fun e=>hn.1 (e▸List.mem_map_of_mem hp)
    simp only [if_neg hne]
    exact hs p (List.mem_cons_of_mem _ hp) hc
   simp only [dropW]
   split
   ·rename_i hc
    have e:(fun j=>if j=i then some b else H j)=H:=by
     funext j
     by_cases hj:j=i
     ·subst hj;simp only [if_true];exact (hs (j,b) (by simp) hc).symm
     ·simp only [if_neg hj]
    rw [updH,e]
    exact updH_dropW ks r H hn.2 (fun p hp hc=>hs p (List.mem_cons_of_mem _ hp) hc)
   ·rw [updH,updH]
    exact updH_dropW ks r _ hn.2 h2
theorem OpSem.drop {P:Program} {G:Globals} {o:Oper} {ev:Operand→AV} {H:List ABlk} {e:Eff} {ks:List Nat} (h:OpSem P G o ev (hp H) e) (hr:∀ p,p∈e.w→p.1∈e.r) (hk:keepOK H ks e):OpSem P G o ev (hp H) (dropE ks e):=by
 rcases hk with rfl | ⟨hn,hs⟩
 ·rw [dropE_nil];exact h
 ·intro hh ρ H' a w s ops hag
  have:=h hh ρ H' a w s ops hag
  have e1:updH H' (dropE ks e).w=updH H' e.w:=updH_dropW ks e.w H' hn (fun p hp hc=>(hag p.1 (hr p hp)).trans (hs p hp hc))
  rw [e1]
  exact this
def unfA:AV→AV
 | .d x=>.d (unf x)
 | x=>x
theorem RL.unfA {h:Held} {ρ:Place} {vs:Array Value} {xs:List AV} (m:Bool) (r:RL h ρ vs xs):RL h ρ vs (if m then xs else xs.map unfA):=by
 cases m with
 | true=>exact r
 | false =>
  refine ⟨by simpa using r.1,fun i v x hv hx=>?_⟩
  simp only [Bool.false_eq_true,if_false,List.getElem?_map] at hx
  cases hc:xs[i]? with
  | none=>simp [hc] at hx
  | some y =>
   simp [hc] at hx;subst hx
   have:=r.2 i v y hv hc
   cases this with
   | d _ _ hd=>exact .d _ _ hd.unf
   | lsl0=>exact .lsl0 _ _ _ _
   | lsl b sz off n cap g S a b c=>exact .lsl _ _ _ _ cap g S a b c
   | ptr b off g S a=>exact .ptr _ _ g S a
   | rptr g base off cells vs a b=>exact .rptr g base off cells vs a b
   | mp b g S a=>exact .mp _ g S a
   | agg vs cells a b=>exact .agg vs cells a b
   | tup vs cells a b=>exact .tup vs cells a b
   | fn f vs us a b c d e g=>exact .fn f vs us a b c d e g
   | undef=>exact .undef _
def callK (P:Program) (G:Globals) (M:FuncId→Bool) (H:List ABlk) (f:FuncId) (avs:List AV) (k:Eff→Prop):Prop :=
 let L:=passIds (M f) H avs
 let ids:=sidsL H L avs++sidsBs H L L
 match passL H L avs,passBs H L L with
 | some ars,some HC=>(ids.all fun b=>!L.contains b)=true∧∃ res Hn ks,Ctr P G f (if M f then ars else ars.map unfA) HC res Hn∧L.length≤Hn.length∧keepOK H ks (callEff H L ids res Hn)∧k (dropE ks (callEff H L ids res Hn))
 | _,_=>False
theorem outW_get (L:List Nat) (base:Nat):∀ (l:List ABlk) (k:Nat) (p:Nat × ABlk),p∈outW L base k l→∃ j b,l[j]? = some b∧p=(outN L base (k+j),renB (outN L base) b)
 | [],_,_,h=>by simp [outW] at h
 | b::r,k,p,h=>by
   rcases List.mem_cons.1 h with rfl | h
   ·exact ⟨0,b,rfl,rfl⟩
   ·obtain ⟨j,c,h1,h2⟩:=outW_get L base r (k+1) p h
    exact ⟨j+1,c,by simpa using h1,by rw [h2];congr 2;omega⟩
theorem updH_get_mem (H:Heap):∀ (a:List (Nat × ABlk)) (i:Nat) (b:ABlk),(a.map (·.1)).Nodup→(i,b)∈a→updH H a i=some b
 | [],_,_,_,h=>by simp at h
 | (j,y)::r,i,b,hn,h=>by
   simp only [List.map_cons,List.nodup_cons] at hn
   rcases List.mem_cons.1 h with e | h
   ·simp only [Prod.mk.injEq] at e
    obtain ⟨e1,e2⟩:=e
    rw [updH,updH_other _ r i (fun p hp e'=>hn.1 (by rw [← e1,← e'];exact List.mem_map_of_mem hp))]
    simp [e1,e2]
   ·rw [updH]
    exact updH_get_mem _ r i b hn.2 h
section
variable {P:Program} {G:Globals}
theorem nodup_inj {L:List Nat} (hL:L.Nodup) {i j b:Nat} (h1:L[i]? = some b) (h2:L[j]? = some b):i=j:=by
 obtain ⟨q1,q2⟩:=List.getElem?_eq_some_iff.1 h1
 obtain ⟨q3,q4⟩:=List.getElem?_eq_some_iff.1 h2
 have hp:=List.pairwise_iff_getElem.1 hL
 rcases Nat.lt_trichotomy i j with h | h | h
 ·exact absurd (q2.trans q4.symm) (hp i j q1 q3 h)
 ·exact h
 ·exact absurd (q4.trans q2.symm) (hp j i q3 q1 h)
theorem outN_inj {L:List Nat} {base:Nat} (hL:L.Nodup) (hlt:∀ b,b∈L→b<base) {i j:Nat} (h:outN L base i=outN L base j):i=j:=by
 unfold outN at h
 split at h<;>rename_i a ha<;>split at h<;>rename_i b hb
 ·subst h
  exact nodup_inj hL ha hb
 ·have:=hlt a (List.mem_of_getElem? ha);omega
 ·have:=hlt b (List.mem_of_getElem? hb);omega
 ·rw [List.getElem?_eq_none_iff] at ha hb;omega
theorem outW_nodup {L:List Nat} {base:Nat} (hL:L.Nodup) (hlt:∀ b,b∈L→b<base):∀ (l:List ABlk) (k:Nat),((outW L base k l).map (·.1)).Nodup
 | [],k=>by simp [outW]
 | b::r,k=>by
   simp only [outW,List.map_cons,List.nodup_cons]
   refine ⟨?_,outW_nodup hL hlt r (k+1)⟩
   intro hm
   obtain ⟨p,hp,e⟩:=List.mem_map.1 hm
   obtain ⟨j,c,h1,h2⟩:=outW_get L base r (k+1) p hp
   rw [h2] at e
   have:=outN_inj hL hlt e
   omega
theorem outW_mem (L:List Nat) (base:Nat):∀ (l:List ABlk) (k j:Nat) (b:ABlk),l[j]? = some b→(outN L base (k+j),renB (outN L base) b)∈outW L base k l
 | [],_,_,_,h=>by simp at h
 | c::r,k,0,b,h=>by simp at h;subst h;simp [outW]
 | c::r,k,j+1,b,h=>by
   simp at h
   have:=outW_mem L base r (k+1) j b h
   rw [show k+1+j=k+(j+1) by omega] at this
   simp [outW,this]
theorem call_core {m:Bool} {H:List ABlk} {f:FuncId} {L ids:List Nat} {avs ars:List AV} {HC Hn:List ABlk} {res:AV} (hL:L.Nodup) (hids:∀ b,b∈ids→b∉L)
  (hpa:passL H L avs=some ars) (hpb:passBs H L L=some HC) (hs1:∀ b,b∈sidsL H L avs→b∈ids) (hs2:∀ b,b∈sidsBs H L L→b∈ids) (spec:Ctr P G f (if m then ars else ars.map unfA) HC res Hn) (hlen:L.length≤Hn.length)
  {h:Held} {ρ:Place} {H':Heap} {w:World} {vs:Array Value} (hs:Sim G h ρ H' w) (hvs:RL h ρ vs avs)
  (hr:∀ b,b∈L++ids++(outW L H.length 0 Hn).map (·.1)→H' b=hp H b) :
  Calls P f vs w (fun e w'=>∃ v h' ρ',e=.returned v∧Sim G h' ρ' (updH H' (frz H ids++outW L H.length 0 Hn)) w'∧R h' ρ' v (renA (outN L H.length) res)∧Step h ρ w h' ρ' w'):=by
 obtain ⟨h1,s1,t1,f1⟩:=freeze_ok H ids h H' hs (fun b hb=>.inl (hr b (by simp [hb])))
 have hLH:∀ b,b∈L→updH H' (frz H ids) b=H[b]?:=fun b hb=>by
  rw [updH_other _ _ b (fun q hq e=>hids b (e▸frz_mem hq) hb)]
  exact hr b (by simp [hb])
 have hLlt:∀ b,b∈L→b<H.length:=by
  intro b hb
  obtain ⟨k,hk,rfl⟩:=List.getElem_of_mem hb
  obtain ⟨blk,y,q1,_⟩:=(passBs_get hpb).2 k _ (List.getElem?_eq_getElem hk)
  exact (List.getElem?_eq_some_iff.1 q1).1
 let ρc:Place:=fun k=>(L[k]?).bind ρ
 have hρc:∀ (k b:Nat),L[k]? = some b→ρc k=ρ b:=fun k b e=>by simp [ρc,e]
 have hρc':∀ k x,ρc k=some x→∃ b,L[k]? = some b∧ρ b=some x:=by
  intro k x e
  simp only [ρc] at e
  cases hk:L[k]? with
  | none=>simp [hk] at e
  | some b=>simp [hk] at e;exact ⟨b,rfl,e⟩
 have hHClen:L.length=HC.length:=(passBs_get hpb).1
 have liveL:∀ (k b:Nat),L[k]? = some b→live (updH H' (frz H ids)) b:=by
  intro k b hk
  obtain ⟨blk,y,q1,q2,q3,_⟩:=(passBs_get hpb).2 k b hk
  refine ⟨blk,by rw [hLH b (List.mem_of_getElem? hk)];exact q1,?_⟩
  rintro rfl
  simp [passB] at q3
 have sc:Sim G h1 ρc (hp HC) w:=by
  refine ⟨s1.prom,s1.glob,?_,?_,?_⟩
  ·intro k y hy
   have hk:k<L.length:=by
    have:=(List.getElem?_eq_some_iff.1 hy).1
    omega
   have hLk:=List.getElem?_eq_getElem hk
   obtain ⟨blk,y',q1,q2,q3,q4⟩:=(passBs_get hpb).2 k _ hLk
   have:some y=some y':=hy.symm.trans q2
   cases this
   have hb:=s1.blk L[k] blk (by rw [hLH _ (List.getElem_mem hk)];exact q1)
   have hρk:ρc k=ρ L[k]:=hρc k _ hLk
   cases blk with
   | dead=>simp [passB] at q3
   | row fz cs =>
    simp [passB] at q3;subst q3
    obtain ⟨b0,b1⟩:=hb
    refine ⟨b0,?_⟩
    rw [hρk]
    exact b1
   | box cs =>
    simp only [passB] at q3
    split at q3
    ·rename_i l hl
     cases q3
     obtain ⟨g,S,c,E,fr,b1,b2,b3,b4,b5,b6,b7⟩:=hb
     have hg:=passL_get hl
     refine ⟨g,S,c,E,fr,hρk.trans b1,b2,b3,b4,by omega,fun j x v hx hv=>?_,b7⟩
     have hj:j<cs.length:=by have:=(List.getElem?_eq_some_iff.1 hx).1;omega
     have hcj:=List.getElem?_eq_getElem hj
     exact pass_ok hρc (b6 j _ v hcj hv) (hg.2 j _ x hcj hx) (fun b hb=>f1 b (hs2 b (q4 b (sidsL_mem hcj hb))))
    ·cases q3
   | map l =>
    simp [passB] at q3;subst q3
    obtain ⟨g,S,es,clock,b1,b2⟩:=hb
    exact ⟨g,S,es,clock,hρk.trans b1,b2⟩
   | iter s pos =>
    simp [passB] at q3;subst q3
    obtain ⟨g,S,b1,b2⟩:=hb
    exact ⟨g,S,hρk.trans b1,b2⟩
   | bld T used n k =>
    obtain ⟨g,S,v,b1,b2,b3,b4⟩:=hb
    cases k with
    | none =>
     simp [passB] at q3;subst q3
     exact ⟨g,S,v,hρk.trans b1,b2,b3,b4⟩
    | some kb =>
     simp only [passB] at q3
     split at q3
     ·rename_i j hj
      cases q3
      rcases b3 with b3 | ⟨g2,cap,e1,e2,e3⟩
      ·exact ⟨g,S,v,hρk.trans b1,b2,.inl b3,b4⟩
      ·exact ⟨g,S,v,hρk.trans b1,b2,.inr ⟨g2,cap,e1,(hρc j _ (idx_spec hj)).trans e2,e3⟩,b4⟩
     ·cases q3
   | buf e l =>
    simp [passB] at q3;subst q3
    rcases hb with ⟨b1,b2⟩ | ⟨g,S,c,b1,b2⟩
    ·exact .inl ⟨hρk.trans b1,b2⟩
    ·exact .inr ⟨g,S,c,hρk.trans b1,b2⟩
   | ext J t=>simp [passB] at q3
  ·intro k g S e
   obtain ⟨b,hb,hρ⟩:=hρc' k _ e
   refine ⟨(s1.dom b g S hρ).1,?_⟩
   have hk:k<HC.length:=by have:=(List.getElem?_eq_some_iff.1 hb).1;omega
   exact ⟨HC[k],List.getElem?_eq_getElem hk⟩
  ·intro i j g S S' e1 e2 l1 l2
   obtain ⟨b,hb,hρ⟩:=hρc' i _ e1
   obtain ⟨c,hc,hρ'⟩:=hρc' j _ e2
   have hbc:=s1.inj b c g S S' hρ hρ' (liveL i b hb) (liveL j c hc)
   subst hbc
   exact nodup_inj hL hb hc
 have hga:=passL_get hpa
 have hvs':RL h1 ρc vs ars:=by
  refine ⟨by have:=hvs.1;omega,fun i v y hv hy=>?_⟩
  have hi:i<avs.length:=by have:=(List.getElem?_eq_some_iff.1 hy).1;omega
  have hx:=List.getElem?_eq_getElem hi
  exact pass_ok hρc ((hvs.2 i v _ hv hx).mono t1.mono (Place.le_refl _)) (hga.2 i _ y hx hy) (fun b hb=>f1 b (hs1 b (sidsL_mem hx hb)))
 refine (spec.2 h1 ρc w vs sc (hvs'.unfA m)).mono ?_
 rintro e w' ⟨v,h',ρ',rfl,s',r',t'⟩
 let base:=H.length
 let fN:=outN L base
 let ρ2:Place:=fun i=>match (List.range Hn.length).find? (fun k=>fN k == i) with | some k=>ρ' k | none=>ρ i
 have inj:∀ {i j:Nat},fN i=fN j→i=j:=fun h=>outN_inj hL hLlt h
 have hin:∀ k,k<Hn.length→ρ2 (fN k)=ρ' k:=by
  intro k hk
  have:(List.range Hn.length).find? (fun j=>fN j == fN k)=some k:=by
   rw [List.find?_range_eq_some]
   refine ⟨by simp,by simpa using hk,fun j hj=>?_⟩
   simp
   intro e
   have:=inj e
   omega
  simp only [ρ2,this]
 have hout:∀ i,(∀ k,k<Hn.length→fN k≠i)→ρ2 i=ρ i:=by
  intro i hi
  have:(List.range Hn.length).find? (fun j=>fN j == i)=none:=by
   rw [List.find?_eq_none]
   intro k hk
   simp at hk ⊢
   exact hi k hk
  simp only [ρ2,this]
 have cases2:∀ i,(∃ k,k<Hn.length∧fN k=i)∨(∀ k,k<Hn.length→fN k≠i):=by
  intro i
  by_cases h:∃ k,k<Hn.length∧fN k=i
  ·exact .inl h
  ·exact .inr (fun k hk e=>h ⟨k,hk,e⟩)
 have hdom':∀ k x,ρ' k=some x→k<Hn.length:=by
  intro k x e
  obtain ⟨_,b,hb⟩:=s'.dom k x.1 x.2 e
  exact (List.getElem?_eq_some_iff.1 hb).1
 have hf:∀ b x,ρ' b=some x→ρ2 (fN b)=some x:=fun b x e=>by rw [hin b (hdom' b x e)];exact e
 have fNL:∀ (k b:Nat),L[k]? = some b→fN k=b:=fun k b e=>by simp [fN,outN,e]
 have fNnew:∀ k,L.length≤k→fN k=base+(k - L.length):=fun k hk=>by
  have:L[k]? = none:=List.getElem?_eq_none_iff.2 hk
  simp [fN,outN,this]
 have hnew:∀ k,L.length≤k→k<Hn.length→H' (fN k)=none:=by
  intro k hk hlt
  have hmem:fN k∈(outW L H.length 0 Hn).map (·.1):=by
   have:=outW_mem L H.length Hn 0 k _ (List.getElem?_eq_getElem hlt)
   rw [Nat.zero_add] at this
   exact List.mem_map_of_mem (f:=Prod.fst) this
  rw [hr _ (by simp only [List.mem_append];exact .inr hmem),fNnew k hk]
  simp [hp,base]
 have hρnew:∀ k,L.length≤k→k<Hn.length→ρ (fN k)=none:=by
  intro k hk hlt
  cases e:ρ (fN k) with
  | none=>rfl
  | some x=>obtain ⟨_,b,hb⟩:=hs.dom _ x.1 x.2 e;rw [hnew k hk hlt] at hb;cases hb
 have hmono:ρ.le ρ2:=by
  intro i x e
  rcases cases2 i with ⟨k,hk,rfl⟩ | hi
  ·rw [hin k hk]
   by_cases hkl:k<L.length
   ·have hLk:=List.getElem?_eq_getElem hkl
    rw [fNL k _ hLk] at e
    exact t'.rmono k x ((hρc k _ hLk).trans e)
   ·rw [hρnew k (by omega) hk] at e;cases e
  ·rw [hout i hi];exact e
 have hHat:∀ (k:Nat) (b:ABlk),Hn[k]? = some b→updH H' (frz H ids++outW L H.length 0 Hn) (fN k)=some (renB fN b):=by
  intro k b hb
  rw [updH_append]
  refine updH_get_mem _ _ _ _ (outW_nodup hL hLlt Hn 0) ?_
  have:=outW_mem L H.length Hn 0 k b hb
  rwa [Nat.zero_add] at this
 have hHother:∀ i,(∀ k,k<Hn.length→fN k≠i)→updH H' (frz H ids++outW L H.length 0 Hn) i=updH H' (frz H ids) i:=by
  intro i hi
  rw [updH_append]
  refine updH_other _ _ i (fun p hp e=>?_)
  obtain ⟨j,b,q1,q2⟩:=outW_get L H.length Hn 0 p hp
  rw [q2] at e
  simp only [Nat.zero_add] at e
  exact hi j (List.getElem?_eq_some_iff.1 q1).1 e
 have notc:∀ g,(∀ i S,ρ i≠some (g,S))→∀ i S,ρc i≠some (g,S):=by
  intro g hg i S e
  obtain ⟨b,_,hb⟩:=hρc' i _ e
  exact hg b S hb
 have liveOther:∀ i,(∀ k,k<Hn.length→fN k≠i)→live (updH H' (frz H ids)) i→∀ g S,ρ i=some (g,S)→∀ j S',ρc j≠some (g,S'):=by
  intro i hi hl g S hg j S' e
  obtain ⟨b,hb,hρb⟩:=hρc' j _ e
  have:=s1.inj i b g S S' hg hρb hl (liveL j b hb)
  subst this
  have hj:j<L.length:=(List.getElem?_eq_some_iff.1 hb).1
  exact hi j (by omega) (fNL j i hb)
 have hrn:∀ i g S,ρ2 i=some (g,S)→(∃ j S',ρ j=some (g,S'))∨w.heap.size≤g:=by
  intro i g S e
  rcases cases2 i with ⟨k,hk,rfl⟩ | hi
  ·rw [hin k hk] at e
   rcases t'.rnew k g S e with ⟨j,S',hj⟩ | hge
   ·obtain ⟨b,_,hb⟩:=hρc' j _ hj
    exact .inl ⟨b,S',hb⟩
   ·exact .inr hge
  ·rw [hout i hi] at e
   exact .inl ⟨i,S,e⟩
 have st:Step h1 ρ w h' ρ2 w':=⟨t'.os,t'.tape,t'.output,t'.size,fun k hk hn=>t'.keep k hk (notc k hn),t'.mono,fun k hk hn=>t'.new k hk (notc k hn),hmono,hrn⟩
 refine ⟨v,h',ρ2,rfl,⟨s'.prom,s'.glob,?_,?_,?_⟩,r'.ren hf,t1.trans st⟩
 ·intro i b hb
  rcases cases2 i with ⟨k,hk,rfl⟩ | hi
  ·rw [hHat k _ (List.getElem?_eq_getElem hk)] at hb
   cases hb
   exact (s'.blk k _ (List.getElem?_eq_getElem hk)).ren hf (fun hn=>(hin k hk).trans hn)
  ·rw [hHother i hi] at hb
   by_cases hd:b=.dead
   ·subst hd;trivial
   ·refine (s1.blk i b hb).frame st.n s'.prom t'.mono hmono (fun g S hg=>?_) (fun hn=>(hout i hi).trans hn)
    have hnc:=liveOther i hi ⟨b,hb,hd⟩ g S hg
    have hlt:=(s1.dom i g S hg).1
    exact ⟨t'.keep g hlt hnc,t'.new g hlt hnc⟩
 ·intro i g S e
  rcases cases2 i with ⟨k,hk,rfl⟩ | hi
  ·rw [hin k hk] at e
   exact ⟨(s'.dom k g S e).1,_,hHat k _ (List.getElem?_eq_getElem hk)⟩
  ·rw [hout i hi] at e
   obtain ⟨q1,b,q2⟩:=s1.dom i g S e
   exact ⟨by have:=t'.size;omega,b,by rw [hHother i hi];exact q2⟩
 ·intro i j g S1 S2 e1 e2 l1 l2
  have lv:∀ k,k<Hn.length→live (updH H' (frz H ids++outW L H.length 0 Hn)) (fN k)→live (hp Hn) k:=by
   rintro k hk ⟨b,q1,q2⟩
   rw [hHat k _ (List.getElem?_eq_getElem hk)] at q1
   cases q1
   refine ⟨Hn[k],List.getElem?_eq_getElem hk,fun e=>q2 (by rw [e];rfl)⟩
  have lv':∀ i,(∀ k,k<Hn.length→fN k≠i)→live (updH H' (frz H ids++outW L H.length 0 Hn)) i→live (updH H' (frz H ids)) i:=by
   rintro i hi ⟨b,q1,q2⟩
   exact ⟨b,by rw [← hHother i hi];exact q1,q2⟩
  have mixed:∀ k,k<Hn.length→∀ i,(∀ k,k<Hn.length→fN k≠i)→live (updH H' (frz H ids)) i→∀ S S',ρ' k=some (g,S)→ρ i=some (g,S')→False:=by
   intro k hk i hi hl S S' e1 e2
   rcases t'.rnew k g S e1 with ⟨j,S'',hj⟩ | hge
   ·exact liveOther i hi hl g S' e2 j S'' hj
   ·have:=(s1.dom i g S' e2).1;omega
  rcases cases2 i with ⟨k,hk,rfl⟩ | hi<;>rcases cases2 j with ⟨k',hk',rfl⟩ | hj
  ·rw [hin k hk] at e1
   rw [hin k' hk'] at e2
   rw [s'.inj k k' g S1 S2 e1 e2 (lv k hk l1) (lv k' hk' l2)]
  ·rw [hin k hk] at e1
   rw [hout j hj] at e2
   exact (mixed k hk j hj (lv' j hj l2) S1 S2 e1 e2).elim
  ·rw [hout i hi] at e1
   rw [hin k' hk'] at e2
   exact (mixed k' hk' i hi (lv' i hi l1) S2 S1 e2 e1).elim
  ·rw [hout i hi] at e1
   rw [hout j hj] at e2
   exact s1.inj i j g S1 S2 e1 e2 (lv' i hi l1) (lv' j hj l2)
theorem call_plain {m:Bool} {H:List ABlk} {f:FuncId} {ids:List Nat} {avs ars:List AV} {d:D} (hsc:scalarD d=true)
  (hpa:passL H [] avs=some ars) (hs1:∀ b,b∈sidsL H [] avs→b∈ids) (spec:Ctr P G f (if m then ars else ars.map unfA) [] (.d d) [])
  {h:Held} {ρ:Place} {H':Heap} {w:World} {vs:Array Value} (hs:Sim G h ρ H' w) (hvs:RL h ρ vs avs) (hr:∀ b,b∈ids→H' b=hp H b) :
  Calls P f vs w (fun e w'=>∃ v h' ρ',e=.returned v∧Sim G h' ρ' H' w'∧R h' ρ' v (.d d)∧Step h ρ w h' ρ' w'):=by
 obtain ⟨h1,s1,t1,f1⟩:=freeze_ok H ids h H' hs (fun b hb=>.inl (hr b hb))
 have sc:Sim G h1 (fun _=>none) (hp []) w:=⟨s1.prom,s1.glob,fun i b e=>by simp [hp] at e,(fun i g S e=>by cases e),(fun i j g S S' e=>by cases e)⟩
 have hga:=passL_get hpa
 have hvs':RL h1 (fun _=>none) vs ars:=by
  refine ⟨by have:=hvs.1;omega,fun i v y hv hy=>?_⟩
  have hi:i<avs.length:=by have:=(List.getElem?_eq_some_iff.1 hy).1;omega
  have hx:=List.getElem?_eq_getElem hi
  exact pass_ok (ρ:=ρ) (L:=[]) (fun k b e=>by simp at e) ((hvs.2 i v _ hv hx).mono t1.mono (Place.le_refl _)) (hga.2 i _ y hx hy) (fun b hb=>f1 b (hs1 b (sidsL_mem hx hb)))
 refine (spec.2 h1 _ w vs sc (hvs'.unfA m)).mono ?_
 rintro e w' ⟨v,h',ρ',rfl,s',r',t'⟩
 have keep:∀ g,g<w.heap.size→w'.heap[g]? = w.heap[g]?:=fun g hg=>t'.keep g hg (fun i S e=>by cases e)
 have st:Step h ρ w h ρ w':=⟨t'.os,t'.tape,t'.output,t'.size,fun k hk _=>keep k hk,Held.le_refl _,fun _ _ _ _=>rfl,Place.le_refl _,fun i _ S e=>.inl ⟨i,S,e⟩⟩
 have hpr:∀ b o v,h b o=some v→w'.cell? ⟨b,o,none⟩=some v:=by
  intro b o v e
  have hlt:=hs.held_lt e
  rw [← hs.prom b o v e]
  simp [World.cell?,keep b hlt]
 refine ⟨v,h,ρ,rfl,⟨hpr,hs.glob,fun i b e=>(hs.blk i b e).frame st.n hpr (Held.le_refl _) (Place.le_refl _) (fun g S hg=>⟨keep g (hs.dom i g S hg).1,fun _=>rfl⟩) id,fun i g S e=>⟨by have:=(hs.dom i g S e).1;have:=t'.size;omega,(hs.dom i g S e).2⟩,hs.inj⟩,?_,st⟩
 ·cases r' with
  | d _ _ hd=>exact .d _ _ (scalarD_ok hd hsc)
def calleeA (f:AV) (xs:List AV):Option (FuncId × List AV) :=
 match f with
 | .fn (.func g) a b=>some (g,a++xs++b)
 | .d (.fn (.func g) a b)=>some (g,a.map .d++xs++b.map .d)
 | _=>none
theorem RL.append {h:Held} {ρ:Place} {a b:Array Value} {x y:List AV} (h1:RL h ρ a x) (h2:RL h ρ b y):RL h ρ (a++b) (x++y):=by
 refine ⟨by have:=h1.1;have:=h2.1;simp;omega,fun i v z hv hz=>?_⟩
 rw [Array.getElem?_append] at hv
 rw [List.getElem?_append] at hz
 have e:=h1.1
 by_cases hi:i<x.length
 ·rw [if_pos hi] at hz
  rw [if_pos (by omega)] at hv
  exact h1.2 i v z hv hz
 ·rw [if_neg hi] at hz
  rw [if_neg (by omega)] at hv
  rw [e] at hv
  exact h2.2 _ v z hv hz
theorem callK_ok {o:Oper} {ev:Operand→AV} {H:List ABlk} {M:FuncId→Bool} {fo:Operand} {xs:Array Operand} {ts:Array TypeId} {f:FuncId} {avs:List AV} {k:Eff→Prop}
  (ho:o.op=.call {callee:=.value fo,args:=xs,argTypes:=ts}) (hf:calleeA (ev fo) (xs.toList.map ev)=some (f,avs)) (hk:callK P G M H f avs k):∃ e,OpSem P G o ev (hp H) e∧k e:=by
 have memf:fo∈o.op.operands.toList:=by simp [Op.operands,Call.operands,ho]
 have memx:∀ x,x∈xs.toList→x∈o.op.operands.toList:=fun x hx=>by simp [Op.operands,Call.operands,ho];exact .inr (by simpa using hx)
 unfold callK at hk
 simp only at hk
 split at hk
 ·rename_i ars HC hpa hpb
  obtain ⟨k1,res,Hn,ks,spec,hlen,kk,k2⟩:=hk
  refine ⟨_,OpSem.drop ?_ ?_ kk,k2⟩
  rotate_left
  ·intro p hp
   unfold callEff at hp ⊢
   split
   ·rename_i hc;rw [if_pos hc] at hp;cases hp
   ·rename_i hc
    rw [if_neg hc] at hp
    simp only [List.mem_append] at hp ⊢
    rcases hp with hp | hp
    ·exact .inl (.inr (by simpa using frz_mem hp))
    ·exact .inr (List.mem_map_of_mem hp)
  have enter:∀ (h:Held) (ρ:Place) (a:Act),(∀ x,x∈o.op.operands.toList→R h ρ (a.eval x) (ev x)) →
    ∃ vs,RL h ρ vs avs∧∀ w:World,(execOp a.eval o).run P w=.ok (.enter f vs) w:=by
   intro h ρ a hops
   have hxs:RL h ρ (xs.map a.eval) (xs.toList.map ev):=by
    refine ⟨by simp,fun i v x hv hx=>?_⟩
    simp only [Array.getElem?_map] at hv
    simp only [List.getElem?_map,Array.getElem?_toList] at hx
    cases hc:xs[i]? with
    | none=>simp [hc] at hv
    | some z =>
     simp [hc] at hv hx
     subst hv;subst hx
     exact hops z (memx z (by simpa using Array.mem_of_getElem? hc))
   have hcall:∀ (g:FuncId) (args:Array Value) (w:World),goFn P g=true→(callFunc g args).run P w=.ok (.enter g args) w:=by
    intro g args w hg
    unfold goFn at hg
    split at hg
    ·rename_i fn hfn
     simp only [Bool.and_eq_true,bne_iff_ne,ne_eq] at hg
     have hb:¬ fn.body=none:=by
      intro e;simp [e] at hg
     simp [callFunc,program,Sem.run,hfn,hg.1,hb]
    ·cases hg
   have hfv:=hops fo memf
   unfold calleeA at hf
   split at hf
   ·rename_i g fa fb hfo
    cases hf
    rw [hfo] at hfv
    generalize he:a.eval fo=v at hfv
    cases hfv with
    | fn _ us ws _ _ hl hl' hra hrb =>
     refine ⟨us++xs.map a.eval++ws,RL.append (RL.append ⟨hl,hra⟩ hxs) ⟨hl',hrb⟩,fun w=>?_⟩
     simp only [execOp,ho,resolve,he,Deferred.ofValue,invoke,Sem.run_bind,Sem.run_pure,Result.andThen_ok]
     exact hcall _ _ w spec.1
   ·rename_i g fa fb hfo
    cases hf
    rw [hfo] at hfv
    generalize he:a.eval fo=v at hfv
    cases hfv with
    | d _ _ hd=>cases hd with
      | fn _ us ws _ _ hl hl' hra hrb =>
       have lift:∀ {us:Array Value} {l:List D},us.size=l.length→(∀ (i:Nat) v x,us[i]? = some v→l[i]? = some x→RD h v x)→RL h ρ us (l.map .d):=by
        intro us l hl hr
        refine ⟨by simpa using hl,fun i v x hv hx=>?_⟩
        simp only [List.getElem?_map] at hx
        cases hc:l[i]? with
        | none=>simp [hc] at hx
        | some y=>simp [hc] at hx;subst hx;exact .d _ _ (hr i v y hv hc)
       refine ⟨us++xs.map a.eval++ws,RL.append (RL.append (lift hl hra) hxs) (lift hl' hrb),fun w=>?_⟩
       simp only [execOp,ho,resolve,he,Deferred.ofValue,invoke,Sem.run_bind,Sem.run_pure,Result.andThen_ok]
       exact hcall _ _ w spec.1
   ·cases hf
  have hids:∀ b,b∈sidsL H (passIds (M f) H avs) avs++sidsBs H (passIds (M f) H avs) (passIds (M f) H avs)→b∉passIds (M f) H avs:=by
   intro b hb
   have:=List.all_eq_true.1 k1 b hb
   simpa using this
  unfold callEff
  split
  ·rename_i hsp
   simp only [Bool.and_eq_true,List.isEmpty_iff] at hsp
   obtain ⟨⟨e1,e2⟩,e3⟩:=hsp
   subst e2
   rw [e1] at hpa hpb ⊢
   simp [passBs] at hpb
   subst hpb
   cases res with
   | d x =>
    intro h ρ H' a w hs hops hr
    obtain ⟨vs,hvs,hrun⟩:=enter h ρ a hops
    unfold Oper.wp
    rw [hrun w]
    refine (call_plain (P:=P) e3 hpa (fun b hb=>List.mem_append_left _ hb) spec hs hvs hr).mono ?_
    rintro e w' ⟨v,h',ρ',rfl,q1,q2,q3⟩
    exact ⟨v,h',ρ',rfl,q1,q2,q3⟩
   | _=>simp [isScalar] at e3
  ·intro h ρ H' a w hs hops hr
   obtain ⟨vs,hvs,hrun⟩:=enter h ρ a hops
   unfold Oper.wp
   rw [hrun w]
   refine (call_core (P:=P) (dedup_nodup _) hids hpa hpb (fun b hb=>List.mem_append_left _ hb) (fun b hb=>List.mem_append_right _ hb) spec hlen hs hvs hr).mono ?_
   rintro e w' ⟨v,h',ρ',rfl,q1,q2,q3⟩
   exact ⟨v,h',ρ',rfl,q1,q2,q3⟩
 ·exact hk.elim
end
end Go.Abs
namespace Go.Abs
open Go
def fR (r:Option Nat):Fence:={fn:=fun _=>True,depth:=none,alive:=false,round:=r}
theorem callsIn_fR {r:Option Nat} {n:Nat} {P:Program} {f:FuncId} {args:Array Value} {w:World} {R:Ending→World→Prop}:CallsIn (fR r) n P f args w R↔Calls P f args w R :=
 callsIn_wide (n:=n)
theorem wpIn_of_wp {P:Program} {o:Oper} (hd:∀ c,o.op≠.defer c) {r:Option Nat} {a:Act} {w:World} {K:Act→World→Prop} {Q:Exit→Act→World→Prop} (hh:o.wp P a w K Q):o.wpIn (fR r) 0 P a w K Q:=by
 unfold Oper.wp at hh
 refine ⟨fun _ _=>trivial,?_⟩
 rw [Oper.semAt_eq _ _ _ hd]
 generalize (execOp a.eval o).run P w=x at *
 cases x with
 | ok n w' =>
  cases n<;>simp only [Oper.upon,Oper.uponIn] at hh ⊢ <;>
   first
    | exact hh
    | exact ⟨fun h=>by simp [fR] at h,callsIn_fR.2 hh⟩
    | exact ⟨fun h=>by simp [fR] at h,fun c cs _=>let ⟨v,w',q,s⟩:=hh c cs;⟨v,w',q,stepsIn_wide.2 s⟩⟩
 | halt x w'=>cases x<;>simp only [Oper.upon,Oper.uponIn] at hh ⊢<;>first | exact hh.elim | exact hh
def StepY (y:Bool) (h:Held) (ρ:Place) (w:World) (h':Held) (ρ':Place) (w':World):Prop:=h.le h'∧ρ.le ρ'∧(y=false→Step h ρ w h' ρ' w')
theorem Step.y {y:Bool} {h:Held} {ρ:Place} {w:World} {h':Held} {ρ':Place} {w':World} (s:Step h ρ w h' ρ' w'):StepY y h ρ w h' ρ' w':=⟨s.mono,s.rmono,fun _=>s⟩
structure Frm (y:Bool) (r:Option Nat) (h0:Held) (ρ0:Place) (w0:World) (ds:List Deferred) (h:Held) (ρ:Place) (w:World):Prop where
 step:y=false→Step h0 ρ0 w0 h ρ w
 nots:y=true→ds=[]∧r=none
 nodup:(ds.map (·.target)).Pairwise (·≠·)
 mark:∀ d,d∈ds→∃ D,d={target:=.collected D,args:=#[]}∧w.heap[D]? = some (.deferred (some []))∧w0.heap.size≤D∧∀ i S,ρ i≠some (D,S)
 rnd:∀ l,r=some l→ds=[]
 record:∀ l,r=some l→∃ rec,w.heap[l]? = some (.loop rec)∧∀ i S,ρ i≠some (l,S)
theorem Frm.go {y:Bool} {r:Option Nat} {h0:Held} {ρ0:Place} {w0:World} {ds:List Deferred} {h h':Held} {ρ ρ':Place} {w w':World} (f:Frm y r h0 ρ0 w0 ds h ρ w) (s:StepY y h ρ w h' ρ' w'):Frm y r h0 ρ0 w0 ds h' ρ' w':=by
 cases y with
 | true =>
  obtain ⟨e1,e2⟩:=f.nots rfl
  subst e1;subst e2
  exact ⟨fun e=>(by cases e),fun _=>⟨rfl,rfl⟩,List.Pairwise.nil,fun d hd=>(by simp at hd),fun _ _=>rfl,fun l e=>by cases e⟩
 | false =>
  have st:=s.2.2 rfl
  have key:∀ k o,w.heap[k]? = some o→(∀ i S,ρ i≠some (k,S))→w'.heap[k]? = some o∧∀ i S,ρ' i≠some (k,S):=by
   intro k o hk hn
   have hlt:=(Array.getElem?_eq_some_iff.1 hk).1
   refine ⟨(st.keep k hlt hn).trans hk,fun i S e=>?_⟩
   rcases st.rnew i k S e with ⟨j,S',hj⟩ | hge
   ·exact hn j S' hj
   ·omega
  refine ⟨fun _=>(f.step rfl).trans st,fun e=>(by cases e),f.nodup,fun d hd=>?_,f.rnd,fun l e=>?_⟩
  ·obtain ⟨D,e,h1,h2,h3⟩:=f.mark d hd
   obtain ⟨k1,k2⟩:=key D _ h1 h3
   exact ⟨D,e,k1,h2,k2⟩
  ·obtain ⟨rec,h1,h2⟩:=f.record l e
   obtain ⟨k1,k2⟩:=key l _ h1 h2
   exact ⟨rec,k1,k2⟩
theorem Frm.pl {y:Bool} {r:Option Nat} {h0:Held} {ρ0:Place} {w0:World} {ds:List Deferred} {h:Held} {ρ ρ':Place} {w:World} (f:Frm y r h0 ρ0 w0 ds h ρ w)
  (h1:y=false→ρ0.le ρ') (h2:∀ k x,ρ' k=some x→∃ j,ρ j=some x):Frm y r h0 ρ0 w0 ds h ρ' w:=by
 have key:∀ k,(∀ i S,ρ i≠some (k,S))→∀ i S,ρ' i≠some (k,S):=fun k hn i S e=>by
  obtain ⟨j,hj⟩:=h2 i _ e
  exact hn j S hj
 refine ⟨fun e=>?_,f.nots,f.nodup,fun d hd=>?_,f.rnd,fun l e=>?_⟩
 ·have q:=f.step e
  exact ⟨q.os,q.tape,q.output,q.size,q.keep,q.mono,q.new,h1 e,fun i g S hi=>by obtain ⟨j,hj⟩:=h2 i _ hi;exact q.rnew j g S hj⟩
 ·obtain ⟨D,e,a,b,c⟩:=f.mark d hd
  exact ⟨D,e,a,b,key D c⟩
 ·obtain ⟨rec,a,b⟩:=f.record l e
  exact ⟨rec,a,key l b⟩
theorem Frm.start (h0:Held) (ρ0:Place) (w0:World):Frm false none h0 ρ0 w0 [] h0 ρ0 w0 :=
 ⟨fun _=>Step.refl _ _ _,fun e=>(by cases e),List.Pairwise.nil,fun d hd=>(by simp at hd),fun _ _=>rfl,fun l e=>by cases e⟩
theorem Frm.startY (h0:Held) (ρ0:Place) (w0:World):Frm true none h0 ρ0 w0 [] h0 ρ0 w0 :=
 ⟨fun e=>(by cases e),fun _=>⟨rfl,rfl⟩,List.Pairwise.nil,fun d hd=>(by simp at hd),fun _ _=>rfl,fun l e=>by cases e⟩
def putA (s:List AV) (d:Option Nat) (x:AV):List AV:=match d with | some t=>s.set t x | none=>s
theorem putA_length (s:List AV) (d:Option Nat) (x:AV):(putA s d x).length=s.length:=by cases d<;>simp [putA]
def LocOp (y:Bool) (r:Option Nat) (P:Program) (G:Globals) (ops:Array Oper) (o:Oper) (s:List AV) (H:Heap) (e:Eff):Prop :=
 ∀ (h:Held) (ρ:Place) (H':Heap) (s':List AV) (a:Act) (w:World),Sim G h ρ H' w→SR h ρ a.tmps s'→(∀ t,t∈o.looksAt ops→s'[t]? = s[t]?)→(∀ b,b∈e.r→H' b=H b) →
  let K:Act→World→Prop:=fun a' w'=>∃ v h' ρ',a'=a.put o.dst v∧Sim G h' ρ' (updH H' e.w) w'∧R h' ρ' v e.res∧StepY y h ρ w h' ρ' w'
  if Region.wanted o (yielded ops a.tmps) then o.wpIn (fR r) 0 P a w K (fun _ _ _=>False) else K (a.put o.dst undef) w
inductive Chain (y:Bool) (r:Option Nat) (P:Program) (G:Globals) (ops:Array Oper):List Oper→List AV→Heap→List Eff→List AV→Heap→Prop
 | nil (s:List AV) (H:Heap):Chain y r P G ops [] s H [] s H
 | cons {o:Oper} {rest:List Oper} {s s':List AV} {H H':Heap} {e:Eff} {es:List Eff} (h1:LocOp y r P G ops o s H e)
   (h2:Chain y r P G ops rest (putA s o.dst e.res) (updH H e.w) es s' H'):Chain y r P G ops (o::rest) s H (e::es) s' H'
theorem SR.putA {h:Held} {ρ:Place} {a:Act} {s:List AV} (r:SR h ρ a.tmps s) (d:Option Nat) {v:Value} {x:AV} (hv:R h ρ v x):SR h ρ (a.put d v).tmps (putA s d x):=by
 cases d with
 | none=>exact r
 | some t=>exact r.put t hv
theorem put_defers (a:Act) (d:Option Nat) (v:Value):(a.put d v).defers=a.defers:=by cases d<;>rfl
def At (y:Bool) (r:Option Nat) (G:Globals) (h0:Held) (ρ0:Place) (w0:World) (s:List AV) (H:Heap) (a:Act) (w:World):Prop :=
 ∃ h ρ,Sim G h ρ H w∧SR h ρ a.tmps s∧Frm y r h0 ρ0 w0 a.defers h ρ w
theorem Oper.wpIn_false {r:Option Nat} {P:Program} {o:Oper} {a:Act} {w:World} {K:Act→World→Prop} {Q:Exit→Act→World→Prop} (hh:o.wpIn (fR r) 0 P a w K (fun _ _ _=>False)):o.wpIn (fR r) 0 P a w K Q:=by
 unfold Oper.wpIn at *
 refine ⟨hh.1,?_⟩
 have hh:=hh.2
 generalize (o.semAt (fR r).round a.eval).run P w=x at *
 cases x with
 | ok n w' =>
  cases n<;>simp only [Oper.uponIn] at hh ⊢ <;>
   first
    | exact hh
    | exact ⟨hh.1,CallsIn.mono hh.2 (fun e w'' he=>by
      cases e with
      | returned v=>exact he
      | panicked c=>exact he.elim
      | outgrown=>obtain ⟨_,_,hq⟩:=he;exact hq.elim)⟩
    | exact ⟨hh.1,RowsIn.mono hh.2 (fun _ _ he=>he)⟩
    | exact ⟨hh.1,RoundIn.mono hh.2 (fun e w'' he=>by
      cases e with
      | returned v=>exact he
      | panicked c=>exact he.elim
      | outgrown=>obtain ⟨_,_,hq⟩:=he;exact hq.elim)⟩
    | exact hh.elim
 | halt x w'=>cases x<;>simp only [Oper.uponIn] at hh ⊢<;>first | exact hh.elim | exact hh
theorem chain_seq {y:Bool} {r:Option Nat} {P:Program} {G:Globals} {ops:Array Oper} {h0:Held} {ρ0:Place} {w0:World} {Q:Exit→Act→World→Prop} {todo:List Oper} {s s':List AV} {H H':Heap} {es:List Eff}
  (c:Chain y r P G ops todo s H es s' H'):∀ (i:Nat) (a:Act) (w:World),(∀ j,todo[j]? = ops[i+j]?)→At y r G h0 ρ0 w0 s H a w→(∀ a w,At y r G h0 ρ0 w0 s' H' a w→Q .normal a w) →
   wpOpsIn (fR r) 0 P ops Q ((List.range todo.length).map (i+·)) a w:=by
 induction c with
 | nil s H=>intro i a w _ ha hq;exact hq a w ha
 | cons h1 h2 ih =>
  rename_i o rest s s' H H' e es
  intro i a w hops ⟨h,ρ,q1,q2,q4⟩ hq
  have ho:ops[i]? = some o:=by simpa using (hops 0).symm
  have hrest:∀ j,rest[j]? = ops[i+1+j]?:=fun j=>by have:=hops (j+1);simp at this;rw [this];congr 1;omega
  have hl:(List.range (rest.length+1)).map (i+·)=i::(List.range rest.length).map (i+1+·):=by
   rw [List.range_succ_eq_map]
   simp [Function.comp_def]
   intro x _;omega
  rw [List.length_cons,hl]
  have hloc:=h1 h ρ H s a w q1 q2 (fun _ _=>rfl) (fun _ _=>rfl)
  have next:∀ a' w',(∃ v h' ρ',a'=a.put o.dst v∧Sim G h' ρ' (updH H e.w) w'∧R h' ρ' v e.res∧StepY y h ρ w h' ρ' w')→wpOpsIn (fR r) 0 P ops Q ((List.range rest.length).map (i+1+·)) a' w':=by
   rintro a' w' ⟨v,h',ρ',rfl,t1,t2,t3⟩
   exact ih (i+1) _ w' hrest ⟨h',ρ',t1,(q2.mono t3.1 t3.2.1).putA o.dst t2,by rw [put_defers];exact q4.go t3⟩ hq
  simp only [wpOpsIn,ho]
  simp only at hloc
  split at hloc
  ·rename_i hw
   simp only [hw,if_true]
   exact Oper.wpIn_mono next (Oper.wpIn_false hloc)
  ·rename_i hw
   simp only [hw]
   obtain ⟨v,h',ρ',e1,t1,t2,t3⟩:=hloc
   exact ⟨fun _ _=>trivial,next _ _ ⟨v,h',ρ',e1,t1,t2,t3⟩⟩
def applyE (o:Oper) (e:Eff) (σ:List AV × Heap):List AV × Heap:=(putA σ.1 o.dst e.res,updH σ.2 e.w)
def stS:List (Oper × Eff)→Nat→(Nat→Bool)→List AV × Heap→List AV × Heap
 | [],_,_,σ=>σ
 | (o,e)::r,i,S,σ=>stS r (i+1) S (if S i then applyE o e σ else σ)
theorem updH_at (H H':Heap):∀ (w:List (Nat × ABlk)) (b:Nat),(H b=H' b∨b∈w.map (·.1))→updH H w b=updH H' w b
 | [],b,h=>by rcases h with h | h;exact h;simp at h
 | (i,x)::r,b,h=>by
   rw [updH,updH]
   refine updH_at _ _ r b ?_
   by_cases hb:b=i
   ·exact .inl (by simp [hb])
   ·rcases h with h | h
    ·exact .inl (by simp [hb,h])
    ·simp [hb] at h
     exact .inr (by simpa using h)
theorem stS_slot (t:Nat):∀ (l:List (Oper × Eff)) (i:Nat) (S S':Nat→Bool) (σ σ':List AV × Heap),(∀ j o e,l[j]? = some (o,e)→S (i+j)≠S' (i+j)→o.dst≠some t) →
  σ.1.length=σ'.1.length→σ.1[t]? = σ'.1[t]?→(stS l i S σ).1[t]? = (stS l i S' σ').1[t]?
 | [],_,_,_,_,_,_,_,h=>h
 | (o,e)::r,i,S,S',σ,σ',hd,hl,h=>by
   rw [stS,stS]
   refine stS_slot t r (i+1) S S' _ _ (fun j o' e' hj hne=>hd (j+1) o' e' (by simpa using hj) (by rwa [show i+(j+1)=i+1+j by omega])) ?_ ?_
   ·split<;>split<;>simp [applyE,putA_length,hl]
   ·have h0:=hd 0 o e rfl
    have same:∀ (x y:List AV) (v:AV),x.length=y.length→x[t]? = y[t]?→(putA x o.dst v)[t]? = (putA y o.dst v)[t]?:=by
     intro x y v hxy hx
     cases hdst:o.dst with
     | none=>simpa [putA] using hx
     | some d=>simp only [putA,List.getElem?_set,hxy,hx]
    have none_:o.dst≠some t→∀ (x:List AV) (v:AV),(putA x o.dst v)[t]? = x[t]?:=by
     intro hne x v
     cases hdst:o.dst with
     | none=>rfl
     | some d =>
      have:d≠t:=fun e=>hne (by rw [hdst,e])
      simp [putA,this]
    by_cases h1:S i=true<;>by_cases h2:S' i=true<;>simp only [h1,h2,if_true,if_false,Bool.false_eq_true]
    ·exact same _ _ _ hl h
    ·simp only [applyE];rw [none_ (h0 (by simp [h1,h2]))];exact h
    ·simp only [applyE];rw [none_ (h0 (by simp [h1,h2]))];exact h
    ·exact h
theorem stS_blk (b:Nat):∀ (l:List (Oper × Eff)) (i:Nat) (S S':Nat→Bool) (σ σ':List AV × Heap),(∀ j o e,l[j]? = some (o,e)→S (i+j)≠S' (i+j)→b∉e.w.map (·.1)) →
  σ.2 b=σ'.2 b→(stS l i S σ).2 b=(stS l i S' σ').2 b
 | [],_,_,_,_,_,_,h=>h
 | (o,e)::r,i,S,S',σ,σ',hd,h=>by
   rw [stS,stS]
   refine stS_blk b r (i+1) S S' _ _ (fun j o' e' hj hne=>hd (j+1) o' e' (by simpa using hj) (by rwa [show i+(j+1)=i+1+j by omega])) ?_
   have h0:=hd 0 o e rfl
   have none_:b∉e.w.map (·.1)→∀ H:Heap,updH H e.w b=H b:=fun hne H=>updH_other H e.w b (fun p hp e'=>hne (by rw [← e'];exact List.mem_map_of_mem hp))
   by_cases h1:S i=true<;>by_cases h2:S' i=true<;>simp only [h1,h2,if_true,if_false,Bool.false_eq_true]
   ·exact updH_at _ _ _ _ (.inl h)
   ·simp only [applyE];rw [none_ (h0 (by simp [h1,h2]))];exact h
   ·simp only [applyE];rw [none_ (h0 (by simp [h1,h2]))];exact h
   ·exact h
def apartE (o o':Oper) (e e':Eff):Prop:=(∀ d,o.dst=some d→o'.dst≠some d)∧∀ b,b∈e.w.map (·.1)→b∉e'.w.map (·.1)
theorem updH_comm (H:Heap) (w w':List (Nat × ABlk)) (h:∀ b,b∈w.map (·.1)→b∉w'.map (·.1)):updH (updH H w) w'=updH (updH H w') w:=by
 funext b
 have other:∀ (H:Heap) (w:List (Nat × ABlk)),b∉w.map (·.1)→updH H w b=H b:=fun H w hb=>updH_other H w b (fun p hp e=>hb (by rw [← e];exact List.mem_map_of_mem hp))
 by_cases h1:b∈w.map (·.1)
 ·have h2:=h b h1
  rw [other _ w' h2]
  exact updH_at _ _ w b (.inr h1)
 ·rw [other _ w h1]
  by_cases h2:b∈w'.map (·.1)
  ·exact updH_at _ _ w' b (.inr h2)
  ·rw [other _ w' h2,other _ w' h2,other _ w h1]
theorem applyE_comm {o o':Oper} {e e':Eff} (h:apartE o o' e e') (σ:List AV × Heap):applyE o e (applyE o' e' σ)=applyE o' e' (applyE o e σ):=by
 unfold applyE
 refine Prod.ext ?_ (updH_comm σ.2 e.w e'.w h.2).symm
 cases hd:o.dst with
 | none=>simp [putA]
 | some d =>
  cases hd':o'.dst with
  | none=>simp [putA]
  | some d' =>
   have hne:d≠d':=fun e=>h.1 d hd (by rw [hd',e])
   simp only [putA]
   exact List.set_comm _ _ (Ne.symm hne)
theorem stS_apply {o:Oper} {e:Eff}:∀ (l:List (Oper × Eff)) (i:Nat) (S:Nat→Bool) (σ:List AV × Heap),(∀ j o' e',l[j]? = some (o',e')→S (i+j)=true→apartE o o' e e') →
  stS l i S (applyE o e σ)=applyE o e (stS l i S σ)
 | [],_,_,_,_=>rfl
 | (o',e')::r,i,S,σ,h=>by
   rw [stS,stS]
   have ih:=fun τ=>stS_apply r (i+1) S τ (fun j o'' e'' hj hs=>h (j+1) o'' e'' (by simpa using hj) (by rwa [show i+(j+1)=i+1+j by omega]))
   by_cases h1:S i=true
   ·simp only [h1,if_true]
    rw [← applyE_comm (h 0 o' e' rfl h1),ih]
   ·simp only [h1,if_false,Bool.false_eq_true]
    rw [ih]
theorem stS_add {o:Oper} {e:Eff} {k:Nat}:∀ (l:List (Oper × Eff)) (i:Nat) (S:Nat→Bool) (σ:List AV × Heap),i≤k→l[k - i]? = some (o,e)→S k=false →
  (∀ j o' e',l[j]? = some (o',e')→k<i+j→S (i+j)=true→apartE o o' e e')→stS l i (fun j=>S j || j == k) σ=applyE o e (stS l i S σ)
 | [],_,_,_,_,h,_,_=>by simp at h
 | (o',e')::r,i,S,σ,hik,hl,hS,ha=>by
   rw [stS,stS]
   by_cases hi:i=k
   ·subst hi
    simp at hl
    obtain ⟨rfl,rfl⟩:=hl
    simp only [hS,Bool.false_or,beq_self_eq_true,if_true,Bool.false_eq_true,if_false]
    have e2:stS r (i+1) (fun j=>S j || j == i) (applyE o' e' σ)=stS r (i+1) S (applyE o' e' σ):=by
     have gen:∀ (l:List (Oper × Eff)) (m:Nat) (τ:List AV × Heap),i<m→stS l m (fun j=>S j || j == i) τ=stS l m S τ:=by
      intro l
      induction l with
      | nil=>intros;rfl
      | cons p l ih =>
       intro m τ hm
       obtain ⟨op,ep⟩:=p
       rw [stS,stS,ih (m+1) _ (by omega)]
       have:(m == i)=false:=by simp;omega
       simp [this]
     exact gen r (i+1) _ (by omega)
    rw [e2]
    exact stS_apply r (i+1) S σ (fun j o'' e'' hj hs=>ha (j+1) o'' e'' (by simpa using hj) (by omega) (by rwa [show i+(j+1)=i+1+j by omega]))
   ·have hne:(i == k)=false:=by simpa using hi
    simp only [hne,Bool.or_false]
    have hk:k - i=(k - (i+1))+1:=by omega
    rw [hk] at hl
    exact stS_add r (i+1) S _ (by omega) (by simpa using hl) hS (fun j o'' e'' hj hlt hs=>ha (j+1) o'' e'' (by simpa using hj) (by omega) (by rwa [show i+(j+1)=i+1+j by omega]))
def bnds (o:Oper):List Nat:=(o.after.toList.filter (Region.binds .any ·)).map (·.on)
def maskOf (o:Oper) (acc:List Nat):Nat:=(bnds o).foldl (fun s i=>s ||| 2 ^ i ||| acc.getD i 0) 0
def masks:List Oper→List Nat→List Nat
 | [],acc=>acc
 | o::r,acc=>masks r (acc++[maskOf o acc])
theorem mask_bits (acc:List Nat) (i:Nat):∀ (l:List Nat) (s:Nat),(l.foldl (fun s i=>s ||| 2 ^ i ||| acc.getD i 0) s).testBit i=true→s.testBit i=true∨∃ k,k∈l∧(i=k∨(acc.getD k 0).testBit i=true)
 | [],s,h=>.inl h
 | x::r,s,h=>by
   rw [List.foldl_cons] at h
   rcases mask_bits acc i r _ h with h | ⟨k,hk,h⟩
   ·rw [Nat.testBit_or,Nat.testBit_or,Nat.testBit_two_pow] at h
    simp only [Bool.or_eq_true,decide_eq_true_eq] at h
    rcases h with (h | h) | h
    ·exact .inl h
    ·exact .inr ⟨x,by simp,.inl h.symm⟩
    ·exact .inr ⟨x,by simp,.inr h⟩
   ·exact .inr ⟨k,by simp [hk],h⟩
theorem masks_get:∀ (l:List Oper) (acc:List Nat),(∀ j,j<acc.length→(masks l acc)[j]? = acc[j]?) ∧
  (∀ j o,l[j]? = some o→∃ pre,(∀ k,(masks l acc)[k]? = pre[k]?∨pre.length≤k)∧pre.length=acc.length+j∧(masks l acc)[acc.length+j]? = some (maskOf o pre))
 | [],acc=>⟨fun j hj=>rfl,fun j o h=>by simp at h⟩
 | o::r,acc=>by
   obtain ⟨h1,h2⟩:=masks_get r (acc++[maskOf o acc])
   refine ⟨fun j hj=>?_,fun j p hp=>?_⟩
   ·rw [masks,h1 j (by simp;omega),List.getElem?_append_left hj]
   ·cases j with
    | zero =>
     simp at hp
     subst hp
     refine ⟨acc,fun k=>?_,rfl,?_⟩
     ·by_cases hk:k<acc.length
      ·exact .inl (by rw [masks,h1 k (by simp;omega),List.getElem?_append_left hk])
      ·exact .inr (by omega)
     ·rw [masks,Nat.add_zero,h1 acc.length (by simp)]
      simp
    | succ j =>
     obtain ⟨pre,q1,q2,q3⟩:=h2 j p (by simpa using hp)
     simp at q2 q3
     exact ⟨pre,by simpa [masks] using q1,by omega,by rw [masks,show acc.length+(j+1)=acc.length+1+j by omega];exact q3⟩
theorem masks_spec {ops:List Oper} {j:Nat} {o:Oper} (ho:ops[j]? = some o) {i:Nat} (h:((masks ops []).getD j 0).testBit i=true) :
  ∃ k,k∈bnds o∧(i=k∨k<j∧((masks ops []).getD k 0).testBit i=true):=by
 obtain ⟨pre,q1,q2,q3⟩:=(masks_get ops []).2 j o ho
 simp at q2 q3
 rw [List.getD_eq_getElem?_getD,q3] at h
 simp only [Option.getD_some,maskOf] at h
 rcases mask_bits pre i (bnds o) 0 h with h | ⟨k,hk,h⟩
 ·simp at h
 ·refine ⟨k,hk,?_⟩
  rcases h with h | h
  ·exact .inl h
  ·by_cases hlt:k<pre.length
   ·refine .inr ⟨by omega,?_⟩
    rcases q1 k with e | e
    ·rw [List.getD_eq_getElem?_getD,e,← List.getD_eq_getElem?_getD];exact h
    ·omega
   ·rw [List.getD_eq_getElem?_getD,List.getElem?_eq_none (by omega)] at h
    simp at h
theorem masks_in {ops:List Oper} {S:Nat→Prop} (hdc:∀ k,S k→∀ o,ops[k]? = some o→∀ i,i∈bnds o→S i):∀ (j:Nat) (o:Oper),ops[j]? = some o→(∀ i,i∈bnds o→S i) →
  ∀ i,((masks ops []).getD j 0).testBit i=true→S i:=by
 intro j
 induction j using Nat.strongRecOn with
 | _ j ih =>
  intro o ho hb i hi
  obtain ⟨k,hk,h⟩:=masks_spec ho hi
  rcases h with rfl | ⟨hlt,h⟩
  ·exact hb _ hk
  ·cases hok:ops[k]? with
   | none =>
    have:ops.length≤k:=List.getElem?_eq_none_iff.1 hok
    have:=(List.getElem?_eq_some_iff.1 ho).1
    omega
   | some ok=>exact ih k hlt ok hok (hdc k (hb k hk) ok hok) i h
def indepB (ops:Array Oper) (x y:Oper) (tx ty:List Nat × List Nat):Bool :=
 (match x.dst,y.dst with | some a,some b=>a != b | _,_=>true) &&
 (match x.dst with | some a=>!(y.looksAt ops).contains a | none=>true) &&
 (match y.dst with | some a=>!(x.looksAt ops).contains a | none=>true) &&
 tx.2.all (fun b=>!ty.1.contains b && !ty.2.contains b) && ty.2.all (fun b=>!tx.1.contains b)
def drawOK (ops:Array Oper) (tr:List (List Nat × List Nat)):Bool :=
 let ms:=masks ops.toList []
 let l:=ops.toList.zip tr
 l.zipIdx.all fun (q,j)=>(bnds q.1).all (·<j) && (l.zipIdx.take j).all fun (p,i)=>(ms.getD j 0).testBit i || indepB ops p.1 q.1 p.2 q.2
theorem drawOK_spec {ops:Array Oper} {tr:List (List Nat × List Nat)} (h:drawOK ops tr=true) :
  (∀ j o t,ops.toList[j]? = some o→tr[j]? = some t→∀ i,i∈bnds o→i<j) ∧
  (∀ i j oi oj ti tj,ops.toList[i]? = some oi→tr[i]? = some ti→ops.toList[j]? = some oj→tr[j]? = some tj→i<j →
   ((masks ops.toList []).getD j 0).testBit i=true∨indepB ops oi oj ti tj=true):=by
 have hz:∀ j o t,ops.toList[j]? = some o→tr[j]? = some t→(ops.toList.zip tr)[j]? = some (o,t):=fun j o t h1 h2=>by
  rw [List.getElem?_zip_eq_some];exact ⟨h1,h2⟩
 have hzi:∀ j o t,ops.toList[j]? = some o→tr[j]? = some t→((o,t),j)∈(ops.toList.zip tr).zipIdx:=fun j o t h1 h2=>by
  rw [List.mem_zipIdx_iff_getElem?];exact hz j o t h1 h2
 simp only [drawOK,List.all_eq_true] at h
 refine ⟨fun j o t h1 h2 i hi=>?_,fun i j oi oj ti tj h1 h2 h3 h4 hlt=>?_⟩
 ·have:=h ((o,t),j) (hzi j o t h1 h2)
  simp only [Bool.and_eq_true,List.all_eq_true,decide_eq_true_eq] at this
  exact this.1 i hi
 ·have:=h ((oj,tj),j) (hzi j oj tj h3 h4)
  simp only [Bool.and_eq_true,List.all_eq_true,decide_eq_true_eq,Bool.or_eq_true] at this
  refine this.2 ((oi,ti),i) ?_
  have hgi:((ops.toList.zip tr).zipIdx)[i]? = some ((oi,ti),i):=by
   rw [List.getElem?_zipIdx,hz i oi ti h1 h2];simp
  refine List.mem_of_getElem? (i:=i) ?_
  rw [List.getElem?_take,if_pos hlt,hgi]
section
variable {y:Bool} {r:Option Nat} {P:Program} {G:Globals} {ops:Array Oper}
theorem stS_none:∀ (l:List (Oper × Eff)) (m:Nat) (S:Nat→Bool) (σ:List AV × Heap),(∀ j,m≤j→S j=false)→stS l m S σ=σ
 | [],_,_,_,_=>rfl
 | (o,e)::r,m,S,σ,h=>by
   rw [stS,h m (Nat.le_refl _)]
   simp only [Bool.false_eq_true,if_false]
   exact stS_none r (m+1) S σ (fun j hj=>h j (by omega))
theorem chain_loc {todo:List Oper} {s s':List AV} {H H':Heap} {es:List Eff} (c:Chain y r P G ops todo s H es s' H'):∀ (m k:Nat) (o:Oper) (e:Eff),(todo.zip es)[k]? = some (o,e) →
  LocOp y r P G ops o (stS (todo.zip es) m (fun j=>decide (j<m+k)) (s,H)).1 (stS (todo.zip es) m (fun j=>decide (j<m+k)) (s,H)).2 e:=by
 induction c with
 | nil s H=>intro m k o e h;simp at h
 | cons h1 h2 ih =>
  rename_i o rest s s' H H' e es
  intro m k o' e' h
  cases k with
  | zero =>
   simp at h
   obtain ⟨rfl,rfl⟩:=h
   rw [stS_none _ _ _ _ (fun j hj=>by simp;omega)]
   exact h1
  | succ k =>
   simp at h
   have:=ih (m+1) k o' e' h
   simp only [List.zip_cons_cons,stS]
   have hm:decide (m<m+(k+1))=true:=by simp
   simp only [hm,if_true]
   have e2:(fun j=>decide (j<m+(k+1)))=(fun j=>decide (j<m+1+k)):=by funext j;congr 1;apply propext;constructor<;>intro<;>omega
   rw [e2]
   exact this
theorem chain_end {todo:List Oper} {s s':List AV} {H H':Heap} {es:List Eff} (c:Chain y r P G ops todo s H es s' H'):es.length=todo.length∧∀ (m:Nat) (S:Nat→Bool),(∀ k,k<todo.length→S (m+k)=true)→stS (todo.zip es) m S (s,H)=(s',H'):=by
 induction c with
 | nil s H=>exact ⟨rfl,fun m S _=>rfl⟩
 | cons h1 h2 ih =>
  rename_i o rest s s' H H' e es
  refine ⟨by simp [ih.1],fun m S hS=>?_⟩
  have h0:=hS 0 (by simp)
  simp only [Nat.add_zero] at h0
  simp only [List.zip_cons_cons,stS,h0,if_true,applyE]
  exact ih.2 (m+1) S (fun k hk=>by have:=hS (k+1) (by simp;omega);rwa [show m+(k+1)=m+1+k by omega] at this)
theorem indep_apart {x y:Oper} {ex ey:Eff} (h:indepB ops x y (ex.r,ex.w.map (·.1)) (ey.r,ey.w.map (·.1))=true):apartE x y ex ey∧apartE y x ey ex ∧
  (∀ d,x.dst=some d→d∉y.looksAt ops)∧(∀ d,y.dst=some d→d∉x.looksAt ops)∧(∀ b,b∈ex.w.map (·.1)→b∉ey.r)∧(∀ b,b∈ey.w.map (·.1)→b∉ex.r):=by
 simp only [indepB,Bool.and_eq_true,List.all_eq_true,Bool.not_eq_true',List.contains_eq_mem,decide_eq_false_iff_not] at h
 obtain ⟨⟨⟨⟨h1,h2⟩,h3⟩,h4⟩,h5⟩:=h
 have hd:∀ d,x.dst=some d→y.dst≠some d:=by
  intro d hx hy
  simp [hx,hy] at h1
 refine ⟨⟨hd,fun b hb=>(h4 b hb).2⟩,⟨fun d hy hx=>hd d hx hy,fun b hb hb'=>(h4 b hb').2 hb⟩,fun d hx=>?_,fun d hy=>?_,fun b hb=>(h4 b hb).1,h5⟩
 ·simpa [hx] using h2
 ·simpa [hy] using h3
theorem countP_list {n:Nat} {listed:Array Bool} {i:Nat} (hs:listed.size=n) (hi:i<n) (hl:listed.getD i false=false) :
  (List.range n).countP (fun j=>!(listed.setIfInBounds i true).getD j false)+1=(List.range n).countP (fun j=>!listed.getD j false):=by
 have gen:∀ m,m≤n→(List.range m).countP (fun j=>!(listed.setIfInBounds i true).getD j false)+(if i<m then 1 else 0)=(List.range m).countP (fun j=>!listed.getD j false):=by
  intro m
  induction m with
  | zero=>simp
  | succ m ih =>
   intro hm
   have:=ih (by omega)
   rw [List.range_succ,List.countP_append,List.countP_append]
   simp only [List.countP_cons,List.countP_nil]
   by_cases he:m=i
   ·subst he
    have h1:(listed.setIfInBounds m true).getD m false=true:=by
     simp [hs,hi]
    rw [h1,hl]
    simp at this ⊢
    omega
   ·have h1:(listed.setIfInBounds i true).getD m false=listed.getD m false:=by
     simp [Array.getD_eq_getD_getElem?,Array.getElem?_setIfInBounds_ne (Ne.symm he)]
    rw [h1]
    by_cases hlt:i<m
    ·have h2:i<m+1:=by omega
     simp only [hlt,if_true] at this
     simp only [h2,if_true]
     omega
    ·have h2:¬ i<m+1:=by omega
     simp only [hlt,if_false] at this
     simp only [h2,if_false]
     omega
 have:=gen n (Nat.le_refl _)
 rw [if_pos hi] at this
 exact this
theorem any_order {h0:Held} {ρ0:Place} {w0:World} {Q:Exit→Act→World→Prop} {s s':List AV} {H H':Heap} {es:List Eff}
  (c:Chain y r P G ops ops.toList s H es s' H') (hd:drawOK ops (es.map fun e=>(e.r,e.w.map (·.1)))=true) (hq:∀ a w,At y r G h0 ρ0 w0 s' H' a w→Q .normal a w) :
  ∀ (fuel:Nat) (listed:Array Bool) (a:Act) (w:World),listed.size=ops.size→(∀ k,listed.getD k false=true→∀ o,ops.toList[k]? = some o→∀ i,i∈bnds o→listed.getD i false=true) →
   (List.range ops.size).countP (fun j=>!listed.getD j false)=fuel →
   At y r G h0 ρ0 w0 (stS (ops.toList.zip es) 0 (fun j=>listed.getD j false) (s,H)).1 (stS (ops.toList.zip es) 0 (fun j=>listed.getD j false) (s,H)).2 a w→wpAnyIn (fR r) 0 P .any ops Q fuel listed a w:=by
 obtain ⟨d1,d2⟩:=drawOK_spec hd
 obtain ⟨ce1,ce2⟩:=chain_end c
 have hes:∀ j,j<ops.size→∃ o e,ops[j]? = some o∧es[j]? = some e∧(ops.toList.zip es)[j]? = some (o,e):=by
  intro j hj
  have h1:ops.toList[j]? = some ops[j]:=by simp
  have h2:j<es.length:=by rw [ce1];simpa using hj
  exact ⟨ops[j],es[j],by simp [Array.getElem?_eq_getElem hj],List.getElem?_eq_getElem h2,by rw [List.getElem?_zip_eq_some];exact ⟨h1,List.getElem?_eq_getElem h2⟩⟩
 have done:∀ (listed:Array Bool) (a:Act) (w:World),(∀ j,j<ops.size→listed.getD j false=true) →
   At y r G h0 ρ0 w0 (stS (ops.toList.zip es) 0 (fun j=>listed.getD j false) (s,H)).1 (stS (ops.toList.zip es) 0 (fun j=>listed.getD j false) (s,H)).2 a w→Q .normal a w:=by
  intro listed a w hall hat
  have:=ce2 0 (fun j=>listed.getD j false) (fun k hk=>by simpa using hall k (by simpa using hk))
  rw [this] at hat
  exact hq a w hat
 have ready_all:∀ (listed:Array Bool),listed.size=ops.size→Region.ready .any ops listed=[]→∀ j,j<ops.size→listed.getD j false=true:=by
  intro listed hsz hr j
  induction j using Nat.strongRecOn with
  | _ j ih =>
   intro hj
   cases hl:listed.getD j false with
   | true=>rfl
   | false =>
    exfalso
    obtain ⟨o,e,q1,q2,q3⟩:=hes j hj
    have hin:j∈Region.ready .any ops listed:=by
     simp only [Region.ready,List.mem_filter,List.mem_range]
     refine ⟨hj,?_⟩
     have hlt:j<listed.size:=by omega
     have:listed.getD j true=false:=by
      simp [Array.getElem?_eq_getElem hlt] at hl ⊢
      exact hl
     simp only [this,q1,Option.map_some,Option.getD_some,Bool.not_false,Bool.true_and]
     rw [Array.all_eq_true_iff_forall_mem]
     intro x hx
     by_cases hb:Region.binds .any x=true
     ·have hmem:x.on∈bnds o:=by
       simp only [bnds,List.mem_map,List.mem_filter]
       exact ⟨x,⟨by simpa using hx,hb⟩,rfl⟩
      have hlt':=d1 j o (e.r,e.w.map (·.1)) (by simpa using q1) (by simp [q2]) x.on hmem
      have:=ih x.on hlt' (by omega)
      rw [this]
      simp
     ·simp [hb]
    rw [hr] at hin
    cases hin
 intro fuel
 induction fuel with
 | zero =>
  intro listed a w hsz hdc hcnt hat
  have hall:∀ j,j<ops.size→listed.getD j false=true:=by
   intro j hj
   have:=List.countP_eq_zero.1 hcnt j (List.mem_range.2 hj)
   simpa using this
  refine ⟨?_,done listed a w hall hat⟩
  simp only [Region.ready,List.filter_eq_nil_iff,List.mem_range]
  intro j hj
  have:=hall j hj
  have hlt:j<listed.size:=by omega
  have h2:listed.getD j true=true:=by
   simp [Array.getElem?_eq_getElem hlt] at this ⊢
   exact this
  simp [h2]
 | succ fuel ih =>
  intro listed a w hsz hdc hcnt hat
  refine ⟨fun hr=>done listed a w (ready_all listed hsz hr) hat,fun i hi=>?_⟩
  simp only [Region.ready,List.mem_filter,List.mem_range] at hi
  obtain ⟨hin,hi⟩:=hi
  obtain ⟨o,e,q1,q2,q3⟩:=hes i hin
  have hlti:i<listed.size:=by omega
  simp only [q1,Option.map_some,Option.getD_some,Bool.and_eq_true,Bool.not_eq_true'] at hi
  obtain ⟨hi1,hi2⟩:=hi
  have hil:listed.getD i false=false:=by
   simp [Array.getElem?_eq_getElem hlti] at hi1 ⊢
   exact hi1
  have hedge:∀ k,k∈bnds o→listed.getD k false=true:=by
   intro k hk
   simp only [bnds,List.mem_map,List.mem_filter] at hk
   obtain ⟨x,⟨hx,hb⟩,rfl⟩:=hk
   rw [Array.all_eq_true_iff_forall_mem] at hi2
   have:=hi2 x (by simpa using hx)
   simp [hb] at this
   simpa using this
  have hop:ops.toList[i]? = some o:=by simpa using q1
  have apart:∀ j o' e',(ops.toList.zip es)[j]? = some (o',e')→j≠i→listed.getD j false≠decide (j<i)→indepB ops o' o (e'.r,e'.w.map (·.1)) (e.r,e.w.map (·.1))=true∨indepB ops o o' (e.r,e.w.map (·.1)) (e'.r,e'.w.map (·.1))=true:=by
   intro j o' e' hj hne hS
   rw [List.getElem?_zip_eq_some] at hj
   obtain ⟨hj1,hj2⟩:=hj
   rcases Nat.lt_or_gt_of_ne hne with hlt | hgt
   ·
    have hnl:listed.getD j false=false:=by
     have:decide (j<i)=true:=by simpa using hlt
     rw [this] at hS
     cases hc:listed.getD j false<;>simp_all
    rcases d2 j i o' o (e'.r,e'.w.map (·.1)) (e.r,e.w.map (·.1)) hj1 (by simp [hj2]) hop (by simp [q2]) hlt with hm | hm
    ·have:=masks_in (ops:=ops.toList) (S:=fun k=>listed.getD k false=true) (fun k hk o ho i hi=>hdc k hk o ho i hi) i o hop hedge j hm
     rw [hnl] at this;cases this
    ·exact .inl hm
   ·have hyl:listed.getD j false=true:=by
     have:decide (j<i)=false:=by simp;omega
     rw [this] at hS
     cases hc:listed.getD j false<;>simp_all
    rcases d2 i j o o' (e.r,e.w.map (·.1)) (e'.r,e'.w.map (·.1)) hop (by simp [q2]) hj1 (by simp [hj2]) hgt with hm | hm
    ·have:=masks_in (ops:=ops.toList) (S:=fun k=>listed.getD k false=true) (fun k hk o ho i hi=>hdc k hk o ho i hi) j o' hj1 (hdc j hyl o' hj1) i hm
     rw [hil] at this;cases this
    ·exact .inr hm
  have apart':∀ j o' e',(ops.toList.zip es)[j]? = some (o',e')→j≠i→listed.getD j false≠decide (j<i)→apartE o o' e e'∧(∀ d,o'.dst=some d→d∉o.looksAt ops)∧(∀ b,b∈e'.w.map (·.1)→b∉e.r):=by
   intro j o' e' hj hne hS
   rcases apart j o' e' hj hne hS with h | h
   ·obtain ⟨p1,p2,p3,p4,p5,p6⟩:=indep_apart h
    exact ⟨p2,p3,p5⟩
   ·obtain ⟨p1,p2,p3,p4,p5,p6⟩:=indep_apart h
    exact ⟨p1,p4,p6⟩
  obtain ⟨h,ρ,t1,t2,t4⟩:=hat
  have hloc:=chain_loc c 0 i o e q3 h ρ _ _ a w t1 t2
   (fun t ht=>stS_slot t _ 0 _ _ _ _ (fun j o' e' hj hS hdst=>by
    simp only [Nat.zero_add] at hS
    have hne:j≠i:=by
     rintro rfl
     simp [hil] at hS
    exact (apart' j o' e' hj hne hS).2.1 t hdst ht) rfl rfl)
   (fun b hb=>stS_blk b _ 0 _ _ _ _ (fun j o' e' hj hS hbw=>by
    simp only [Nat.zero_add] at hS
    have hne:j≠i:=by
     rintro rfl
     simp [hil] at hS
    exact (apart' j o' e' hj hne hS).2.2 b hbw hb) rfl)
  have hset:(fun j=>(listed.setIfInBounds i true).getD j false)=(fun j=>listed.getD j false || j == i):=by
   funext j
   by_cases hj:j=i
   ·subst hj;simp [hlti]
   ·simp [Array.getD_eq_getD_getElem?,Array.getElem?_setIfInBounds_ne (Ne.symm hj),hj]
  have hadd:=stS_add (o:=o) (e:=e) (k:=i) (ops.toList.zip es) 0 (fun j=>listed.getD j false) (s,H) (Nat.zero_le _) (by simpa using q3) hil
   (fun j o' e' hj hlt hS=>by
    simp only [Nat.zero_add] at hlt hS
    exact (apart' j o' e' hj (by omega) (by rw [hS];simp;omega)).1)
  have next:∀ a' w',(∃ v h' ρ',a'=a.put o.dst v∧Sim G h' ρ' (updH (stS (ops.toList.zip es) 0 (fun j=>listed.getD j false) (s,H)).2 e.w) w'∧R h' ρ' v e.res∧StepY y h ρ w h' ρ' w')→wpAnyIn (fR r) 0 P .any ops Q fuel (listed.setIfInBounds i true) a' w':=by
   rintro a' w' ⟨v,h',ρ',rfl,u1,u2,u3⟩
   refine ih (listed.setIfInBounds i true) _ w' (by simpa using hsz) (fun k hk p hp j hj=>?_) ?_ ⟨h',ρ',?_,?_,by rw [put_defers];exact t4.go u3⟩
   ·have e1:(listed.setIfInBounds i true).getD k false=(listed.getD k false || k == i):=congrFun hset k
    rw [e1] at hk
    have e2:(listed.setIfInBounds i true).getD j false=(listed.getD j false || j == i):=congrFun hset j
    rw [e2]
    by_cases hki:k=i
    ·subst hki
     have:p=o:=by rw [hop] at hp;exact (Option.some.inj hp).symm
     subst this
     simp [hedge j hj]
    ·have hk':listed.getD k false=true:=by
      simp only [Bool.or_eq_true,beq_iff_eq,hki,or_false] at hk
      exact hk
     rw [hdc k hk' p hp j hj]
     rfl
   ·have:=countP_list hsz hin hil
    omega
   ·rw [hset,hadd];exact u1
   ·rw [hset,hadd];exact (t2.mono u3.1 u3.2.1).putA o.dst u2
  simp only at hloc
  unfold wpOpIn
  simp only [q1]
  split at hloc
  ·rename_i hw
   simp only [hw,if_true]
   exact Oper.wpIn_mono next (Oper.wpIn_false hloc)
  ·rename_i hw
   simp only [hw]
   obtain ⟨v,h',ρ',e1,u1,u2,u3⟩:=hloc
   exact ⟨fun _ _=>trivial,next _ _ ⟨v,h',ρ',e1,u1,u2,u3⟩⟩
end
end Go.Abs
namespace Go.Abs
open Go
abbrev Muts:=FuncId→Bool
def allocK (P:Program) (H:List ABlk) (e:Nat) (k:Eff→Prop):Prop :=
 match tiOf P e with
 | some ti=>k ⟨.ptr H.length 0,[(H.length,.box (ti.zero.map .d))],[H.length]⟩
 | none=>False
def allocMK (P:Program) (H:List ABlk) (e:Nat) (k:Eff→Prop):Prop :=
 match tiOf P e with
 | some ti=>ti.zero=[.nilp,.sl 0 true []]∧k ⟨.ptr H.length 0,[(H.length,.bld e false 0 none)],[H.length]⟩
 | none=>False
def allocsK (m:Bool) (P:Program) (H:List ABlk) (e:Nat) (k:Eff→Prop):Prop :=
 match m with
 | false=>allocK P H e k
 | true=>allocMK P H e k
def boxK (H:List ABlk) (x:AV) (k:Eff→Prop):Prop :=
 match cellsA x with
 | some cs=>k ⟨.ptr H.length 0,[(H.length,.box cs)],[H.length]⟩
 | none=>False
def pickK (c x y:AV) (k:Eff→Prop):Prop :=
 match c with
 | .d (.bool b)=>k ⟨if b then x else y,[],[]⟩
 | _=>False
def numsOf:List D→Option (List Int)
 | []=>some []
 | .int .u8 n::r=>match numsOf r with
   | some l=>some (n::l)
   | none=>none
 | _::_=>none
theorem numsOf_spec:∀ {cs:List D} {xs:List Int},numsOf cs=some xs→xs.length=cs.length∧∀ (i:Nat) x,cs[i]? = some x→x=.int .u8 (xs.getD i 0)
 | [],xs,e=>by simp [numsOf] at e;subst e;simp
 | c::r,xs,e=>by
   unfold numsOf at e
   split at e
   ·rename_i he;cases he
   ·rename_i n r' he
    cases he
    split at e
    ·rename_i l hl
     cases e
     obtain ⟨h1,h2⟩:=numsOf_spec hl
     refine ⟨by simp [h1],fun i x hx=>?_⟩
     cases i with
     | zero=>simp at hx;subst hx;simp
     | succ i=>simpa using h2 i x (by simpa using hx)
    ·cases e
   ·cases e
def runesOf:List D→Option (List Int)
 | []=>some []
 | .int .i32 n::r=>match runesOf r with
   | some l=>some (n::l)
   | none=>none
 | _::_=>none
theorem runesOf_spec:∀ {cs:List D} {xs:List Int},runesOf cs=some xs→xs.length=cs.length∧∀ (i:Nat) x,cs[i]? = some x→x=.int .i32 (xs.getD i 0)
 | [],xs,e=>by simp [runesOf] at e;subst e;simp
 | c::r,xs,e=>by
   unfold runesOf at e
   split at e
   ·rename_i he;cases he
   ·rename_i n r' he
    cases he
    split at e
    ·rename_i l hl
     cases e
     obtain ⟨h1,h2⟩:=runesOf_spec hl
     refine ⟨by simp [h1],fun i x hx=>?_⟩
     cases i with
     | zero=>simp at hx;subst hx;simp
     | succ i=>simpa using h2 i x (by simpa using hx)
    ·cases e
   ·cases e
def runesN (s:ByteArray):Nat→Nat→List Nat
 | 0,_=>[]
 | b+1,i=>if i<s.size then (Utf8.decode s i).1::runesN s b (i+(Utf8.decode s i).2) else []
def runesS (s:ByteArray):List Nat:=runesN s s.size 0
theorem runesFrom_eq (s:ByteArray):∀ (b i:Nat) (acc:Array Value),Conv.runesFrom s b i acc=acc++((runesN s b i).map fun (n:Nat)=>Value.int .i32 (n:Int)).toArray
 | 0,_,acc=>by simp [Conv.runesFrom,runesN]
 | b+1,i,acc=>by
   unfold Conv.runesFrom runesN
   split
   ·simp only
    rw [runesFrom_eq s b]
    apply Array.ext'
    simp
   ·simp
theorem runesS_eq (s:ByteArray):Conv.runesFrom s s.size 0 #[]=((runesS s).map fun (n:Nat)=>Value.int .i32 (n:Int)).toArray:=by rw [runesFrom_eq];simp [runesS]
theorem runesN_len (s:ByteArray):∀ (b i:Nat),(runesN s b i).length≤b
 | 0,_=>Nat.le_refl _
 | b+1,i=>by unfold runesN;split<;>simp;exact runesN_len s b _
def runesD (s:ByteArray):List D:=(runesS s).map fun (n:Nat)=>.int .i32 (n:Int)
def convK (P:Program) (H:List ABlk) (src dst:Nat) (x:AV) (k:Eff→Prop):Prop :=
 match x with
 | .d (.int _ n)=>match intT P dst with
   | some kk=>(tiOf P src).isSome=true∧k ⟨.d (.int kk (kk.wrap n)),[],[]⟩
   | none=>(intT P src).isSome=true∧isStrT P dst=true∧k ⟨.d (.str (Utf8.encode n)),[],[]⟩
 | .d (.str s)=>isStrT P src=true∧match isStrT P dst with
   | true=>k ⟨.d (.str s),[],[]⟩
   | false=>match sliceElem P dst with
     | some (e,_)=>match intT P e with
       | some .u8=>k ⟨.lsl H.length 1 0 s.size,[(H.length,.row false (s.data.toList.map fun b=>.int .u8 b.toNat))],[H.length]⟩
       | some .i32=>s.size≤70368744177664∧k ⟨.lsl H.length 1 0 (runesS s).length,[(H.length,.row false (runesD s))],[H.length]⟩
       | _=>False
     | none=>False
 | .d (.sl n _ cs)=>match sliceElem P src with
   | some (e,_)=>isStrT P dst=true∧cs.length=n∧match intT P e with
     | some .u8=>(match numsOf cs with
       | some l=>k ⟨.d (.str (strOfNums l)),[],[]⟩
       | none=>False)
     | some .i32=>(match runesOf cs with
       | some l=>k ⟨.d (.str (runesBytes l)),[],[]⟩
       | none=>False)
     | _=>False
   | none=>False
 | .lsl b _ off n=>match sliceElem P src with
   | some (e,_)=>isStrT P dst=true∧match H[b]? with
     | some (.row _ cs)=>(cut cs off n).length=n∧(match intT P e with
       | some .u8=>(match numsOf (cut cs off n) with
         | some l=>k ⟨.d (.str (strOfNums l)),[],[b]⟩
         | none=>False)
       | some .i32=>(match runesOf (cut cs off n) with
         | some l=>k ⟨.d (.str (runesBytes l)),[],[b]⟩
         | none=>False)
       | _=>False)
     | _=>False
   | none=>False
 | _=>False
def appsK (m:Bool) (P:Program) (H:List ABlk) (ts:Array TypeId) (s x:AV) (k:Eff→Prop):Prop :=
 match m with
 | false=>appendK P H ts s x k
 | true=>appendPK P H ts s x k
def YieldOK (P:Program) (l:Nat) (J:List (D × Bool)→Held→Place→World→Prop):Prop :=
 ∀ (x:D) (b:Bool) (rest:List (D × Bool)) (G:Globals) (h:Held) (ρ:Place) (H:Heap) (w:World) (v:Value),Sim G h ρ H w→H 0=some (.ext J ((x,b)::rest))→RD h v x →
  ∃ fn tmps assign body,(Instr.yield l #[v]).run P w=.ok (.round l fn tmps assign body) w ∧
   RoundIn (fR none) 0 P l fn tmps assign body w (fun e w'=>e=.returned (.bool b)∧∃ h',h.le h'∧Sim G h' ρ (updH H [(0,.ext J rest)]) w')
def yieldK (P:Program) (M:Muts) (f:AV) (xs:List AV) (H:List ABlk) (k:Eff→Prop):Prop :=
 M 3000000=true∧∃ l J d b rest Hr x,f=.fn (.yield l) [] []∧xs=[x]∧H=.ext J ((d,b)::rest)::Hr∧YieldOK P l J∧sealA H x=some d∧idsA x=[]∧k ⟨.d (.bool b),[(0,.ext J rest)],[0]⟩
theorem yieldK.by {P:Program} {M:Muts} {l:Nat} {J:List (D × Bool)→Held→Place→World→Prop} {d:D} {b:Bool} {rest:List (D × Bool)} {Hr:List ABlk} {x:AV} {k:Eff→Prop} (hM:M 3000000=true) (hJ:YieldOK P l J)
  (hs:sealA (.ext J ((d,b)::rest)::Hr) x=some d) (hi:idsA x=[]) (hk:k ⟨.d (.bool b),[(0,.ext J rest)],[0]⟩):yieldK P M (.fn (.yield l) [] []) [x] (.ext J ((d,b)::rest)::Hr) k :=
 ⟨hM,l,J,d,b,rest,Hr,x,rfl,rfl,rfl,hJ,hs,hi,hk⟩
def callsK (P:Program) (G:Globals) (M:Muts) (m:Bool) (ev:Operand→AV) (H:List ABlk) (c:Call) (k:Eff→Prop):Prop :=
 match c.callee with
 | .value fo=>match calleeA (ev fo) (c.args.toList.map ev) with
   | some (f,avs)=>callK P G M H f avs k
   | none=>yieldK P M (ev fo) (c.args.toList.map ev) H k
 | .builtin b=>match b,c.args.toList with
   | .append,[s,x]=>appsK m P H c.argTypes (ev s) (ev x) k
   | .len,[x]=>lenK P c.argTypes (ev x) k
   | .clear,[x]=>clearK P H c.argTypes (ev x) k
   | .max,_=>mmK true (c.args.toList.map ev) k
   | .min,_=>mmK false (c.args.toList.map ev) k
   | _,_=>False
 | _=>False
@[reducible] def markK (M:Muts):Option Nat→Bool
 | some t=>M (2000000+t)
 | none=>false
def sealK (H:List ABlk) (x:AV) (k:Eff→Prop):Prop :=
 match x with
 | .lsl b _ _ _=>match H[b]? with
   | some (.box cs)=>match sealR H cs with
     | some ds=>cs.all AV.one=true∧b∉idsL cs∧k ⟨x,frz H (idsL cs)++[(b,.row false ds)],b::idsL cs⟩
     | none=>False
   | _=>False
 | _=>False
def moveK (m:Bool) (H:List ABlk) (x:AV) (k:Eff→Prop):Prop :=
 match m with
 | false=>k ⟨x,[],[]⟩
 | true=>sealK H x k
def buildsK (m:Bool) (P:Program) (ev:Operand→AV) (H:List ABlk) (t len:Nat) (parts:Array (Nat × Operand)) (k:Eff→Prop):Prop :=
 match m with
 | false=>buildSliceK P ev H t len parts k
 | true=>buildBoxK P ev H t len parts k
def makesK (m:Bool) (P:Program) (H:List ABlk) (t:Nat) (l c:AV) (k:Eff→Prop):Prop :=
 match m with
 | false=>makeSliceK P H t l c k
 | true=>makeBoxK P H t l c k
def ifcT (P:Program) (t:Nat):Bool :=
 match P.underlying t with
 | some (.interface _)=>true
 | _=>false
def nilsK (op:BinOp) (x:AV) (k:Eff→Prop):Prop :=
 match op,x with
 | .eql,.d .nili=>k ⟨.d (.bool true),[],[]⟩
 | .eql,.d .ifc=>k ⟨.d (.bool false),[],[]⟩
 | .neq,.d .nili=>k ⟨.d (.bool false),[],[]⟩
 | .neq,.d .ifc=>k ⟨.d (.bool true),[],[]⟩
 | _,_=>False
def funT (P:Program) (t:Nat):Bool :=
 match P.underlying t with
 | some (.func ..)=>true
 | _=>false
def nilgK (op:BinOp) (x:AV) (k:Eff→Prop):Prop :=
 match op,x with
 | .eql,.d .nilf=>k ⟨.d (.bool true),[],[]⟩
 | .eql,.d (.fn _ _ _)=>k ⟨.d (.bool false),[],[]⟩
 | _,_=>False
def binN (P:Program) (op:BinOp) (t:Nat) (y:Operand) (a b:AV) (k:Eff→Prop):Prop :=
 match y with
 | .const .nilIface=>ifcT P t=true∧nilsK op a k
 | .const .nilFunc=>funT P t=true∧nilgK op a k
 | _=>binK P op t a b k
def opK (P:Program) (G:Globals) (M:Muts) (o:Oper) (ev:Operand→AV) (H:List ABlk) (k:Eff→Prop):Prop :=
 match o.op with
 | .move x=>moveK (markK M o.dst) H (ev x) k
 | .assign x=>k ⟨ev x,[],[]⟩
 | .pick c x y=>pickK (ev c) (ev x) (ev y) k
 | .alloc e=>allocsK (markK M o.dst) P H e k
 | .box _ x=>boxK H (ev x) k
 | .build t ps=>buildK P ev t ps k
 | .buildSlice t n ps=>buildsK (markK M o.dst) P ev H t n ps k
 | .load t a=>loadK P H t (ev a) k
 | .store t a x=>storeK P H t (ev a) (ev x) k
 | .nilCheck x=>nilCheckK (ev x) k
 | .binOp op t x y _=>binN P op t y (ev x) (ev y) k
 | .unOp op _ x=>unK op (ev x) k
 | .convert src dst x=>convK P H src dst (ev x) k
 | .makeFunc fn a b=>k ⟨.fn fn (a.toList.map ev) (b.toList.map ev),[],[]⟩
 | .makeSlice t l c=>makesK (markK M o.dst) P H t (ev l) (ev c) k
 | .slice t x lo hi mx=>slicesK (markK M o.dst) P H ev t (ev x) lo hi mx k
 | .fieldAddr t x f=>fieldAddrK P t (ev x) f k
 | .field t x f=>fieldK P t (ev x) f k
 | .indexAddr t x i=>indexAddrK P t (ev x) (ev i) k
 | .index t x i=>indexK P t (ev x) (ev i) k
 | .extract x i=>extractK (ev x) i k
 | .call c=>callsK P G M (markK M o.dst) ev H c k
 | .lookup t x i ok=>lookupK P H t (ev x) (ev i) ok k
 | .mapUpdate t x i v=>updateK P H t (ev x) (ev i) (ev v) k
 | .insert t x i v=>updateK P H t (ev x) (ev i) (ev v) k
 | .makeMap t none=>makeMapK P H t k
 | .range t x=>rangeK P H t (ev x) k
 | .next x str=>nextK H (ev x) str k
 | _=>False
section
variable {P:Program} {G:Globals} {M:Muts} {o:Oper} {ev:Operand→AV} {H:List ABlk}
theorem RD.int_val {h:Held} {v:Value} {k:IntKind} {n:Int} (r:RD h v (.int k n)):v=.int k n:=by cases r;rfl
theorem strOfNums_nil:strOfNums []=ByteArray.empty:=rfl
theorem run_bytes0 {w:World} {src dst e:Nat} (hs:P.underlying src=some (.slice e)) (he:P.underlying e=some (.int .u8)) (hd:P.underlying dst=some .string) (base:Option Addr) :
  (convert src dst (.slice base 0 0)).run P w=.ok (.string (strOfNums [])) w:=by
 rw [run_convert_bytes_string w src dst e base 0 0 hs he hd,strOfNums_nil]
 cases base with
 | none=>simp [Conv.bytesToString]
 | some b=>simp [Conv.bytesToString,loadCells,loadCellsFrom]
theorem run_runes0 {w:World} {src dst e:Nat} (hs:P.underlying src=some (.slice e)) (he:P.underlying e=some (.int .i32)) (hd:P.underlying dst=some .string) (base:Option Addr) :
  (convert src dst (.slice base 0 0)).run P w=.ok (.string (runesBytes [])) w:=by
 cases base with
 | none=>rw [run_convert_runes_nil w src dst e 0 0 hs he hd];rfl
 | some b=>rw [run_convert_runes w src dst e b 0 0 [] (Nat.le_refl _) hs he hd (fun j hj=>by simp at hj)];rfl
theorem conv_u8 {src dst e:Nat} {x:Operand} {s:ByteArray} {k:Eff→Prop} (ho:o.op=.convert src dst x) (mx:x∈o.op.operands.toList) (hx:ev x=.d (.str s)) (hus:P.underlying src=some .string) (hu:P.underlying dst=some (.slice e)) (he:P.underlying e=some (.int .u8))
  (hk:k ⟨.lsl H.length 1 0 s.size,[(H.length,.row false (s.data.toList.map fun b=>.int .u8 b.toNat))],[H.length]⟩):∃ e,OpSem P G o ev (hp H) e∧k e:=by
 refine ⟨_,OpSem.gen fun h ρ H' a w hs hops hr=>?_,hk⟩
 have e1:=(hx▸hops x mx).str_inv
 have hn:H' H.length=none:=by rw [hr _ (by simp)];simp [hp]
 have hrun:=run_bytes_of_string (P:=P) w src dst e s hus hu he
 have hge:=grownCap_ge w s.size 0 e
 have hsz:s.data.size=s.size:=rfl
 have hcs:(bytesRow s (grownCap w s.size 0 e)).size=grownCap w s.size 0 e:=by simp [bytesRow];omega
 generalize hC:bytesRow s (grownCap w s.size 0 e)=C at hrun hcs
 obtain ⟨s1,t1⟩:=hs.drew.alloc H.length hn (.cells C e (C.size,C.size+1)) C.size (.row false (s.data.toList.map fun b=>.int .u8 b.toNat))
  ⟨fun j x hx=>by
    simp only [List.getElem?_map] at hx
    cases hc:s.data.toList[j]? with
    | none=>simp [hc] at hx
    | some b=>simp [hc] at hx;subst hx;rfl,
   .inr ⟨w.heap.size,_,_,e,_,updP_same _ _ _,heap_alloc_new w.drew _,rfl,fun j hj h=>by simp at h;omega,by simp;omega,fun j x v hx hv=>by
    simp only [List.getElem?_map] at hx
    cases hc:s.data.toList[j]? with
    | none=>simp [hc] at hx
    | some b =>
     simp [hc] at hx;subst hx
     have hj:j<s.data.size:=by
      have:=(List.getElem?_eq_some_iff.1 hc).1
      simpa using this
     have hb:=bytesRow_at s (grownCap w s.size 0 e) j hj
     rw [hC,hv] at hb
     cases hb
     have:s.data[j]=b:=by
      have h2:=(List.getElem?_eq_some_iff.1 hc).2
      simpa using h2
     rw [this]
     exact .int _ _,(fun e=>by cases e),fun j _=>hs.held_none j⟩⟩
 refine ⟨_,_,h,_,?_,s1,.lsl H.length 1 0 s.size (grownCap w s.size 0 e) w.heap.size _ (updP_same _ _ _) hge (by omega),Step.drew.trans t1⟩
 simp [execOp,ho,e1,hrun]
theorem conv_i32 {src dst e:Nat} {x:Operand} {s:ByteArray} {k:Eff→Prop} (ho:o.op=.convert src dst x) (mx:x∈o.op.operands.toList) (hx:ev x=.d (.str s)) (hus:P.underlying src=some .string) (hu:P.underlying dst=some (.slice e)) (he:P.underlying e=some (.int .i32))
  (h46:s.size≤70368744177664) (hk:k ⟨.lsl H.length 1 0 (runesS s).length,[(H.length,.row false (runesD s))],[H.length]⟩):∃ e,OpSem P G o ev (hp H) e∧k e:=by
 refine ⟨_,OpSem.gen fun h ρ H' a w hs hops hr=>?_,hk⟩
 have e1:=(hx▸hops x mx).str_inv
 have hn:H' H.length=none:=by rw [hr _ (by simp)];simp [hp]
 have hlen:=runesN_len s s.size 0
 have hsz:(Conv.runesFrom s s.size 0 #[]).size=(runesS s).length:=by rw [runesS_eq];simp
 have hrun:=run_runes_of_string (P:=P) w src dst e s hus hu he (by rw [hsz];exact Nat.le_trans hlen h46)
 have hge:=grownCap_ge w (runesS s).length 0 e
 rw [hsz] at hrun
 generalize hC:Conv.runesFrom s s.size 0 #[]++Array.replicate (grownCap w (runesS s).length 0 e - (runesS s).length) (Value.int .i32 0)=C at hrun
 have hcs:C.size=grownCap w (runesS s).length 0 e:=by rw [← hC,Array.size_append,hsz];simp;omega
 have hat:∀ (j:Nat) (n:Nat),(runesS s)[j]? = some n→C[j]? = some (.int .i32 (n:Int)):=by
  intro j n hj
  have hl:=(List.getElem?_eq_some_iff.1 hj).1
  rw [← hC,Array.getElem?_append_left (by rw [hsz];exact hl),runesS_eq]
  simp [hj]
 obtain ⟨s1,t1⟩:=hs.drew.alloc H.length hn (.cells C e (0,0)) C.size (.row false (runesD s))
  ⟨fun j x hx=>by
    simp only [runesD,List.getElem?_map] at hx
    cases hc:(runesS s)[j]? with
    | none=>simp [hc] at hx
    | some b=>simp [hc] at hx;subst hx;rfl,
   .inr ⟨w.heap.size,_,_,e,_,updP_same _ _ _,heap_alloc_new w.drew _,rfl,fun j hj h=>by simp at h,by simp [runesD];omega,fun j x v hx hv=>by
    simp only [runesD,List.getElem?_map] at hx
    cases hc:(runesS s)[j]? with
    | none=>simp [hc] at hx
    | some b =>
     simp [hc] at hx;subst hx
     rw [hat j b hc] at hv
     cases hv
     exact .int _ _,(fun e=>by cases e),fun j _=>hs.held_none j⟩⟩
 refine ⟨_,_,h,_,?_,s1,.lsl H.length 1 0 (runesS s).length (grownCap w (runesS s).length 0 e) w.heap.size _ (updP_same _ _ _) hge (by omega),Step.drew.trans t1⟩
 simp [execOp,ho,e1,hrun]
theorem run_runes_arg {w:World} {src dst e:Nat} (hs:P.underlying src=some (.slice e)) (he:P.underlying e=some (.int .i32)) (hd:P.underlying dst=some .string) {g off n cap:Nat} {l:List Int} (hl:l.length=n)
  (hc:∀ i,i<n→w.cell? ⟨g,off+i,none⟩=some (.int .i32 (l.getD i 0))):(convert src dst (.slice (some ⟨g,off,none⟩) n cap)).run P w=.ok (.string (runesBytes l)) w:=by
 have:=run_convert_runes w src dst e ⟨g,off,none⟩ n cap l (by omega) hs he hd (fun j hj=>by
  have e:Addr.add ⟨g,off,none⟩ j=⟨g,off+j,none⟩:=by unfold Addr.add;split<;>simp_all
  rw [e];exact hc j (by omega))
 rwa [List.take_of_length_le (by omega)] at this
theorem conv_sl {src dst:Nat} {x:Operand} {n:Nat} {full:Bool} {cs:List D} {kd:IntKind} {l:List Int} {st:ByteArray} {k:Eff→Prop} (ho:o.op=.convert src dst x) (mx:x∈o.op.operands.toList) (hx:ev x=.d (.sl n full cs)) (hcs:cs.length=n) (hl:l.length=n)
  (q2:∀ (i:Nat) x,cs[i]? = some x→x=.int kd (l.getD i 0))
  (h0:l=[]→∀ (w:World) (base:Option Addr),(convert src dst (.slice base 0 0)).run P w=.ok (.string st) w)
  (h1:∀ (w:World) (g off cap:Nat),(∀ i,i<n→w.cell? ⟨g,off+i,none⟩=some (.int kd (l.getD i 0)))→(convert src dst (.slice (some ⟨g,off,none⟩) n cap)).run P w=.ok (.string st) w)
  (hk:k ⟨.d (.str st),[],[]⟩):∃ e,OpSem P G o ev (hp H) e∧k e:=by
 refine ⟨_,OpSem.val fun h ρ H' a w hs hops hr=>⟨.string st,?_,.d _ _ (.str _)⟩,hk⟩
 have hv:=hx▸hops x mx
 suffices (convert src dst (a.eval x)).run P w=.ok (.string st) w by simp [execOp,ho,this]
 generalize a.eval x=v at hv
 cases hv with
 | d v y hy =>
  cases hy with
  | sl0 base=>exact h0 (List.eq_nil_of_length_eq_zero hl) w base
  | sl g off n cap full cells vs hn hf hh hr' ho' =>
   refine h1 w g off cap fun i hi=>?_
   have hlt:i<cs.length:=by omega
   have g1:=List.getElem?_eq_getElem hlt
   have g2:=hs.prom _ _ _ (hh i _ g1)
   have g3:=hr' i _ g1
   rw [q2 i _ g1] at g3
   rw [g2,g3.int_val]
theorem conv_lsl {src dst:Nat} {x:Operand} {b sz off n:Nat} {fz:Bool} {cs:List D} {kd:IntKind} {l:List Int} {st:ByteArray} {k:Eff→Prop} (ho:o.op=.convert src dst x) (mx:x∈o.op.operands.toList) (hx:ev x=.lsl b sz off n) (hb:H[b]? = some (.row fz cs)) (k3:(cut cs off n).length=n) (hl:l.length=n)
  (q2:∀ (i:Nat) x,(cut cs off n)[i]? = some x→x=.int kd (l.getD i 0))
  (h0:l=[]→∀ (w:World) (base:Option Addr),(convert src dst (.slice base 0 0)).run P w=.ok (.string st) w)
  (h1:∀ (w:World) (g off cap:Nat),(∀ i,i<n→w.cell? ⟨g,off+i,none⟩=some (.int kd (l.getD i 0)))→(convert src dst (.slice (some ⟨g,off,none⟩) n cap)).run P w=.ok (.string st) w)
  (hk:k ⟨.d (.str st),[],[b]⟩):∃ e,OpSem P G o ev (hp H) e∧k e:=by
 refine ⟨_,OpSem.val fun h ρ H' a w hs hops hr=>⟨.string st,?_,.d _ _ (.str _)⟩,hk⟩
 have hv:=hx▸hops x mx
 suffices (convert src dst (a.eval x)).run P w=.ok (.string st) w by simp [execOp,ho,this]
 generalize a.eval x=v at hv
 cases hv with
 | lsl0 base b sz' off=>exact h0 (List.eq_nil_of_length_eq_zero hl) w base
 | lsl b sz' off n cap g S hρ hn hc =>
  obtain ⟨ho',hblk⟩:=hs.blk b (.row fz cs) (by rw [hr b (by simp)];exact hb)
  rcases hblk with ⟨b1,_⟩ | ⟨g',S',c,E,fr,b1,b2,b3,b4,b5,b6,b7,b8⟩
  ·rw [hρ] at b1;cases b1
  rw [hρ] at b1;cases b1
  refine h1 w g off cap fun i hi=>?_
  have hlt:i<(cut cs off n).length:=by omega
  have h1:=List.getElem?_eq_getElem hlt
  have h4:=(cut_get h1).2
  have hin:=(List.getElem?_eq_some_iff.1 h4).1
  have hcl:off+i<c.size:=by omega
  have h3:=b6 (off+i) _ _ h4 (Array.getElem?_eq_getElem hcl)
  rw [q2 i _ h1] at h3
  have h5:=h3.int_val
  simp [World.cell?,b2,Array.getElem?_eq_getElem hcl,h5]
theorem convK_ok {src dst:Nat} {x:Operand} {k:Eff→Prop} (ho:o.op=.convert src dst x) (hk:convK P H src dst (ev x) k):∃ e,OpSem P G o ev (hp H) e∧k e:=by
 have mx:x∈o.op.operands.toList:=by simp [Op.operands,ho]
 unfold convK at hk
 split at hk
 ·rename_i kk n hx
  split at hk
  ·rename_i kd hd
   have hu:=intT_spec hd
   obtain ⟨ti,hti⟩:=Option.isSome_iff_exists.1 hk.1
   obtain ⟨i,u,z,h1,h2,_⟩:=tiOf_spec hti
   refine ⟨_,OpSem.val fun h ρ H' a w hs hops hr=>⟨.int kd (kd.wrap n),?_,.d _ _ (.int _ _)⟩,hk.2⟩
   have e1:=(hx▸hops x mx).int_inv
   simp [execOp,ho,e1,convert,run_underlying h2,run_underlying hu,Conv.intToInt]
  ·obtain ⟨k1,k2,k3⟩:=hk
   obtain ⟨ks,hks⟩:=Option.isSome_iff_exists.1 k1
   have hu:=intT_spec hks
   have hd:=isStrT_spec k2
   refine ⟨_,OpSem.val fun h ρ H' a w hs hops hr=>⟨.string (Utf8.encode n),?_,.d _ _ (.str _)⟩,k3⟩
   have e1:=(hx▸hops x mx).int_inv
   simp [execOp,ho,e1,convert,run_underlying hu,run_underlying hd,Conv.intToString]
 ·rename_i s hx
  obtain ⟨k1,hk⟩:=hk
  have hus:=isStrT_spec k1
  split at hk
  ·rename_i k2
   have hud:=isStrT_spec k2
   refine ⟨_,OpSem.val fun h ρ H' a w hs hops hr=>⟨.string s,?_,.d _ _ (.str _)⟩,hk⟩
   have e1:=(hx▸hops x mx).str_inv
   simp [execOp,ho,e1,convert,run_underlying hus,run_underlying hud]
  ·split at hk
   ·rename_i e te hse
    split at hk
    ·rename_i k2
     have he:=intT_spec k2
     obtain ⟨hu,hte⟩:=sliceElem_spec hse
     exact conv_u8 ho mx hx hus hu he hk
    ·rename_i k2
     have he:=intT_spec k2
     obtain ⟨hu,hte⟩:=sliceElem_spec hse
     exact conv_i32 ho mx hx hus hu he hk.1 hk.2
    ·exact hk.elim
   ·exact hk.elim
 ·rename_i n full cs hx
  split at hk
  ·rename_i e te hse
   obtain ⟨k2,k3,hk⟩:=hk
   have hd:=isStrT_spec k2
   obtain ⟨hu,hte⟩:=sliceElem_spec hse
   split at hk
   ·rename_i k1
    have he:=intT_spec k1
    split at hk
    ·rename_i l hl
     obtain ⟨q1,q2⟩:=numsOf_spec hl
     exact conv_sl ho mx hx (by omega) (by omega) q2 (fun e w base=>by subst e;exact run_bytes0 hu he hd base) (fun w g off cap hc=>run_convert_bytes_arg w src e hu he g off n cap l (by omega) hc dst hd) hk
    ·exact hk.elim
   ·rename_i k1
    have he:=intT_spec k1
    split at hk
    ·rename_i l hl
     obtain ⟨q1,q2⟩:=runesOf_spec hl
     exact conv_sl ho mx hx (by omega) (by omega) q2 (fun e w base=>by subst e;exact run_runes0 hu he hd base) (fun w g off cap hc=>run_runes_arg hu he hd (by omega) hc) hk
    ·exact hk.elim
   ·exact hk.elim
  ·exact hk.elim
 ·rename_i b sz off n hx
  split at hk
  ·rename_i e te hse
   obtain ⟨k2,hk⟩:=hk
   have hd:=isStrT_spec k2
   obtain ⟨hu,hte⟩:=sliceElem_spec hse
   split at hk
   ·rename_i fz cs hb
    obtain ⟨k3,hk⟩:=hk
    split at hk
    ·rename_i k1
     have he:=intT_spec k1
     split at hk
     ·rename_i l hl
      obtain ⟨q1,q2⟩:=numsOf_spec hl
      exact conv_lsl ho mx hx hb k3 (by omega) q2 (fun e w base=>by subst e;exact run_bytes0 hu he hd base) (fun w g off cap hc=>run_convert_bytes_arg w src e hu he g off n cap l (by omega) hc dst hd) hk
     ·exact hk.elim
    ·rename_i k1
     have he:=intT_spec k1
     split at hk
     ·rename_i l hl
      obtain ⟨q1,q2⟩:=runesOf_spec hl
      exact conv_lsl ho mx hx hb k3 (by omega) q2 (fun e w base=>by subst e;exact run_runes0 hu he hd base) (fun w g off cap hc=>run_runes_arg hu he hd (by omega) hc) hk
     ·exact hk.elim
    ·exact hk.elim
   ·exact hk.elim
  ·exact hk.elim
 ·exact hk.elim
def OpSemY (y:Bool) (r:Option Nat) (P:Program) (G:Globals) (o:Oper) (ev:Operand→AV) (H:Heap) (e:Eff):Prop :=
 ∀ (h:Held) (ρ:Place) (H':Heap) (a:Act) (w:World),Sim G h ρ H' w→(∀ x,x∈o.op.operands.toList→R h ρ (a.eval x) (ev x))→(∀ b,b∈e.r→H' b=H b) →
  o.wpIn (fR r) 0 P a w (fun a' w'=>∃ v h' ρ',a'=a.put o.dst v∧Sim G h' ρ' (updH H' e.w) w'∧R h' ρ' v e.res∧StepY y h ρ w h' ρ' w') (fun _ _ _=>False)
theorem OpSem.y {y:Bool} {r:Option Nat} {e:Eff} {H:Heap} (hd:∀ c,o.op≠.defer c) (h:OpSem P G o ev H e):OpSemY y r P G o ev H e:=by
 intro hh ρ H' a w hs hx hb
 refine wpIn_of_wp hd (Oper.wp_mono (fun a' w'=>?_) (h hh ρ H' a w hs hx hb))
 rintro ⟨v,h',ρ',e1,t1,t2,t3⟩
 exact ⟨v,h',ρ',e1,t1,t2,t3.y⟩
theorem yieldK_ok {r:Option Nat} {fo:Operand} {xs:Array Operand} {ts:Array TypeId} {k:Eff→Prop} (ho:o.op=.call {callee:=.value fo,args:=xs,argTypes:=ts}) (hk:yieldK P M (ev fo) (xs.toList.map ev) H k) :
  ∃ e,OpSemY (M 3000000) r P G o ev (hp H) e∧k e:=by
 obtain ⟨hM,l,J,d,b,rest,Hr,x,e1,e2,rfl,hJ,hs,hi,hk⟩:=hk
 have memf:fo∈o.op.operands.toList:=by simp [Op.operands,Call.operands,ho]
 have memx:∀ x,x∈xs.toList→x∈o.op.operands.toList:=fun x hx=>by simp [Op.operands,Call.operands,ho];exact .inr (by simpa using hx)
 obtain ⟨xo,rfl,rfl⟩:∃ xo,xs=#[xo]∧ev xo=x:=by
  cases hl:xs.toList with
  | nil=>rw [hl] at e2;simp at e2
  | cons xo t =>
   rw [hl] at e2
   simp at e2
   obtain ⟨h1,h2⟩:=e2
   subst h2
   exact ⟨xo,by rw [← Array.toArray_toList (xs:=xs),hl],h1⟩
 refine ⟨_,?_,hk⟩
 intro h ρ H' a w hsim hops hag
 have hH0:H' 0=some (.ext J ((d,b)::rest)):=by rw [hag 0 (by simp)];rfl
 have hf:=hops fo memf
 rw [e1] at hf
 have hfv:a.eval fo=.func (.yield l) #[] #[]:=by
  generalize a.eval fo=v at hf
  cases hf with
  | fn f vs us first captured hl hl' =>
   have h1:vs=#[]:=by simpa using hl
   have h2:us=#[]:=by simpa using hl'
   rw [h1,h2]
 have hx:=hops xo (memx xo (by simp))
 have hd:=seal_ok hx hs (fun c hc=>by rw [hi] at hc;cases hc)
 obtain ⟨fn,tmps,assign,body,hy,hR⟩:=hJ d b rest G h ρ H' w _ hsim hH0 hd
 have hrun:(execOp a.eval o).run P w=.ok (.round l fn tmps assign body) w:=by
  simp only [execOp,ho,resolve,hfv]
  simpa [go_sem] using hy
 rw [hM]
 refine ⟨fun _ _=>trivial,?_⟩
 rw [Oper.semAt_eq _ _ _ (fun c=>by rw [ho];simp),hrun]
 refine ⟨fun h=>by simp [fR] at h,?_⟩
 refine RoundIn.mono (R:=fun e w'=>e=.returned (.bool b)∧∃ h',h.le h'∧Sim G h' ρ (updH H' [(0,.ext J rest)]) w') hR ?_
 rintro e w' ⟨rfl,h',q1,q2⟩
 exact ⟨.bool b,h',ρ,rfl,q2,.d _ _ (.bool b),q1,Place.le_refl _,fun e=>by cases e⟩
theorem callsK_ok {r:Option Nat} {m:Bool} {c:Call} {k:Eff→Prop} (ho:o.op=.call c) (hk:callsK P G M m ev H c k):∃ e,OpSemY (M 3000000) r P G o ev (hp H) e∧k e:=by
 have hd:∀ c,o.op≠.defer c:=fun c=>by rw [ho];simp
 have up:(∃ e,OpSem P G o ev (hp H) e∧k e)→∃ e,OpSemY (M 3000000) r P G o ev (hp H) e∧k e:=fun ⟨e,h1,h2⟩=>⟨e,h1.y hd,h2⟩
 obtain ⟨callee,args,ts⟩:=c
 unfold callsK at hk
 simp only at hk
 split at hk
 ·rename_i fo
  split at hk
  ·rename_i f avs hf
   exact up (callK_ok ho hf hk)
  ·exact yieldK_ok ho hk
 ·rename_i b
  refine up ?_
  split at hk
  ·rename_i s x hargs
   have:args=#[s,x]:=by rw [← Array.toArray_toList (xs:=args),hargs]
   subst this
   unfold appsK at hk
   split at hk
   ·exact appendK_ok ho hk
   ·exact appendPK_ok ho hk
  ·rename_i x hargs
   have:args=#[x]:=by rw [← Array.toArray_toList (xs:=args),hargs]
   subst this
   exact lenK_ok ho hk
  ·rename_i x hargs
   have:args=#[x]:=by rw [← Array.toArray_toList (xs:=args),hargs]
   subst this
   exact clearK_ok ho hk
  ·exact mmK_ok (greatest:=true) (by simpa using ho) hk
  ·exact mmK_ok (greatest:=false) (by simpa using ho) hk
  ·exact hk.elim
 ·exact hk.elim
theorem sealK_ok {x:Operand} {k:Eff→Prop} (ho:o.op=.move x) (hk:sealK H (ev x) k):∃ e,OpSem P G o ev (hp H) e∧k e:=by
 have mx:x∈o.op.operands.toList:=by simp [Op.operands,ho]
 unfold sealK at hk
 split at hk
 ·rename_i b sz off n hx
  split at hk
  ·rename_i cs hb
   split at hk
   ·rename_i ds hds
    obtain ⟨k1,k2,k3⟩:=hk
    refine ⟨_,?_,k3⟩
    intro h ρ H' a w hs hops hr
    have hv:=hops x mx
    obtain ⟨h',s1,t1,f1⟩:=freeze_ok H (idsL cs) h H' hs (fun y hy=>.inl (hr y (by simp [hy])))
    have hbb:updH H' (frz H (idsL cs)) b=some (.box cs):=by
     rw [updH_other _ _ b (fun q hq e=>k2 (e▸frz_mem hq)),hr b (by simp)]
     exact hb
    obtain ⟨g,S,c,E,fr,b1,b2,b3,b4,b5,b6,b7⟩:=s1.blk b _ hbb
    have hrl:RL h' ρ (c.extract 0 cs.length) cs:=⟨by simp;omega,fun j v y hv hy=>b6 j y v hy (by
     rw [Array.getElem?_extract] at hv
     split at hv
     ·simpa using hv
     ·cases hv)⟩
    have hds':=sealR_ok hrl hds f1
    have hlen:ds.length=cs.length:=by have:=hds'.1;have:=hrl.1;omega
    have s2:=s1.reblk b ⟨_,hbb,by simp⟩ (.row false ds) ⟨sealR_one hds k1,.inr ⟨g,S,c,E,fr,b1,b2,b3,b4,by omega,fun j y v hy hv=>by
     have hj:=(List.getElem?_eq_some_iff.1 hy).1
     refine hds'.2 j v y ?_ hy
     rw [Array.getElem?_extract,if_pos (by omega)]
     simpa using hv,(fun e=>by cases e),fun j _=>b7 j⟩⟩
    unfold Oper.wp
    rw [show (execOp a.eval o).run P w=.ok (.value (a.eval x)) w by simp [execOp,ho]]
    exact ⟨a.eval x,h',ρ,rfl,by rw [updH_append];exact s2,hv.mono t1.mono (Place.le_refl _),t1⟩
   ·exact hk.elim
  ·exact hk.elim
 ·exact hk.elim
theorem ifcT_of {t:Nat} (h:ifcT P t=true):∃ ms,P.underlying t=some (.interface ms):=by
 unfold ifcT at h
 split at h
 ·exact ⟨_,by assumption⟩
 ·cases h
theorem R.nili_inv {h:Held} {ρ:Place} {v:Value} (r:R h ρ v (.d .nili)):v=.nilIface:=by cases r with | d _ _ hd=>cases hd;rfl
theorem R.ifc_inv {h:Held} {ρ:Place} {v:Value} (r:R h ρ v (.d .ifc)):∃ t u,v=.iface t u:=by cases r with | d _ _ hd=>cases hd;exact ⟨_,_,rfl⟩
theorem run_ifcIn {t:Nat} {ms:Array (String × Nat)} (ht:P.underlying t=some (.interface ms)) (w:World) (d u:Nat) (v:Value):(Op.equalIn (d+1) t (.iface u v) .nilIface).run P w=.ok false w:=by
 simp [Op.equalIn,run_underlying ht]
theorem run_ifc {t:Nat} {ms:Array (String × Nat)} (ht:P.underlying t=some (.interface ms)) (w:World) (u:Nat) (v:Value):(Op.equal t (.iface u v) .nilIface).run P w=.ok false w:=run_ifcIn ht w 9999 u v
theorem run_niliIn {t:Nat} {ms:Array (String × Nat)} (ht:P.underlying t=some (.interface ms)) (w:World) (d:Nat):(Op.equalIn (d+1) t .nilIface .nilIface).run P w=.ok true w:=by
 simp [Op.equalIn,run_underlying ht]
theorem run_nili {t:Nat} {ms:Array (String × Nat)} (ht:P.underlying t=some (.interface ms)) (w:World):(Op.equal t .nilIface .nilIface).run P w=.ok true w:=run_niliIn ht w 9999
theorem funT_of {t:Nat} (h:funT P t=true):(∃ a b c,P.underlying t=some (.func a b c)):=by
 unfold funT at h
 split at h
 ·exact ⟨_,_,_,by assumption⟩
 ·cases h
theorem R.nilf_inv {h:Held} {ρ:Place} {v:Value} (r:R h ρ v (.d .nilf)):v=.nilFunc:=by cases r with | d _ _ hd=>cases hd;rfl
theorem R.fn_inv {h:Held} {ρ:Place} {v:Value} {f:Fn} {a b:List D} (r:R h ρ v (.d (.fn f a b))):∃ x y,v=.func f x y:=by cases r with | d _ _ hd=>cases hd;exact ⟨_,_,rfl⟩
theorem nilgK_ok {op:BinOp} {t yt:Nat} {x:Operand} {k:Eff→Prop} (ho:o.op=.binOp op t x (.const .nilFunc) yt) (ht:funT P t=true) (hk:nilgK op (ev x) k):∃ e,OpSem P G o ev (hp H) e∧k e:=by
 have mx:x∈o.op.operands.toList:=by simp [Op.operands,ho]
 obtain ⟨a0,b0,c0,ht⟩:=funT_of ht
 have fin:∀ b:Bool,(∀ (a:Act) (w:World) h ρ,R h ρ (a.eval x) (ev x)→(execOp a.eval o).run P w=.ok (.value (.bool b)) w)→OpSem P G o ev (hp H) ⟨.d (.bool b),[],[]⟩ :=
  fun b hb=>OpSem.val fun h ρ H' a' w hs hops hr=>⟨.bool b,hb _ _ _ _ (hops x mx),.d _ _ (.bool _)⟩
 have r1:∀ w,(Op.equal t .nilFunc .nilFunc).run P w=.ok true w:=fun w=>(fun d=>by simp [Op.equalIn,run_underlying ht]:∀ d,(Op.equalIn (d+1) t .nilFunc .nilFunc).run P w=.ok true w) 9999
 have r2:∀ w f x y,(Op.equal t (.func f x y) .nilFunc).run P w=.ok false w:=fun w f x y=>(fun d=>by simp [Op.equalIn,run_underlying ht]:∀ d,(Op.equalIn (d+1) t (.func f x y) .nilFunc).run P w=.ok false w) 9999
 unfold nilgK at hk
 split at hk
 ·rename_i hx
  refine ⟨_,fin true fun a w h ρ r=>?_,hk⟩
  rw [hx] at r
  have e4:a.eval (.const .nilFunc)=.nilFunc:=rfl
  simp [execOp,ho,r.nilf_inv,e4,eqGuard,binOp,r1]
 ·rename_i hx
  refine ⟨_,fin false fun a w h ρ r=>?_,hk⟩
  rw [hx] at r
  obtain ⟨u,v,e⟩:=r.fn_inv
  have e4:a.eval (.const .nilFunc)=.nilFunc:=rfl
  simp [execOp,ho,e,e4,eqGuard,binOp,r2]
 ·exact hk.elim
theorem nilsK_ok {op:BinOp} {t yt:Nat} {x:Operand} {k:Eff→Prop} (ho:o.op=.binOp op t x (.const .nilIface) yt) (ht:ifcT P t=true) (hk:nilsK op (ev x) k):∃ e,OpSem P G o ev (hp H) e∧k e:=by
 have mx:x∈o.op.operands.toList:=by simp [Op.operands,ho]
 obtain ⟨ms,ht⟩:=ifcT_of ht
 have fin:∀ b:Bool,(∀ (a:Act) (w:World) h ρ,R h ρ (a.eval x) (ev x)→(execOp a.eval o).run P w=.ok (.value (.bool b)) w)→OpSem P G o ev (hp H) ⟨.d (.bool b),[],[]⟩ :=
  fun b hb=>OpSem.val fun h ρ H' a' w hs hops hr=>⟨.bool b,hb _ _ _ _ (hops x mx),.d _ _ (.bool _)⟩
 unfold nilsK at hk
 split at hk
 ·rename_i hx
  refine ⟨_,fin true fun a w h ρ r=>?_,hk⟩
  rw [hx] at r
  have e4:a.eval (.const .nilIface)=.nilIface:=rfl
  have hv:=r.nili_inv
  generalize hg:a.eval x=v0 at hv
  subst hv
  simp [execOp,ho,hg,e4,eqGuard,binOp,run_nili ht]
 ·rename_i hx
  refine ⟨_,fin false fun a w h ρ r=>?_,hk⟩
  rw [hx] at r
  obtain ⟨u,v,e⟩:=r.ifc_inv
  have e4:a.eval (.const .nilIface)=.nilIface:=rfl
  simp [execOp,ho,e,e4,eqGuard,binOp,run_ifc ht]
 ·rename_i hx
  refine ⟨_,fin false fun a w h ρ r=>?_,hk⟩
  rw [hx] at r
  have e4:a.eval (.const .nilIface)=.nilIface:=rfl
  have hv:=r.nili_inv
  generalize hg:a.eval x=v0 at hv
  subst hv
  simp [execOp,ho,hg,e4,eqGuard,binOp,run_nili ht]
 ·rename_i hx
  refine ⟨_,fin true fun a w h ρ r=>?_,hk⟩
  rw [hx] at r
  obtain ⟨u,v,e⟩:=r.ifc_inv
  have e4:a.eval (.const .nilIface)=.nilIface:=rfl
  simp [execOp,ho,e,e4,eqGuard,binOp,run_ifc ht]
 ·exact hk.elim
theorem binN_ok {op:BinOp} {t yt:Nat} {x y:Operand} {k:Eff→Prop} (ho:o.op=.binOp op t x y yt) (hk:binN P op t y (ev x) (ev y) k):∃ e,OpSem P G o ev (hp H) e∧k e:=by
 unfold binN at hk
 split at hk
 ·exact nilsK_ok ho hk.1 hk.2
 ·exact nilgK_ok ho hk.1 hk.2
 ·exact binK_ok ho hk
theorem opK_ok {r:Option Nat} {k:Eff→Prop} (hk:opK P G M o ev H k):∃ e,OpSemY (M 3000000) r P G o ev (hp H) e∧k e:=by
 by_cases hc:∃ c,o.op=.call c
 ·obtain ⟨c,hc⟩:=hc
  unfold opK at hk
  rw [hc] at hk
  exact callsK_ok hc hk
 have hd:∀ c,o.op≠.defer c:=fun c e=>by unfold opK at hk;rw [e] at hk;exact hk
 refine (fun ⟨e,h1,h2⟩=>⟨e,OpSem.y hd h1,h2⟩:(∃ e,OpSem P G o ev (hp H) e∧k e)→_) ?_
 unfold opK at hk
 split at hk<;>rename_i ho
 ·unfold moveK at hk
  split at hk
  ·exact ⟨_,sem_move (.inl ho),hk⟩
  ·exact sealK_ok ho hk
 ·exact ⟨_,sem_move (.inr ho),hk⟩
 ·unfold pickK at hk
  split at hk
  ·rename_i b hc;exact ⟨_,sem_pick ho hc,hk⟩
  ·exact hk.elim
 ·unfold allocsK at hk
  split at hk
  ·unfold allocK at hk
   split at hk
   ·rename_i ti ht;exact ⟨_,sem_alloc ho ht,hk⟩
   ·exact hk.elim
  ·unfold allocMK at hk
   split at hk
   ·rename_i ti ht;exact ⟨_,sem_allocM ho ht hk.1,hk.2⟩
   ·exact hk.elim
 ·unfold boxK at hk
  split at hk
  ·rename_i cs hc;exact ⟨_,sem_box ho hc,hk⟩
  ·exact hk.elim
 ·exact buildK_ok ho hk
 ·unfold buildsK at hk
  split at hk
  ·exact buildSliceK_ok ho hk
  ·exact buildBoxK_ok ho hk
 ·exact loadK_ok ho hk
 ·exact storeK_ok ho hk
 ·exact nilCheckK_ok ho hk
 ·exact binN_ok ho hk
 ·exact unK_ok ho hk
 ·exact convK_ok ho hk
 ·exact ⟨_,sem_makeFunc ho,hk⟩
 ·unfold makesK at hk
  split at hk
  ·exact makeSliceK_ok ho hk
  ·exact makeBoxK_ok ho hk
 ·exact slicesK_ok ho hk
 ·exact fieldAddrK_ok ho hk
 ·exact fieldK_ok ho hk
 ·exact indexAddrK_ok ho hk
 ·exact indexK_ok ho hk
 ·exact extractK_ok ho hk
 ·exact absurd ⟨_,ho⟩ hc
 ·exact lookupK_ok ho hk
 ·exact updateK_ok (.inl ho) hk
 ·exact updateK_ok (.inr ho) hk
 ·exact makeMapK_ok ho hk
 ·exact rangeK_ok ho hk
 ·exact nextK_ok ho hk
 ·exact hk.elim
end
def applyW (H:List ABlk):List (Nat × ABlk)→List ABlk
 | []=>H
 | (i,b)::r=>applyW (if i<H.length then H.set i b else H++[b]) r
def wOK:Nat→List (Nat × ABlk)→Bool
 | _,[]=>true
 | n,(i,_)::r=>if i<n then wOK n r else i == n && wOK (n+1) r
theorem applyW_hp:∀ (w:List (Nat × ABlk)) (H:List ABlk),wOK H.length w=true→hp (applyW H w)=updH (hp H) w
 | [],H,_=>rfl
 | (i,b)::r,H,h=>by
   simp only [wOK] at h
   have step:hp (if i<H.length then H.set i b else H++[b])=fun j=>if j=i then some b else hp H j:=by
    funext j
    simp only [hp]
    by_cases hi:i<H.length
    ·simp only [hi,if_true]
     rw [List.getElem?_set]
     by_cases hj:j=i
     ·subst hj;simp [hi]
     ·simp [hj,Ne.symm hj]
    ·simp only [hi,if_false,Bool.and_eq_true,beq_iff_eq] at h
     simp only [hi,if_false]
     obtain ⟨rfl,_⟩:=h
     by_cases hj:j=H.length
     ·subst hj;simp
     ·simp only [hj,if_false]
      rw [List.getElem?_append]
      split
      ·rfl
      ·rename_i hlt
       rw [List.getElem?_eq_none (by simp;omega),List.getElem?_eq_none (by omega)]
   rw [applyW,updH,applyW_hp r _ (by
    by_cases hi:i<H.length
    ·simp only [hi,if_true] at h ⊢
     simpa using h
    ·simp only [hi,if_false,Bool.and_eq_true] at h ⊢
     simpa using h.2),step]
def guardSlot (ops:Array Oper) (j:Nat):Option Nat:=(ops[j]?).bind (·.dst)
def regK (P:Program) (G:Globals) (M:Muts) (ops:Array Oper):List Oper→List AV→List ABlk→List (List Nat × List Nat)→(List AV→List ABlk→List (List Nat × List Nat)→Prop)→Prop
 | [],s,H,tr,K=>K s H tr
 | o::rest,s,H,tr,K =>
  match o.guard with
  | none=>opK P G M o (evalA G s) H (fun e=>wOK H.length e.w=true∧regK P G M ops rest (putA s o.dst e.res) (applyW H e.w) (tr++[(e.r,e.w.map (·.1))]) K)
  | some (j,want)=>match guardSlot ops j with
    | some t=>match s.getD t .undef with
      | .d (.bool c) =>
       (c=want→opK P G M o (evalA G (s.set t (.d (.bool want)))) H (fun e=>wOK H.length e.w=true∧regK P G M ops rest (putA (s.set t (.d (.bool want))) o.dst e.res) (applyW H e.w) (tr++[(e.r,e.w.map (·.1))]) K)) ∧
       (c=(!want)→regK P G M ops rest (putA (s.set t (.d (.bool (!want)))) o.dst (.tup [])) H (tr++[([],[])]) K)
      | .tup []=>regK P G M ops rest (putA s o.dst (.tup [])) H (tr++[([],[])]) K
      | _=>False
    | none=>False
section
variable {y:Bool} {r:Option Nat} {P:Program} {G:Globals} {M:Muts} {ops:Array Oper}
theorem looks_eval {G:Globals} {ops:Array Oper} {o:Oper} {s s':List AV} (hag:∀ t,t∈o.looksAt ops→s'[t]? = s[t]?):∀ x,x∈o.op.operands.toList→evalA G s' x=evalA G s x:=by
 intro x hx
 cases x with
 | tmp t =>
  have:t∈o.looksAt ops:=List.mem_append_left _ (List.mem_filterMap.2 ⟨.tmp t,hx,rfl⟩)
  simp only [evalA,List.getD_eq_getElem?_getD,hag t this]
 | _=>rfl
theorem loc_of_sem {o:Oper} {s:List AV} {H:List ABlk} {e:Eff} (h:OpSemY y r P G o (evalA G s) (hp H) e)
  (hg:∀ (tmps:Array Value) (s':List AV) (h:Held) (ρ:Place),SR h ρ tmps s'→(∀ t,t∈o.looksAt ops→s'[t]? = s[t]?)→Region.wanted o (yielded ops tmps)=true):LocOp y r P G ops o s (hp H) e:=by
 intro hh ρ H' s' a w hs hr hag hb
 simp only [hg a.tmps s' hh ρ hr hag,if_true]
 exact h hh ρ H' a w hs (fun x hx=>by rw [← looks_eval hag x hx];exact evalA_ok hs hr x) hb
theorem guard_looks {o:Oper} {j t:Nat} {want:Bool} (hg:o.guard=some (j,want)) (ht:guardSlot ops j=some t):t∈o.looksAt ops:=by
 unfold Oper.looksAt
 refine List.mem_append_right _ ?_
 simp only [hg]
 unfold guardSlot at ht
 simp [ht]
theorem wanted_of {o:Oper} {j t:Nat} {want c:Bool} (hg:o.guard=some (j,want)) (ht:guardSlot ops j=some t) {tmps:Array Value} (hv:tmps[t]? = some (.bool c)):Region.wanted o (yielded ops tmps)=(c == want):=by
 unfold guardSlot at ht
 simp only [Region.wanted,hg,yielded,ht,Option.bind_some,hv]
 cases c<;>cases want<;>rfl
theorem slot_bool {h:Held} {ρ:Place} {tmps:Array Value} {s:List AV} {t:Nat} {c:Bool} (hr:SR h ρ tmps s) (hs:s[t]? = some (.d (.bool c))):tmps[t]? = some (.bool c):=by
 have hlt:t<tmps.size:=by have:=(List.getElem?_eq_some_iff.1 hs).1;have:=hr.1;omega
 have:=(hr.2 t _ _ (Array.getElem?_eq_getElem hlt) hs).bool_inv
 rw [Array.getElem?_eq_getElem hlt,this]
theorem regK_chain:∀ (todo:List Oper) (s:List AV) (H:List ABlk) (tr:List (List Nat × List Nat)) (K:List AV→List ABlk→List (List Nat × List Nat)→Prop),regK P G M ops todo s H tr K →
  ∃ es s' H',Chain (M 3000000) r P G ops todo s (hp H) es s' (hp H')∧K s' H' (tr++es.map fun e=>(e.r,e.w.map (·.1)))
 | [],s,H,tr,K,h=>⟨[],s,H,.nil _ _,by simpa [regK] using h⟩
 | o::rest,s,H,tr,K,h=>by
   simp only [regK] at h
   split at h
   ·rename_i hg
    obtain ⟨e,he,hw,hk⟩:=opK_ok h
    obtain ⟨es,s',H',c,hK⟩:=regK_chain rest _ _ _ K hk
    refine ⟨e::es,s',H',.cons (loc_of_sem he (fun tmps s' h ρ _ _=>by simp [Region.wanted,hg])) (by rw [← applyW_hp e.w H hw];exact c),by simpa using hK⟩
   ·rename_i j want hg
    split at h
    ·rename_i t ht
     split at h
     ·rename_i c hc
      have hst:s[t]? = some (.d (.bool c)):=by
       rw [List.getD_eq_getElem?_getD] at hc
       cases hh:s[t]? with
       | none=>simp [hh] at hc
       | some y=>simp [hh] at hc;rw [hc]
      have hself:s.set t (.d (.bool c))=s:=by
       apply List.ext_getElem?
       intro i
       rw [List.getElem?_set]
       split
       ·rename_i e;subst e
        have:=(List.getElem?_eq_some_iff.1 hst).1
        rw [if_pos this,hst]
       ·rfl
      by_cases hcw:c=want
      ·subst hcw
       have h1:=h.1 rfl
       rw [hself] at h1
       obtain ⟨e,he,hw,hk⟩:=opK_ok h1
       obtain ⟨es,s',H',ch,hK⟩:=regK_chain rest _ _ _ K hk
       refine ⟨e::es,s',H',.cons (loc_of_sem he (fun tmps s' h ρ hr hag=>?_)) (by rw [← applyW_hp e.w H hw];exact ch),by simpa using hK⟩
       have:=slot_bool hr ((hag t (guard_looks hg ht)).trans hst)
       rw [wanted_of hg ht this]
       simp
      ·have hcn:c=!want:=by cases c<;>cases want<;>simp_all
       have h2:=h.2 hcn
       rw [← hcn,hself] at h2
       obtain ⟨es,s',H',ch,hK⟩:=regK_chain rest _ _ _ K h2
       refine ⟨⟨.tup [],[],[]⟩::es,s',H',.cons ?_ ch,by simpa using hK⟩
       intro hh ρ H' s' a w hs hr hag hb
       have:=slot_bool hr ((hag t (guard_looks hg ht)).trans hst)
       have hw:Region.wanted o (yielded ops a.tmps)=false:=by
        rw [wanted_of hg ht this]
        simpa using hcw
       simp only [hw,Bool.false_eq_true,if_false]
       exact ⟨undef,hh,ρ,rfl,hs,.tup #[] [] rfl (by simp),(Step.refl _ _ _).y⟩
     ·rename_i hc
      obtain ⟨es,s',H',ch,hK⟩:=regK_chain rest _ _ _ K h
      refine ⟨⟨.tup [],[],[]⟩::es,s',H',.cons ?_ ch,by simpa using hK⟩
      intro hh ρ H' s' a w hs hr hag hb
      have hst:s[t]? = some (.tup []):=by
       rw [List.getD_eq_getElem?_getD] at hc
       cases hh:s[t]? with
       | none=>simp [hh] at hc
       | some y=>simp [hh] at hc;rw [hc]
      have hst':=(hag t (guard_looks hg ht)).trans hst
      have hlt:t<a.tmps.size:=by have:=(List.getElem?_eq_some_iff.1 hst').1;have:=hr.1;omega
      have hv:∃ vs,a.tmps[t]=.tuple vs:=by
       have:=hr.2 t _ _ (Array.getElem?_eq_getElem hlt) hst'
       generalize a.tmps[t]=v at this
       cases this with
       | tup vs _ _ _=>exact ⟨vs,rfl⟩
      obtain ⟨vs,hv⟩:=hv
      have hw:Region.wanted o (yielded ops a.tmps)=false:=by
       unfold guardSlot at ht
       simp [Region.wanted,hg,yielded,ht,Array.getElem?_eq_getElem hlt,hv]
      simp only [hw,Bool.false_eq_true,if_false]
      exact ⟨undef,hh,ρ,rfl,hs,.tup #[] [] rfl (by simp),(Step.refl _ _ _).y⟩
     ·exact h.elim
    ·exact h.elim
def regionK (P:Program) (G:Globals) (M:Muts) (ops:Array Oper) (draw:Bool) (s:List AV) (H:List ABlk) (K:List AV→List ABlk→Prop):Prop :=
 regK P G M ops ops.toList s H [] (fun s H tr=>(draw=true→drawOK ops tr=true)∧K s H)
theorem region_ok {id:Nat} {draw:Bool} {s:List AV} {H:List ABlk} {K:List AV→List ABlk→Prop} (hk:regionK P G M ops draw s H K) (hm:P.follows .mixedOrders=true)
  {h0:Held} {ρ0:Place} {w0:World} {Q:Exit→Act→World→Prop} {a:Act} {w:World} (ha:At (M 3000000) r G h0 ρ0 w0 s (hp H) a w)
  (hq:∀ s' H',K s' H'→∀ a w,At (M 3000000) r G h0 ρ0 w0 s' (hp H') a w→Q .normal a w):(Code.region id ops draw).wpIn (fR r) 0 P Q a w:=by
 obtain ⟨es,s',H',c,hd,hK⟩:=regK_chain _ _ _ _ _ hk
 cases draw with
 | false =>
  refine wpIn_region ?_
  have:=chain_seq (Q:=Q) c 0 a w (fun j=>by simp) ha (hq s' H' hK)
  simpa using this
 | true =>
  refine wpIn_region_any hm ?_
  have hn:∀ (n j:Nat),(Array.replicate n false).getD j false=false:=by
   intro n j
   simp only [Array.getD_eq_getD_getElem?,Array.getElem?_replicate]
   split<;>rfl
  refine any_order c (by simpa using hd rfl) (hq s' H' hK) ops.size (Array.replicate ops.size false) a _ (by simp) (fun k hk=>by rw [hn] at hk;cases hk) ?_ ?_
  ·rw [List.countP_eq_length.2 (fun j _=>by rw [hn];rfl)]
   simp
  ·rw [stS_none _ _ _ _ (fun j _=>hn _ j)]
   obtain ⟨h,ρ,t1,t2,t4⟩:=ha
   exact ⟨h,ρ,t1.drew,t2,t4.go Step.drew.y⟩
end
end Go.Abs
namespace Go.Abs
open Go
mutual
def AWeak (fl:List (Option Nat)):AV→AV→Prop
 | _,.undef=>True
 | x,.lsl k sz off n=>match fl[k]? with
   | some (some j)=>x=.lsl j sz off n
   | some none=>x=.d (.sl 0 true [])∧off=0∧n=0
   | none=>False
 | x,.ptr k off=>match fl[k]? with
   | some (some j)=>x=.ptr j off
   | _=>False
 | x,.mp k=>match fl[k]? with
   | some (some j)=>x=.mp j
   | _=>False
 | x,.d d=>x=.d d∨∃ n cs,d=.sl n false cs∧x=.d (.sl n true cs)
 | x,.rptr off cs=>x=.rptr off cs
 | x,.agg cs=>match x with | .agg xs=>SWeak fl xs cs | _=>False
 | x,.tup cs=>match x with | .tup xs=>SWeak fl xs cs | _=>False
 | x,.fn f a b=>match x with | .fn g c d=>g=f∧SWeak fl c a∧SWeak fl d b | _=>False
def SWeak (fl:List (Option Nat)):List AV→List AV→Prop
 | [],[]=>True
 | x::r,y::r2=>AWeak fl x y∧SWeak fl r r2
 | _,_=>False
end
theorem SWeak_get {fl:List (Option Nat)}:∀ {s s2:List AV},SWeak fl s s2→s.length=s2.length∧∀ (i:Nat) x y,s[i]? = some x→s2[i]? = some y→AWeak fl x y
 | [],[],_=>by simp
 | x::r,y::r2,h=>by
   simp only [SWeak] at h
   have ih:=SWeak_get h.2
   refine ⟨by simp [ih.1],fun i u v hu hv=>?_⟩
   cases i with
   | zero=>simp at hu hv;subst hu;subst hv;exact h.1
   | succ i=>simp at hu hv;exact ih.2 i u v hu hv
 | [],_::_,h=>by simp [SWeak] at h
 | _::_,[],h=>by simp [SWeak] at h
def plN (fl:List (Option Nat)) (ρ:Place):Place:=fun k=>match fl[k]? with | some (some j)=>ρ j | _=>none
theorem weakR {h:Held} {ρ:Place} {fl:List (Option Nat)} {v:Value} {x:AV} (r:R h ρ v x):∀ {y:AV},AWeak fl x y→R h (plN fl ρ) v y:=by
 have pl:∀ {k j:Nat},fl[k]? = some (some j)→plN fl ρ k=ρ j:=fun e=>by simp [plN,e]
 induction r with
 | d v d hx =>
  intro y hy
  cases y with
  | d e =>
   simp only [AWeak] at hy
   rcases hy with hy | ⟨n,cs,rfl,hy⟩
   ·cases hy;exact .d _ _ hx
   ·cases hy;exact .d _ _ hx.unf
  | undef=>exact .undef _
  | lsl k sz off n =>
   simp only [AWeak] at hy
   split at hy
   ·cases hy
   ·obtain ⟨e,rfl,rfl⟩:=hy
    cases e
    cases hx with
    | sl0 base=>exact .lsl0 _ _ _ _
    | sl g off n cap full cells vs hn hf=>have:=hf rfl;subst this;exact .lsl0 _ _ _ _
   ·exact hy.elim
  | ptr=>simp only [AWeak] at hy;split at hy;cases hy;exact hy.elim
  | mp=>simp only [AWeak] at hy;split at hy;cases hy;exact hy.elim
  | rptr=>simp [AWeak] at hy
  | agg=>simp [AWeak] at hy
  | tup=>simp [AWeak] at hy
  | fn=>simp [AWeak] at hy
 | lsl0 base b sz off =>
  intro y hy
  cases y with
  | undef=>exact .undef _
  | lsl k sz off n =>
   simp only [AWeak] at hy
   split at hy
   ·cases hy;exact .lsl0 _ _ _ _
   ·obtain ⟨e,_⟩:=hy;cases e
   ·exact hy.elim
  | d=>simp [AWeak] at hy
  | ptr=>simp only [AWeak] at hy;split at hy;cases hy;exact hy.elim
  | mp=>simp only [AWeak] at hy;split at hy;cases hy;exact hy.elim
  | rptr=>simp [AWeak] at hy
  | agg=>simp [AWeak] at hy
  | tup=>simp [AWeak] at hy
  | fn=>simp [AWeak] at hy
 | lsl b sz off n cap g S hρ hn hc =>
  intro y hy
  cases y with
  | undef=>exact .undef _
  | lsl k sz off n =>
   simp only [AWeak] at hy
   split at hy
   ·rename_i j hj;cases hy;exact .lsl _ _ _ _ cap g S ((pl hj).trans hρ) hn hc
   ·obtain ⟨e,_⟩:=hy;cases e
   ·exact hy.elim
  | d=>simp [AWeak] at hy
  | ptr=>simp only [AWeak] at hy;split at hy;cases hy;exact hy.elim
  | mp=>simp only [AWeak] at hy;split at hy;cases hy;exact hy.elim
  | rptr=>simp [AWeak] at hy
  | agg=>simp [AWeak] at hy
  | tup=>simp [AWeak] at hy
  | fn=>simp [AWeak] at hy
 | ptr b off g S hρ =>
  intro y hy
  cases y with
  | undef=>exact .undef _
  | ptr k off=>simp only [AWeak] at hy;split at hy;rename_i j hj;cases hy;exact .ptr _ _ g S ((pl hj).trans hρ);exact hy.elim
  | lsl=>simp only [AWeak] at hy;split at hy;cases hy;obtain ⟨e,_⟩:=hy;cases e;exact hy.elim
  | mp=>simp only [AWeak] at hy;split at hy;cases hy;exact hy.elim
  | d=>simp [AWeak] at hy
  | rptr=>simp [AWeak] at hy
  | agg=>simp [AWeak] at hy
  | tup=>simp [AWeak] at hy
  | fn=>simp [AWeak] at hy
 | mp b g S hρ =>
  intro y hy
  cases y with
  | undef=>exact .undef _
  | mp k=>simp only [AWeak] at hy;split at hy;rename_i j hj;cases hy;exact .mp _ g S ((pl hj).trans hρ);exact hy.elim
  | lsl=>simp only [AWeak] at hy;split at hy;cases hy;obtain ⟨e,_⟩:=hy;cases e;exact hy.elim
  | ptr=>simp only [AWeak] at hy;split at hy;cases hy;exact hy.elim
  | d=>simp [AWeak] at hy
  | rptr=>simp [AWeak] at hy
  | agg=>simp [AWeak] at hy
  | tup=>simp [AWeak] at hy
  | fn=>simp [AWeak] at hy
 | rptr g base off cells vs h1 h2 =>
  intro y hy
  cases y with
  | undef=>exact .undef _
  | rptr o c=>simp only [AWeak] at hy;cases hy;exact .rptr g base off cells vs h1 h2
  | lsl=>simp only [AWeak] at hy;split at hy;cases hy;obtain ⟨e,_⟩:=hy;cases e;exact hy.elim
  | ptr=>simp only [AWeak] at hy;split at hy;cases hy;exact hy.elim
  | mp=>simp only [AWeak] at hy;split at hy;cases hy;exact hy.elim
  | d=>simp [AWeak] at hy
  | agg=>simp [AWeak] at hy
  | tup=>simp [AWeak] at hy
  | fn=>simp [AWeak] at hy
 | agg vs cells hl _ ih =>
  intro y hy
  cases y with
  | undef=>exact .undef _
  | agg cs =>
   simp only [AWeak] at hy
   have hg:=SWeak_get hy
   refine .agg vs cs (by omega) (fun i v z hv hz=>?_)
   have hi:i<cells.length:=by have:=(List.getElem?_eq_some_iff.1 hz).1;omega
   have hx:=List.getElem?_eq_getElem hi
   exact ih i v _ hv hx (hg.2 i _ z hx hz)
  | lsl=>simp only [AWeak] at hy;split at hy;cases hy;obtain ⟨e,_⟩:=hy;cases e;exact hy.elim
  | ptr=>simp only [AWeak] at hy;split at hy;cases hy;exact hy.elim
  | mp=>simp only [AWeak] at hy;split at hy;cases hy;exact hy.elim
  | d=>simp [AWeak] at hy
  | rptr=>simp [AWeak] at hy
  | tup=>simp [AWeak] at hy
  | fn=>simp [AWeak] at hy
 | tup vs cells hl _ ih =>
  intro y hy
  cases y with
  | undef=>exact .undef _
  | tup cs =>
   simp only [AWeak] at hy
   have hg:=SWeak_get hy
   refine .tup vs cs (by omega) (fun i v z hv hz=>?_)
   have hi:i<cells.length:=by have:=(List.getElem?_eq_some_iff.1 hz).1;omega
   have hx:=List.getElem?_eq_getElem hi
   exact ih i v _ hv hx (hg.2 i _ z hx hz)
  | lsl=>simp only [AWeak] at hy;split at hy;cases hy;obtain ⟨e,_⟩:=hy;cases e;exact hy.elim
  | ptr=>simp only [AWeak] at hy;split at hy;cases hy;exact hy.elim
  | mp=>simp only [AWeak] at hy;split at hy;cases hy;exact hy.elim
  | d=>simp [AWeak] at hy
  | rptr=>simp [AWeak] at hy
  | agg=>simp [AWeak] at hy
  | fn=>simp [AWeak] at hy
 | fn f vs us a b hl hl' _ _ ih ih' =>
  intro y hy
  cases y with
  | undef=>exact .undef _
  | fn g a2 b2 =>
   simp only [AWeak] at hy
   obtain ⟨rfl,ha,hb⟩:=hy
   have hg:=SWeak_get ha
   have hg':=SWeak_get hb
   refine .fn f vs us a2 b2 (by omega) (by omega) (fun i v z hv hz=>?_) (fun i v z hv hz=>?_)
   ·have hi:i<a.length:=by have:=(List.getElem?_eq_some_iff.1 hz).1;omega
    have hx:=List.getElem?_eq_getElem hi
    exact ih i v _ hv hx (hg.2 i _ z hx hz)
   ·have hi:i<b.length:=by have:=(List.getElem?_eq_some_iff.1 hz).1;omega
    have hx:=List.getElem?_eq_getElem hi
    exact ih' i v _ hv hx (hg'.2 i _ z hx hz)
  | lsl=>simp only [AWeak] at hy;split at hy;cases hy;obtain ⟨e,_⟩:=hy;cases e;exact hy.elim
  | ptr=>simp only [AWeak] at hy;split at hy;cases hy;exact hy.elim
  | mp=>simp only [AWeak] at hy;split at hy;cases hy;exact hy.elim
  | d=>simp [AWeak] at hy
  | rptr=>simp [AWeak] at hy
  | agg=>simp [AWeak] at hy
  | tup=>simp [AWeak] at hy
 | undef v =>
  intro y hy
  cases y with
  | undef=>exact .undef _
  | lsl=>simp only [AWeak] at hy;split at hy;cases hy;obtain ⟨e,_⟩:=hy;cases e;exact hy.elim
  | ptr=>simp only [AWeak] at hy;split at hy;cases hy;exact hy.elim
  | mp=>simp only [AWeak] at hy;split at hy;cases hy;exact hy.elim
  | d=>simp [AWeak] at hy
  | rptr=>simp [AWeak] at hy
  | agg=>simp [AWeak] at hy
  | tup=>simp [AWeak] at hy
  | fn=>simp [AWeak] at hy
def BWeak (fl:List (Option Nat)):ABlk→ABlk→Prop
 | _,.dead=>True
 | b,.row fz cells=>match b with | .row fz' cells'=>cells'=cells∧(fz'=true→fz=true) | _=>False
 | b,.box cells=>match b with | .box cs=>SWeak fl cs cells | _=>False
 | b,.map l=>b=.map l
 | b,.iter s pos=>b=.iter s pos
 | b,.bld T used n k=>match k with
   | none=>b=.bld T used n none
   | some k=>match fl[k]? with
     | some (some j)=>b=.bld T used n (some j)
     | some none=>n=0∧b=.bld T used 0 none
     | none=>False
 | b,.buf e l=>b=.buf e l
 | b,.ext J t=>b=.ext J t∧fl[0]? = some (some 0)
def HWeak (fl:List (Option Nat)) (H:List ABlk):List (Option Nat)→List ABlk→Prop
 | [],[]=>True
 | some j::r,b2::r2=>(match H[j]? with | some b=>BWeak fl b b2 | none=>False)∧HWeak fl H r r2
 | none::r,b2::r2=>(b2=.row false []∨∃ e,b2=.buf e [])∧HWeak fl H r r2
 | _,_=>False
theorem HWeak_get {fl:List (Option Nat)} {H:List ABlk}:∀ {l:List (Option Nat)} {H2:List ABlk},HWeak fl H l H2→l.length=H2.length ∧
  ∀ (k:Nat) b2,H2[k]? = some b2→(∃ j b,l[k]? = some (some j)∧H[j]? = some b∧BWeak fl b b2)∨(l[k]? = some none∧(b2=.row false []∨∃ e,b2=.buf e []))
 | [],[],_=>by simp
 | some j::r,b2::r2,h=>by
   simp only [HWeak] at h
   have ih:=HWeak_get h.2
   refine ⟨by simp [ih.1],fun k b hb=>?_⟩
   cases k with
   | zero =>
    simp at hb;subst hb
    have h1:=h.1
    split at h1
    ·rename_i c hc;exact .inl ⟨j,c,rfl,hc,h1⟩
    ·exact h1.elim
   | succ k=>simp at hb;simpa using ih.2 k b hb
 | none::r,b2::r2,h=>by
   simp only [HWeak] at h
   have ih:=HWeak_get h.2
   refine ⟨by simp [ih.1],fun k b hb=>?_⟩
   cases k with
   | zero=>simp at hb;subst hb;exact .inr ⟨rfl,h.1⟩
   | succ k=>simp at hb;simpa using ih.2 k b hb
 | [],_::_,h=>by simp [HWeak] at h
 | some _::_,[],h=>by simp [HWeak] at h
 | none::_,[],h=>by simp [HWeak] at h
def Weak (p:Nat) (s:List AV) (H:List ABlk) (s2:List AV) (H2:List ABlk):Prop :=
 ∃ fl:List (Option Nat),fl.take p=(List.range p).map some∧(fl.filterMap id).Nodup∧SWeak fl s s2∧HWeak fl H fl H2
def frzIds:List (Option Nat)→List ABlk→List Nat
 | some j::r,.row true _::r2=>j::frzIds r r2
 | _::r,_::r2=>frzIds r r2
 | _,_=>[]
theorem frzIds_spec:∀ {l:List (Option Nat)} {H2:List ABlk} {j:Nat},j∈frzIds l H2↔∃ (k:Nat) (cells:List D),l[k]? = some (some j)∧H2[k]? = some (ABlk.row true cells)
 | [],H2,j=>by simp [frzIds]
 | x::r,[],j=>by simp [frzIds]
 | x::r,b::r2,j=>by
   have ih:=frzIds_spec (l:=r) (H2:=r2) (j:=j)
   have other:(∀ c,¬ (x=some j∧b=.row true c))→((∃ (k:Nat) (cells:List D),(x::r)[k]? = some (some j)∧(b::r2)[k]? = some (ABlk.row true cells))↔∃ (k:Nat) (cells:List D),r[k]? = some (some j)∧r2[k]? = some (ABlk.row true cells)):=by
    intro hno
    constructor
    ·rintro ⟨k,c,h1,h2⟩
     cases k with
     | zero=>simp at h1 h2;exact absurd ⟨h1,h2⟩ (hno c)
     | succ k=>exact ⟨k,c,by simpa using h1,by simpa using h2⟩
    ·rintro ⟨k,c,h1,h2⟩
     exact ⟨k+1,c,by simpa using h1,by simpa using h2⟩
   unfold frzIds
   split
   ·rename_i i r' cs r2' e1 e2
    cases e1;cases e2
    by_cases hij:j=i
    ·subst hij
     simp
     exact ⟨0,rfl,cs,rfl⟩
    ·rw [other (fun c ⟨e1,_⟩=>hij (Option.some.inj e1).symm),List.mem_cons]
     simp [hij,ih]
   ·rename_i y r' c r2' hno e1 e2
    cases e1;cases e2
    rw [other (fun c' ⟨e1,e2⟩=>hno j c' e1 e2),ih]
   ·rename_i h1 h2
    exact absurd rfl (h2 x r b r2 rfl)
theorem weak_core {fl:List (Option Nat)} {s s2:List AV} {H H2:List ABlk} (f2:(fl.filterMap id).Nodup) (f3:SWeak fl s s2) (f4:HWeak fl H fl H2) {G:Globals} {h:Held} {ρ:Place} {w:World} {tmps:Array Value}
  (q1:Sim G h ρ (hp H) w) (q2:SR h ρ tmps s):∃ h1,Step h ρ w h1 ρ w∧Sim G h1 ρ (updH (hp H) (frz H (frzIds fl H2))) w∧Sim G h1 (plN fl ρ) (hp H2) w∧SR h1 (plN fl ρ) tmps s2:=by
 obtain ⟨g1,g2⟩:=HWeak_get f4
 obtain ⟨h1,s1,t1,_⟩:=freeze_ok H (frzIds fl H2) h (hp H) q1 (fun b _=>.inl rfl)
 have uniq:∀ {k k' j:Nat},fl[k]? = some (some j)→fl[k']? = some (some j)→k=k':=by
  intro k k' j e1 e2
  have hp:=List.pairwise_filterMap.1 f2
  have hpw:=List.pairwise_iff_getElem.1 hp
  obtain ⟨l1,m1⟩:=List.getElem?_eq_some_iff.1 e1
  obtain ⟨l2,m2⟩:=List.getElem?_eq_some_iff.1 e2
  rcases Nat.lt_trichotomy k k' with hlt | hlt | hlt
  ·exact absurd rfl (hpw k k' l1 l2 hlt j (by simp [m1]) j (by simp [m2]))
  ·exact hlt
  ·exact absurd rfl (hpw k' k l2 l1 hlt j (by simp [m2]) j (by simp [m1]))
 have pl:∀ {k j:Nat},fl[k]? = some (some j)→plN fl ρ k=ρ j:=fun e=>by simp [plN,e]
 have pl':∀ {k:Nat} {x:Nat × Nat},plN fl ρ k=some x→∃ j,fl[k]? = some (some j)∧ρ j=some x:=by
  intro k x e
  simp only [plN] at e
  split at e
  ·rename_i j hj;exact ⟨j,hj,e⟩
  ·cases e
 have hblk:∀ k b2,H2[k]? = some b2→BlkR h1 (plN fl ρ) w k b2∧(b2≠.dead→∀ j,fl[k]? = some (some j)→live (updH (hp H) (frz H (frzIds fl H2))) j):=by
  intro k b2 hb2
  rcases g2 k b2 hb2 with ⟨j,b,e1,e2,e3⟩ | ⟨e1,rfl | ⟨e,rfl⟩⟩
  ·have hj2:∀ {j'},fl[k]? = some (some j')→j'=j:=fun e=>by rw [e1] at e;cases e;rfl
   cases b2 with
   | dead=>exact ⟨trivial,fun hn=>absurd rfl hn⟩
   | row fz cells =>
    simp only [BWeak] at e3
    split at e3
    ·rename_i fz' cells'
     obtain ⟨rfl,hfz⟩:=e3
     have hj:updH (hp H) (frz H (frzIds fl H2)) j=some (.row fz cells'):=by
      by_cases hjm:j∈frzIds fl H2
      ·obtain ⟨k',c',u1,u2⟩:=frzIds_spec.1 hjm
       have:=uniq u1 e1
       subst this
       rw [hb2] at u2;cases u2
       have:∀ (ids:List Nat) (Hx:Heap),(Hx j=some (.row fz' cells')∨Hx j=some (.row true cells'))→j∈ids→updH Hx (frz H ids) j=some (.row true cells'):=by
        intro ids
        induction ids with
        | nil=>intro _ _ hm;cases hm
        | cons i r ih =>
         intro Hx hx hm
         by_cases hmr:j∈r
         ·simp only [frz]
          split
          ·rename_i cc hcc
           rw [updH]
           refine ih _ ?_ hmr
           by_cases hji:j=i
           ·subst hji
            rw [e2] at hcc;cases hcc
            exact .inr (by simp)
           ·simpa [hji] using hx
          ·exact ih _ hx hmr
         ·have hji:j=i:=by rcases List.mem_cons.1 hm with e | e;exact e;exact absurd e hmr
          subst hji
          simp only [frz]
          split
          ·rename_i cc hcc
           rw [e2] at hcc;cases hcc
           rw [updH,updH_other _ _ j (fun q hq e=>hmr (e▸frz_mem hq))]
           simp
          ·rename_i hno
           rw [updH_other _ _ j (fun q hq e=>hmr (e▸frz_mem hq))]
           cases fz' with
           | true=>rcases hx with hx | hx<;>exact hx
           | false=>exact absurd e2 (hno cells')
       exact this _ (hp H) (.inl e2) hjm
      ·have hfz2:fz=false:=by
        cases fz with
        | false=>rfl
        | true=>exact absurd (frzIds_spec.2 ⟨k,cells',e1,hb2⟩) hjm
       subst hfz2
       have hfz':fz'=false:=by cases fz' with | false=>rfl | true=>exact absurd (hfz rfl) (by simp)
       subst hfz'
       rw [updH_other _ _ j (fun q hq e=>hjm (e▸frz_mem hq))]
       exact e2
     have hB:=s1.blk j _ hj
     refine ⟨?_,fun _ j' hj'=>by rw [hj2 hj'];exact ⟨_,hj,by simp⟩⟩
     obtain ⟨b0,b1⟩:=hB
     refine ⟨b0,?_⟩
     rw [pl e1]
     exact b1
    ·exact e3.elim
   | box cells =>
    simp only [BWeak] at e3
    split at e3
    ·rename_i cs
     have hjn:∀ q,q∈frz H (frzIds fl H2)→q.1≠j:=by
      intro q hq e
      have:=frz_mem hq
      rw [e] at this
      obtain ⟨k',c',u1,u2⟩:=frzIds_spec.1 this
      have:=uniq u1 e1
      subst this
      rw [hb2] at u2;cases u2
     have hj:updH (hp H) (frz H (frzIds fl H2)) j=some (.box cs):=by rw [updH_other _ _ j hjn];exact e2
     obtain ⟨g,S,c,E,fr,b1,b2,b3,b4,b5,b6,b7⟩:=s1.blk j _ hj
     have hg:=SWeak_get e3
     refine ⟨⟨g,S,c,E,fr,(pl e1).trans b1,b2,b3,b4,by omega,fun i y v hy hv=>?_,b7⟩,fun _ j' hj'=>by rw [hj2 hj'];exact ⟨_,hj,by simp⟩⟩
     have hi:i<cs.length:=by have:=(List.getElem?_eq_some_iff.1 hy).1;omega
     have hx:=List.getElem?_eq_getElem hi
     exact weakR (b6 i _ v hx hv) (hg.2 i _ y hx hy)
    ·exact e3.elim
   | bld T used n k =>
    have hjn:∀ q,q∈frz H (frzIds fl H2)→q.1≠j:=by
     intro q hq e
     have:=frz_mem hq
     rw [e] at this
     obtain ⟨k',c',u1,u2⟩:=frzIds_spec.1 this
     have:=uniq u1 e1
     subst this
     rw [hb2] at u2;cases u2
    cases k with
    | none =>
     simp only [BWeak] at e3
     subst e3
     have hj:updH (hp H) (frz H (frzIds fl H2)) j=some (.bld T used n none):=by rw [updH_other _ _ j hjn];exact e2
     obtain ⟨g,S,v,b1,b2,b3,b4⟩:=s1.blk j _ hj
     exact ⟨⟨g,S,v,(pl e1).trans b1,b2,b3,b4⟩,fun _ j' hj'=>by rw [hj2 hj'];exact ⟨_,hj,by simp⟩⟩
    | some k =>
     simp only [BWeak] at e3
     split at e3
     ·rename_i jj hjj
      subst e3
      have hj:updH (hp H) (frz H (frzIds fl H2)) j=some (.bld T used n (some jj)):=by rw [updH_other _ _ j hjn];exact e2
      obtain ⟨g,S,v,b1,b2,b3,b4⟩:=s1.blk j _ hj
      rcases b3 with b3 | ⟨g2,cap,x1,x2,x3⟩
      ·exact ⟨⟨g,S,v,(pl e1).trans b1,b2,.inl b3,b4⟩,fun _ j' hj'=>by rw [hj2 hj'];exact ⟨_,hj,by simp⟩⟩
      ·exact ⟨⟨g,S,v,(pl e1).trans b1,b2,.inr ⟨g2,cap,x1,(pl hjj).trans x2,x3⟩,b4⟩,fun _ j' hj'=>by rw [hj2 hj'];exact ⟨_,hj,by simp⟩⟩
     ·obtain ⟨rfl,rfl⟩:=e3
      have hj:updH (hp H) (frz H (frzIds fl H2)) j=some (.bld T used 0 none):=by rw [updH_other _ _ j hjn];exact e2
      obtain ⟨g,S,v,b1,b2,b3,b4⟩:=s1.blk j _ hj
      exact ⟨⟨g,S,v,(pl e1).trans b1,b2,.inl b3,b4⟩,fun _ j' hj'=>by rw [hj2 hj'];exact ⟨_,hj,by simp⟩⟩
     ·exact e3.elim
   | buf e l =>
    simp only [BWeak] at e3
    subst e3
    have hjn:∀ q,q∈frz H (frzIds fl H2)→q.1≠j:=by
     intro q hq e
     have:=frz_mem hq
     rw [e] at this
     obtain ⟨k',c',u1,u2⟩:=frzIds_spec.1 this
     have:=uniq u1 e1
     subst this
     rw [hb2] at u2;cases u2
    have hj:updH (hp H) (frz H (frzIds fl H2)) j=some (.buf e l):=by rw [updH_other _ _ j hjn];exact e2
    refine ⟨?_,fun _ j' hj'=>by rw [hj2 hj'];exact ⟨_,hj,by simp⟩⟩
    rcases s1.blk j _ hj with ⟨b1,b2⟩ | ⟨g,S,c,b1,b2⟩
    ·exact .inl ⟨(pl e1).trans b1,b2⟩
    ·exact .inr ⟨g,S,c,(pl e1).trans b1,b2⟩
   | map l =>
    simp only [BWeak] at e3
    subst e3
    have hjn:∀ q,q∈frz H (frzIds fl H2)→q.1≠j:=by
     intro q hq e
     have:=frz_mem hq
     rw [e] at this
     obtain ⟨k',c',u1,u2⟩:=frzIds_spec.1 this
     have:=uniq u1 e1
     subst this
     rw [hb2] at u2;cases u2
    have hj:updH (hp H) (frz H (frzIds fl H2)) j=some (.map l):=by rw [updH_other _ _ j hjn];exact e2
    obtain ⟨g,S,es,clock,b1,b2⟩:=s1.blk j _ hj
    exact ⟨⟨g,S,es,clock,(pl e1).trans b1,b2⟩,fun _ j' hj'=>by rw [hj2 hj'];exact ⟨_,hj,by simp⟩⟩
   | iter st pos =>
    simp only [BWeak] at e3
    subst e3
    have hjn:∀ q,q∈frz H (frzIds fl H2)→q.1≠j:=by
     intro q hq e
     have:=frz_mem hq
     rw [e] at this
     obtain ⟨k',c',u1,u2⟩:=frzIds_spec.1 this
     have:=uniq u1 e1
     subst this
     rw [hb2] at u2;cases u2
    have hj:updH (hp H) (frz H (frzIds fl H2)) j=some (.iter st pos):=by rw [updH_other _ _ j hjn];exact e2
    obtain ⟨g,S,b1,b2⟩:=s1.blk j _ hj
    exact ⟨⟨g,S,(pl e1).trans b1,b2⟩,fun _ j' hj'=>by rw [hj2 hj'];exact ⟨_,hj,by simp⟩⟩
   | ext J td =>
    simp only [BWeak] at e3
    obtain ⟨e3,hf0⟩:=e3
    subst e3
    have hjn:∀ q,q∈frz H (frzIds fl H2)→q.1≠j:=by
     intro q hq e
     have:=frz_mem hq
     rw [e] at this
     obtain ⟨k',c',u1,u2⟩:=frzIds_spec.1 this
     have:=uniq u1 e1
     subst this
     rw [hb2] at u2;cases u2
    have hj:updH (hp H) (frz H (frzIds fl H2)) j=some (.ext J td):=by rw [updH_other _ _ j hjn];exact e2
    obtain ⟨b1,b2,b3⟩:=s1.blk j _ hj
    subst b1
    refine ⟨⟨uniq e1 hf0,b2,b2 _ _ _ _ _ _ _ b3 ⟨rfl,rfl,rfl,Nat.le_refl _,fun _ _ _=>rfl,Held.le_refl _,fun _ _ _ _=>rfl,fun i g S e=>?_⟩ s1.prom⟩,fun _ j' hj'=>by rw [hj2 hj'];exact ⟨_,hj,by simp⟩⟩
    obtain ⟨j',_,hρ⟩:=pl' e
    exact .inl ⟨j',S,hρ⟩
  ·refine ⟨⟨by simp,.inl ⟨by simp [plN,e1],rfl⟩⟩,fun _ j hj=>by rw [e1] at hj;cases hj⟩
  ·refine ⟨.inl ⟨by simp [plN,e1],rfl⟩,fun _ j hj=>by rw [e1] at hj;cases hj⟩
 refine ⟨h1,t1,s1,⟨s1.prom,s1.glob,fun k b2 hb2=>(hblk k b2 hb2).1,?_,?_⟩,?_⟩
 ·intro k g S e
  obtain ⟨j,hj,hρ⟩:=pl' e
  refine ⟨(s1.dom j g S hρ).1,?_⟩
  have:k<H2.length:=by rw [← g1];exact (List.getElem?_eq_some_iff.1 hj).1
  exact ⟨_,List.getElem?_eq_getElem this⟩
 ·intro i k g S S' e1 e2 l1 l2
  obtain ⟨j,hj,hρ⟩:=pl' e1
  obtain ⟨j',hj',hρ'⟩:=pl' e2
  obtain ⟨b,hb,hbn⟩:=l1
  obtain ⟨b',hb',hbn'⟩:=l2
  have:=s1.inj j j' g S S' hρ hρ' ((hblk i b hb).2 hbn j hj) ((hblk k b' hb').2 hbn' j' hj')
  subst this
  exact uniq hj hj'
 ·have hg:=SWeak_get f3
  have q2':=q2.mono t1.mono (Place.le_refl _)
  refine ⟨by have:=q2'.1;omega,fun t v y hv hy=>?_⟩
  have ht:t<s.length:=by have:=(List.getElem?_eq_some_iff.1 hy).1;omega
  have hx:=List.getElem?_eq_getElem ht
  exact weakR (q2'.2 t v _ hv hx) (hg.2 t _ y hx hy)
theorem plN_some {fl:List (Option Nat)} {ρ:Place} {k:Nat} {x:Nat × Nat} (e:plN fl ρ k=some x):∃ j,fl[k]? = some (some j)∧ρ j=some x:=by
 simp only [plN] at e
 split at e
 ·rename_i j hj;exact ⟨j,hj,e⟩
 ·cases e
theorem Weak_ok {p:Nat} {s s2:List AV} {H H2:List ABlk} (hw:Weak p s H s2 H2) {y:Bool} {r:Option Nat} {G:Globals} {h0:Held} {ρ0:Place} {w0:World} (hp0:y=false→∀ i x,ρ0 i=some x→i<p)
  {a:Act} {w:World} (ha:At y r G h0 ρ0 w0 s (hp H) a w):At y r G h0 ρ0 w0 s2 (hp H2) a w:=by
 obtain ⟨fl,f1,f2,f3,f4⟩:=hw
 obtain ⟨h,ρ,q1,q2,q4⟩:=ha
 obtain ⟨h1,t1,s1,s2',r2⟩:=weak_core f2 f3 f4 q1 q2
 have q5:=q4.go t1.y
 refine ⟨h1,plN fl ρ,s2',r2,q5.pl ?_ ?_⟩
 ·intro hy i x e
  have hi:=hp0 hy i x e
  have hfi:fl[i]? = some (some i):=by
   have h1:(fl.take p)[i]? = some (some i):=by
    rw [f1,List.getElem?_map,List.getElem?_range hi]
    rfl
   rw [List.getElem?_take,if_pos hi] at h1
   exact h1
  have:plN fl ρ i=ρ i:=by simp [plN,hfi]
  rw [this]
  exact (q5.step hy).rmono i x e
 ·intro k x e
  obtain ⟨j,hj,hρ⟩:=plN_some e
  exact ⟨j,hρ⟩
end Go.Abs
