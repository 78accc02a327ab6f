/-
  The abstract machine, part 20: code, and the contract of a function from its body.
-/
import Derived.Test.YtmidaophnbdcdaaGreatDoorLa2
import Derived.Laws.BitsAllLaws
import Derived.Laws.Cover3
import Derived.Below
import Derived.Laws.RangeAny
import Derived.ProofKit
import Derived.OpenShut
import Derived.Lib.LaidU8
import Derived.Deep.DeepHandedRow
import Derived.Deep.DeepWitnessRowRef
import Derived.SliceStrings
import Derived.Deep.Slices
import Derived.Lib.SmallJoins
set_option linter.all false
open List renaming getElem?_eq_some_iff->AaZ,getElem?_eq_getElem->Aa0,getElem?_append_left->Ac7,getElem?_map->Ada,getElem?_append_right->Adf,mem_of_getElem?->Adi,replicate->Adk,getD_eq_getElem?_getD->Adl,mem_cons_of_mem->Adm,mem_map_of_mem->Adn,all_eq_true->Adp,getElem?_eq_none->AeI,getElem?_set->AeJ,range->AeK,contains_eq_mem->AeL,getElem?_zipIdx->AeQ,getElem?_zip_eq_some->AeT,map_congr_left->Ae6,mem_filterMap->Ae7,map_map->Afc,range_succ_eq_map->Afh,nodup_cons->Afi,nodup_nil->Afk,getElem?_set_ne->Afl,getElem?_range->Afm,mem_cons->Afn,pairwise_cons->Afo,findIdx?_cons->Afp,getElem?_take->Afr,nodup_range->Aft,mem_range->Afv,map_take->Afw,map_drop->Afx,mem_map->AfA,map_set->AfB
open Array renaming getElem?_eq_some_iff->Adj,getElem?_extract->Adq,getElem?_eq_getElem->AeU
open Nat renaming le_refl->Ado,lt_of_lt_of_le->Aet,add_sub_cancel_left->Ae8,lt_or_ge->Aff,le_trans->Afg,eq_of_beq_eq_true->Afj,eq_zero_or_pos->Afq,zero_add->Afs,zero_le->Afu,zero_mod->AfC,add_zero->AfD
open Bool renaming and_eq_true->AeR,not_eq_true'->Afe,true_and->Afz
open Int renaming fdiv_eq_ediv_of_nonneg->Afd
open Function renaming comp->Afy
open Or renaming inr->AfE
namespace Go.Abs
open Go
abbrev AC:=Exit->List AV->List Ae->Prop
def LI (K:List AV->List Ae->Prop) (Q:AC):AC
 | .normal,s,H=>K s H
 | e,s,H=>Q e s H
def CX (id:Nat) (Q:AC):AC
 | .exit i,s,H=>if i=id then Q .normal s H else Q (.exit i) s H
 | e,s,H=>Q e s H
def AaD (Q:AC):AC
 | .goto _,_,_=>False
 | e,s,H=>Q e s H
def Dg:List AV->List AV->Prop
 | [],[]=>True
 | x::r,y::r2=>(y=.undef\/x=y)/\Dg r r2
 | _,_=>False
def AaL (s:List AV) (H:List Ae) (s1:List AV) (H1:List Ae):Prop :=
 ∃ i v d,s[i]?=some v/\sealA H v=some d/\wOK H.length (frz H (A3 v))=true/\s1=s.set i (.d (unf d))/\H1=applyW H (frz H (A3 v))
def Acq (bx:Bool) (b:Nat) (H H1:List Ae):Prop :=
 ∃ cs ds,H[b]?=some (.box cs)/\sealL H cs=some ds/\cs.all AV.one=true/\b∉idsL cs/\wOK H.length (frz H (idsL cs)++[(b,if bx then .box (ds.map .d) else .row false ds)])=true /\
  H1=applyW H (frz H (idsL cs)++[(b,if bx then .box (ds.map .d) else .row false ds)])
def AaN (b:Nat) (H H1:List Ae):Prop :=
 ∃ pre cs post ds,H[b]?=some (.box (pre++(cs++post)))/\sealL H cs=some ds/\b∉idsL cs/\wOK H.length (frz H (idsL cs)++[(b,.box (pre++(ds.map .d++post)))])=true /\
  H1=applyW H (frz H (idsL cs)++[(b,.box (pre++(ds.map .d++post)))])
def Acp (s:List AV) (H:List Ae) (s1:List AV) (H1:List Ae):Prop:=AaL s H s1 H1\/(s1=s/\∃ b,AaN b H H1)
def Aco (b:Bool) (p:Nat) (s:List AV) (H:List Ae) (s2:List AV) (H2:List Ae):Prop :=
 match b with
 | false=>DB p s H s2 H2
 | true=>(H2=H/\Dg s s2)\/∃ s1,Acp s H s1 H2/\Dg s1 s2
def UX (b:Bool) (p n:Nat) (I:Nat->List AV->List Ae->Prop) (s':List AV) (H':List Ae):Prop:=∃ m s2 H2,m<n/\Aco b p s' H' s2 H2/\I m s2 H2
inductive Fe (p:Nat):List AV->List Ae->List AV->List Ae->Prop
 | weak {s s2:List AV} {H H2:List Ae} (h:DB p s H s2 H2):Fe p s H s2 H2
 | shut {s:List AV} {H H1:List Ae} {bx:Bool} {b:Nat} (h:Acq bx b H H1):Fe p s H s H1
 | mid {s:List AV} {H H1:List Ae} {b:Nat} (h:AaN b H H1):Fe p s H s H1
 | slots {s s2:List AV} {H:List Ae} (h:Dg s s2):Fe p s H s2 H
 | slot {s s1:List AV} {H H1:List Ae} (h:AaL s H s1 H1):Fe p s H s1 H1
 | trans {s s1 s2:List AV} {H H1 H2:List Ae} (h:Fe p s H s1 H1) (h2:Fe p s1 H1 s2 H2):Fe p s H s2 H2
def Acu (p:Nat) (B:AC->List AV->List Ae->Prop) (Q:AC) (s:List AV) (H:List Ae):Prop :=
 ∃ (b:Bool) (Q':AC) (I:Nat->List AV->List Ae->Prop),(∀ e s H,Q' e s H->Q e s H\/∃ s2 H2,Fe p s H s2 H2/\Q e s2 H2)/\(∃ n s2 H2,Fe p s H s2 H2/\I n s2 H2)/\∀ n s H,I n s H->B (LI (UX b p n I) Q') s H
def CtrY (P:Program) (G:Ah) (f:FuncId) (args:List AV) (H H':List Ae):Prop :=
 Ao P f=true/\∀ (h:Aj) (ρ:Place) (w:World) (vs:Array Value),Sim G h ρ (hp H) w->RL h ρ vs args ->
  Calls P f vs w (fun e w'=>∃ v h' ρ',e=.returned v/\Sim G h' ρ' (hp H') w')
def Tdo:List D->List (D × Bool)->Prop
 | [],[]=>True
 | x::r,(z,true)::t=>z=x/\Tdo r t
 | x::_,(z,false)::t=>z=x/\t=[]
 | _,_=>False
def okT:List (D × Bool)->Prop
 | []=>True
 | (_,true)::t=>okT t
 | (_,false)::t=>t=[]
def Tdo.ok:∀ {xs:List D} {t:List (D × Bool)},Tdo xs t->okT t
 | [],[],_=>trivial
 | [],_::_,h=>by simp[Tdo] at h
 | _::_,[],h=>by simp[Tdo] at h
 | _::r,(_,true)::t,h=>Tdo.ok (xs:=r) (t:=t) h.2
 | _::_,(_,false)::_,h=>h.2
def OV (P:Program) (G:Ah) (g:FuncId) (caps:List AV) (HI:List Ae) (xs:List D):Prop :=
 ∀ (l:Nat) (J:List (D × Bool)->Aj->Place->World->Prop) (todo:List (D × Bool)),KW P l J->Tdo xs todo->CtrY P G g (.fn (.yield l) [] []::caps) (.ext J todo::HI) [.ext J []]
def Ud:AV->Option (FuncId × List AV)
 | .fn (.func g) [] caps=>some (g,caps)
 | .d (.fn (.func g) [] caps)=>some (g,caps.map .d)
 | _=>none
def DH:List Ae->Bool
 | .ext _ _::_=>false
 | _=>true
def UV (s2:List AV) (K:List Ae->Prop) (H:List Ae):Prop :=
 ∃ (fl:List (Option Nat)) (H2:List Ae),(fl.filterMap id).Nodup/\CK fl s2 s2/\Bm fl H fl H2/\K H2
def AaQ (b:Bool) (s2:List AV) (It:List Ae->Prop) (Ix:Code->List Ae->Prop):AC
 | .normal,_,H=>b=true/\UV s2 It H
 | .ret,_,H=>b=false/\UV s2 (Ix .ret) H
 | .exit i,_,H=>b=false/\UV s2 (Ix (.exit i)) H
 | _,_,_=>False
def JmpQ (Q:AC):Code->List AV->List Ae->Prop
 | .ret,s,H=>Q .ret s H
 | .exit i,s,H=>Q (.exit i) s H
 | _,_,_=>False
def AaW (H2:List Ae) (B:List AV->List Ae->Prop):AC
 | .normal,s,H=>H=H2/\B s H
 | _,_,_=>False
def deads (n:Nat):List Ae:=Adk n .dead
def swF (a b:Nat) (i:Nat):Nat:=if i=b then a else i
def Ia (a b:Nat) (H:List Ae):List Ae:=((H.set a ((H[b]?).getD .dead)).set b .dead).map (renB (swF a b))
def XV:List (Nat × Nat)->List Ae->List Ae
 | [],H=>H
 | (a,b)::r,H=>XV r (Ia a b H)
def XU:List (Nat × Nat)->List AV->List AV
 | [],s=>s
 | (a,b)::r,s=>XU r (renL (swF a b) s)
def Pin (s:List AV) (k:Nat):Prop:=∃ t off:Nat,s[t]?=some (AV.ptr k off)
def Ab7 (n:Nat) (fl:List (Option Nat)) (s2:List AV) (pins:List (Nat × Nat)):Prop :=
 (pins.map (·.1)).Nodup/\∀ q,q∈pins->∃ k,q.2=n+k/\q.1<n/\fl[k]?=some (some q.1)/\Pin s2 k
def Wg (P:Program) (G:Ah) (A B:Nat->AC->List AV->List Ae->Prop) (g:AV) (ps:Array Tmp) (Q:AC) (s:List AV) (H:List Ae):Prop :=
 ∃ gf caps caps' HI xs todo pt,Ud g=some (gf,caps)/\ps=#[pt]/\passL H (passIds false H caps) caps=some caps'/\passBs H (passIds false H caps) (passIds false H caps)=some HI /\
  sidsL H (passIds false H caps) caps=[]/\sidsBs H (passIds false H caps) (passIds false H caps)=[]/\OV P G gf (renL (·+1) caps') (HI.map (renB (·+1))) xs/\Tdo xs todo /\
 ∃ (fl:List (Option Nat)) (s2:List AV) (H20:List Ae) (I:List (D × Bool)->List Ae->Prop) (Ix:Code->List Ae->Prop) (pins:List (Nat × Nat)),
  Ab7 H.length fl s2 pins/\(fl.filterMap id).Nodup/\(∀ j,j∈fl.filterMap id->j∉passIds false H caps/\BP (hp H) j)/\CK fl s s2/\Bm fl H fl H20/\I todo H20 /\
  (∀ t H2,I t H2->H2.length=fl.length/\DH H2=true)/\(∀ c H2,Ix c H2->DH H2=true) /\
  (∀ x b t H2,I ((x,b)::t) H2->A fl.length (AaW H2 (B fl.length (AaQ b s2 (I t) Ix))) (s2.set pt (.d x)) H2) /\
  (∀ H2,I [] H2->Q .normal (XU pins (renL (H.length+·) s2)) (XV pins (deads H.length++H2.map (renB (H.length+·))))) /\
  (∀ c H2,Ix c H2->JmpQ Q c (XU pins (renL (H.length+·) s2)) (XV pins (deads H.length++H2.map (renB (H.length+·)))))
def Fd (P:Program) (G:Ah) (M:Ci):Nat->Code->AC->List AV->List Ae->Prop
 | _,.skip,Q,s,H=>Q .normal s H
 | _,.region _ ops draw,Q,s,H=>R6 P G M ops draw s H (fun s H=>Q .normal s H)
 | p,.seq a b,Q,s,H=>Fd P G M p a (LI (Fd P G M p b Q) Q) s H
 | p,.cond c a b,Q,s,H=>match evalA G s c with
   | .d (.bool t)=>(t=true->Fd P G M p a Q s H)/\(t=false->Fd P G M p b Q s H)
   | _=>False
 | p,.block id c,Q,s,H=>Fd P G M p c (CX id Q) s H
 | p,.loop c,Q,s,H=>Acu p (Fd P G M p c) Q s H
 | _,.exit id,Q,s,H=>Q (.exit id) s H
 | p,.scope c,Q,s,H=>Fd P G M p c (AaD Q) s H
 | _,.label _,Q,s,H=>Q .normal s H
 | _,.ret,Q,s,H=>Q .ret s H
 | _,.rangeFunc g ps a b,Q,s,H=>M 3000000=false/\Wg P G (fun n Q s H=>Fd P G M n a Q s H) (fun n Q s H=>Fd P G M n b Q s H) (evalA G s g) ps Q s H
 | _,.goto _,_,_,_=>False
 | _,.refuse _,_,_,_=>False
def Jl {F:Fence} {n:Nat} {P:Program} {Q:Exit->Act->World->Prop} {a:Act} {w:World} {c:Code} (h:c.wpIn F n P (Exit.noGoto Q) a w):(Code.scope c).wpIn F n P Q a w:=by
 intro b k cs hro hb hr;have s1:step P (lone (b.atR a (.code (.scope c)::k)) cs w)=.next (lone (b.atR a (.code c::.inScope c::k)) cs w):=step_lone_go (by simp[stepG,stepG.exec,Frame.atR]);have s2:∀ a w,step P (lone (b.atR a (.inScope c::k)) cs w)=.next (lone (b.atR a k) cs w):=fun a w=>step_lone_go (by simp[stepG,stepG.exec,Frame.atR]);have h0:(lone (b.atR a (.code (.scope c)::k)) cs w).fenced P F:=fenced_calm hb hr rfl;obtain ⟨e,a₁,w₁,hq,harr⟩:=h b (.inScope c::k) cs hro hb hr;cases e with
 | normal=>exact ⟨.normal,a₁,w₁,hq,.head h0 s1 (StepsIn.trans harr (.one (fenced_calm hb hr rfl) (s2 _ _)))⟩
 | exit id =>
  have hx:exitTo id (.inScope c::k)=exitTo id k:=by simp[exitTo]
  exact ⟨.exit id,a₁,w₁,hq,fun k' hk=>.head h0 s1 (harr.1 k' (by rw[hx];exact hk)),fun hr' hk=>let ⟨k₁,q1,q2⟩:=harr.2 hr' (by rw[hx];exact hk);⟨k₁,q1,.head h0 s1 q2⟩⟩
 | goto l=>exact hq.elim
 | ret=>exact ⟨_,a₁,w₁,hq,.of_steps (.one h0 s1) harr⟩
 | panic ch=>exact ⟨_,a₁,w₁,hq,.of_steps (.one h0 s1) harr⟩
 | outgrown=>exact ⟨_,a₁,w₁,hq,.of_steps (.one h0 s1) harr⟩
def Tri (y:Bool) (r:Option Nat) (P:Program) (G:Ah) (p:Nat) (c:Code) (Q:AC) (s:List AV) (H:List Ae):Prop :=
 ∀ (h0:Aj) (ρ0:Place) (w0:World),(y=false->∀ i x,ρ0 i=some x->i<p)->∀ (a:Act) (w:World),At y r G h0 ρ0 w0 s (hp H) a w ->
  c.wpIn (fR r) 0 P (fun e a w=>∃ s H,Q e s H/\At y r G h0 ρ0 w0 s (hp H) a w) a w
section
variable {y:Bool} {r:Option Nat} {P:Program} {G:Ah} {M:Ci} {p:Nat}
def Tri.mono {c:Code} {Q Q':AC} {s:List AV} {H:List Ae} (h:Tri y r P G p c Q s H) (hq:∀ e s H,Q e s H->Q' e s H):Tri y r P G p c Q' s H :=
 fun h0 ρ0 w0 h1 a w ha=>wpIn_mono (h h0 ρ0 w0 h1 a w ha) fun e a w ⟨s,H,q,r⟩=>⟨s,H,hq e s H q,r⟩
def UU:∀ {s s2:List AV},Dg s s2->s.length=s2.length/\∀ (i:Nat) (x y:AV),s[i]?=some x->s2[i]?=some y->y=.undef\/x=y
 | [],[],_=>by simp
 | x::r,y::r2,h=>by
   obtain ⟨h1,h2⟩:=h;have ih:=UU h2;refine ⟨by simp[ih.1],fun i u v hu hv=>?_⟩;cases i with
   | zero=>simp at hu hv;subst hu;subst hv;exact h1
   | succ i=>simp at hu hv;exact ih.2 i u v hu hv
 | [],_::_,h=>by simp[Dg] at h
 | _::_,[],h=>by simp[Dg] at h
def Nc {s s2:List AV} {H:Bf} (hw:Dg s s2) {h0:Aj} {ρ0:Place} {w0:World} {a:Act} {w:World} (ha:At y r G h0 ρ0 w0 s H a w):At y r G h0 ρ0 w0 s2 H a w:=by
 obtain ⟨h,ρ,q1,q2,q4⟩:=ha;have hg:=UU hw;refine ⟨h,ρ,q1,⟨by have:=q2.1;have:=hg.1;omega,fun t v z hv hz=>?_⟩,q4⟩;have ht:t<s.length:=by have:=(AaZ.1 hz).1;have:=hg.1;omega
 have hx:=Aa0 ht;rcases hg.2 t _ z hx hz with rfl | e
 ·exact .undef _
 rw[<-e];exact q2.2 t v _ hv hx
def US {s s1:List AV} {H H1:List Ae} (hw:AaL s H s1 H1) {h0:Aj} {ρ0:Place} {w0:World} {a:Act} {w:World} (ha:At y r G h0 ρ0 w0 s (hp H) a w):At y r G h0 ρ0 w0 s1 (hp H1) a w:=by
 obtain ⟨i,v,d,hv,hd,kw,rfl,rfl⟩:=hw;obtain ⟨h,ρ,hs,q2,q4⟩:=ha;obtain ⟨h',s1,t1,f1⟩:=B8 H (A3 v) h (hp H) hs (fun y hy=>.inl rfl);refine ⟨h',ρ,by rw[EI _ _ kw];exact s1,⟨by rw[List.length_set];exact q2.1,fun t u x hu hx=>?_⟩,q4.go t1.y⟩;rw[AeJ] at hx;split at hx
 ·rename_i e;subst e;split at hx;·cases hx;exact .d _ _ (Cn ((q2.2 i u v hu hv).mono t1.mono (Place.le_refl _)) hd f1).unf
  cases hx
 exact (q2.2 t u x hu hx).mono t1.mono (Place.le_refl _)
def AaM {s:List AV} {H H1:List Ae} {bx:Bool} {b:Nat} (hw:Acq bx b H H1) {h0:Aj} {ρ0:Place} {w0:World} {a:Act} {w:World} (ha:At y r G h0 ρ0 w0 s (hp H) a w):At y r G h0 ρ0 w0 s (hp H1) a w:=by
 obtain ⟨cs,ds,hb,hds,k1,k2,k4,rfl⟩:=hw;obtain ⟨h,ρ,hs,q2,q4⟩:=ha;obtain ⟨h',s1,t1,f1⟩:=B8 H (idsL cs) h (hp H) hs (fun y hy=>.inl rfl);have hbb:An (hp H) (frz H (idsL cs)) b=some (.box cs):=by rw[AG _ _ b (fun q hq e=>k2 (e▸B4 hq))];exact hb
 obtain ⟨g,S,c,E,fr,b1,b2,b3,b4,b5,b6,b7⟩:=s1.blk b _ hbb;have hrl:RL h' ρ (c.extract 0 cs.length) cs:=⟨by simp;omega,fun j v y hv hy=>b6 j y v hy (by
  rw[Adq] at hv;split at hv;·simpa using hv
  cases hv)⟩
 have hds':=Nx hrl hds f1;have hlen:ds.length=cs.length:=by have:=hds'.1;have:=hrl.1;omega
 have cell:∀ (j:Nat) y v,ds[j]?=some y->c[j]?=some v->RD h' v y:=fun j y v hy hv=>by have hj:=(AaZ.1 hy).1;refine hds'.2 j v y ?_ hy;rw[Adq,if_pos (by omega)];simpa using hv
 have fin:GZ h' ρ w b (if bx then .box (ds.map .d) else .row false ds):=by
  cases bx;·exact ⟨Pr hds k1,.inr ⟨g,S,c,E,fr,b1,b2,b3,b4,by omega,cell,(fun e=>by cases e),fun j _=>b7 j⟩⟩
  refine ⟨g,S,c,E,fr,b1,b2,b3,b4,by rw[List.length_map];omega,fun j y v hy hv=>?_,b7⟩;rw[Ada] at hy;cases hj:ds[j]? with
  | none=>rw[hj] at hy;cases hy
  | some d =>rw[hj] at hy;cases hy;exact .d _ _ (cell j d v hj hv)
 have s2:=s1.reblk b ⟨_,hbb,by simp⟩ _ fin;refine ⟨h',ρ,?_,q2.mono t1.mono (Place.le_refl _),q4.go t1.y⟩;rw[EI _ _ k4,CP];exact s2
def UT {s:List AV} {H H1:List Ae} {b:Nat} (hw:AaN b H H1) {h0:Aj} {ρ0:Place} {w0:World} {a:Act} {w:World} (ha:At y r G h0 ρ0 w0 s (hp H) a w):At y r G h0 ρ0 w0 s (hp H1) a w:=by
 obtain ⟨pre,cs,post,ds,hb,hds,k2,k4,rfl⟩:=hw;obtain ⟨h,ρ,hs,q2,q4⟩:=ha;obtain ⟨h',s1,t1,f1⟩:=B8 H (idsL cs) h (hp H) hs (fun y hy=>.inl rfl);have hbb:An (hp H) (frz H (idsL cs)) b=some (.box (pre++(cs++post))):=by rw[AG _ _ b (fun q hq e=>k2 (e▸B4 hq))];exact hb
 obtain ⟨g,S,c,E,fr,b1,b2,b3,b4,b5,b6,b7⟩:=s1.blk b _ hbb;simp only[List.length_append] at b5;have hcs:∀ (j:Nat) y,cs[j]?=some y->(pre++(cs++post))[pre.length+j]?=some y:=fun j y hy=>by have hj:=(AaZ.1 hy).1;rw[Adf (by omega),Ae8,Ac7 hj];exact hy
 have hrl:RL h' ρ (c.extract pre.length (pre.length+cs.length)) cs:=⟨by simp;omega,fun j v y hv hy=>b6 (pre.length+j) y v (hcs j y hy) (by
  rw[Adq] at hv;split at hv;·exact hv
  cases hv)⟩
 have hds':=Nx hrl hds f1;have hlen:ds.length=cs.length:=by have:=hds'.1;have:=hrl.1;omega
 have fin:GZ h' ρ w b (.box (pre++(ds.map .d++post))):=by
  refine ⟨g,S,c,E,fr,b1,b2,b3,b4,by simp only[List.length_append,List.length_map];omega,fun j y v hy hv=>?_,b7⟩;rcases Aff j pre.length with h1 | h1
  ·rw[Ac7 h1] at hy;exact b6 j y v (by rw[Ac7 h1];exact hy) hv
  rw[Adf h1] at hy;rcases Aff (j-pre.length) cs.length with h2 | h2
  ·rw[Ac7 (by rw[List.length_map];omega),Ada] at hy;cases hj:ds[j-pre.length]? with
   | none=>rw[hj] at hy;cases hy
   | some d =>rw[hj] at hy;cases hy;refine .d _ _ (hds'.2 (j-pre.length) v d ?_ hj);rw[Adq,if_pos (by omega),show pre.length+(j-pre.length)=j by omega];exact hv
  rw[Adf (by rw[List.length_map];omega),List.length_map,hlen] at hy;refine b6 j y v ?_ hv;rw[Adf h1,Adf h2];exact hy
 have s2:=s1.reblk b ⟨_,hbb,by simp⟩ _ fin;refine ⟨h',ρ,?_,q2.mono t1.mono (Place.le_refl _),q4.go t1.y⟩;rw[EI _ _ k4,CP];exact s2
def AaK {b:Bool} {s s2:List AV} {H H2:List Ae} (hw:Aco b p s H s2 H2) {h0:Aj} {ρ0:Place} {w0:World} (hp0:y=false->∀ i x,ρ0 i=some x->i<p)
  {a:Act} {w:World} (ha:At y r G h0 ρ0 w0 s (hp H) a w):At y r G h0 ρ0 w0 s2 (hp H2) a w:=by
 cases b with
 | false=>exact Nb hw hp0 ha
 | true =>
  rcases hw with ⟨rfl,h⟩ | ⟨s1,h1,h2⟩
  ·exact Nc h ha
  rcases h1 with h1 | ⟨rfl,b,h1⟩
  ·exact Nc h2 (US h1 ha)
  exact Nc h2 (UT h1 ha)
def UQ {s s2:List AV} {H H2:List Ae} (hw:Fe p s H s2 H2) {h0:Aj} {ρ0:Place} {w0:World} (hp0:y=false->∀ i x,ρ0 i=some x->i<p)
  {a:Act} {w:World} (ha:At y r G h0 ρ0 w0 s (hp H) a w):At y r G h0 ρ0 w0 s2 (hp H2) a w:=by
 induction hw with
 | weak h=>exact Nb h hp0 ha
 | shut h=>exact AaM h ha
 | mid h=>exact UT h ha
 | slots h=>exact Nc h ha
 | slot h=>exact US h ha
 | trans _ _ ih1 ih2=>exact ih2 (ih1 ha)
def Tri.relax {c:Code} {Q Q':AC} {s:List AV} {H:List Ae} (hq:∀ e s H,Q' e s H->Q e s H\/∃ s2 H2,Fe p s H s2 H2/\Q e s2 H2) (h:Tri y r P G p c Q' s H):Tri y r P G p c Q s H :=
 fun h0 ρ0 w0 h1 a w ha=>wpIn_mono (h h0 ρ0 w0 h1 a w ha) fun e a w ⟨s,H,q,r⟩=>by
  rcases hq e s H q with q | ⟨s2,H2,hw,q⟩
  ·exact ⟨s,H,q,r⟩
  exact ⟨s2,H2,q,UQ hw h1 r⟩
def Tri.seq {x z:Code} {Q:AC} {s:List AV} {H:List Ae} (h:Tri y r P G p x (LI (Tri y r P G p z Q) Q) s H):Tri y r P G p (.seq x z) Q s H:=by
 intro h0 ρ0 w0 h1 a w ha;refine wpIn_seq (wpIn_mono (h h0 ρ0 w0 h1 a w ha) ?_);rintro e a w ⟨s,H,q,r⟩;cases e with
 | normal=>exact q h0 ρ0 w0 h1 a w r
 | _=>exact ⟨s,H,q,r⟩
def Tri.region {id:Nat} {ops:Array Oper} {draw:Bool} {Q:AC} {s:List AV} {H:List Ae} (hm:P.follows .mixedOrders=true) (h:R6 P G M ops draw s H (fun s H=>Q .normal s H)):Tri (M 3000000) r P G p (.region id ops draw) Q s H :=
 fun _ _ _ _ _ _ ha=>XP h hm ha fun s' H' hK _ _ r=>⟨s',H',hK,r⟩
def Tri.cond {c:Operand} {x z:Code} {Q:AC} {s:List AV} {H:List Ae} {t:Bool} (hc:evalA G s c=.d (.bool t)) (h1:t=true->Tri y r P G p x Q s H) (h2:t=false->Tri y r P G p z Q s H):Tri y r P G p (.cond c x z) Q s H:=by intro h0 ρ0 w0 hp0 a w ha;obtain ⟨h,ρ,q1,q2,q4⟩:=ha;have hv:=(hc▸Iy q1 q2 c).bool_inv;refine wpIn_cond_split hv (fun ht=>h1 ht h0 ρ0 w0 hp0 a w ⟨h,ρ,q1,q2,q4⟩) (fun ht=>h2 ht h0 ρ0 w0 hp0 a w ⟨h,ρ,q1,q2,q4⟩)
def Tri.block {id:Nat} {c:Code} {Q:AC} {s:List AV} {H:List Ae} (h:Tri y r P G p c (CX id Q) s H):Tri y r P G p (.block id c) Q s H:=by
 intro h0 ρ0 w0 h1 a w ha;refine wpIn_block (wpIn_mono (h h0 ρ0 w0 h1 a w ha) ?_);rintro e a w ⟨s,H,q,r⟩;cases e with
 | exit i =>
  simp only[CX] at q;simp only[Exit.inBlock];split;·rename_i hi;rw[if_pos hi] at q;exact ⟨s,H,q,r⟩
  rename_i hi;rw[if_neg hi] at q;exact ⟨s,H,q,r⟩
 | _=>exact ⟨s,H,q,r⟩
def Tri.scope {c:Code} {Q:AC} {s:List AV} {H:List Ae} (h:Tri y r P G p c (AaD Q) s H):Tri y r P G p (.scope c) Q s H:=by
 intro h0 ρ0 w0 h1 a w ha;refine Jl (wpIn_mono (h h0 ρ0 w0 h1 a w ha) ?_);rintro e a w ⟨s,H,q,r⟩;cases e with
 | goto l=>exact q.elim
 | _=>exact ⟨s,H,q,r⟩
def Tri.exit {id:Nat} {Q:AC} {s:List AV} {H:List Ae} (h:Q (.exit id) s H):Tri y r P G p (.exit id) Q s H :=
 fun _ _ _ _ _ _ ha=>wpIn_exit ⟨s,H,h,ha⟩
def Tri.ret {Q:AC} {s:List AV} {H:List Ae} (h:Q .ret s H):Tri y r P G p .ret Q s H :=
 fun _ _ _ _ _ _ ha=>wpIn_ret ⟨s,H,h,ha⟩
def Tri.skip {Q:AC} {s:List AV} {H:List Ae} (h:Q .normal s H):Tri y r P G p .skip Q s H :=
 fun _ _ _ _ _ _ ha=>wpIn_skip ⟨s,H,h,ha⟩
def Tri.label {l:Nat} {Q:AC} {s:List AV} {H:List Ae} (h:Q .normal s H):Tri y r P G p (.label l) Q s H :=
 fun _ _ _ _ _ _ ha=>wpIn_label ⟨s,H,h,ha⟩
def Tri.loop {x:Bool} {c:Code} {Q:AC} {s:List AV} {H:List Ae} (I:Nat->List AV->List Ae->Prop) (h₀:∃ n s2 H2,Fe p s H s2 H2/\I n s2 H2)
  (round:∀ n s H,I n s H->Tri y r P G p c (LI (UX x p n I) Q) s H):Tri y r P G p (.loop c) Q s H:=by
 intro h0 ρ0 w0 hp0 a w ha b k cs hro hb hr
 have key:∀ n s H a w,I n s H->At y r G h0 ρ0 w0 s (hp H) a w ->
   ∃ e a' w',(∃ s H,Q e s H/\At y r G h0 ρ0 w0 s (hp H) a' w')/\ArrivesIn (Machine.fenced P (fR r)) P (lone (b.atR a (.code c::.inLoop c::k)) cs w) b k cs e a' w':=by
  intro n;induction n using Nat.strongRecOn with
  | _ n ih =>
   intro s H a w hI ha;obtain ⟨e,a₁,w₁,⟨s₁,H₁,hq,ha₁⟩,harr⟩:=round n s H hI h0 ρ0 w0 hp0 a w ha b (.inLoop c::k) cs hro hb hr;cases e with
   | normal =>obtain ⟨m,s2,H2,hlt,hw,hI2⟩:=hq;obtain ⟨e₂,a₂,w₂,hq₂,harr₂⟩:=ih m hlt s2 H2 a₁ w₁ hI2 (AaK hw hp0 ha₁);exact ⟨e₂,a₂,w₂,hq₂,.of_steps (StepsIn.trans harr (.one (fenced_calm hb hr rfl) stepR_inLoop)) harr₂⟩
   | exit id=>exact ⟨_,a₁,w₁,⟨s₁,H₁,hq,ha₁⟩,.pass (x:=.inLoop c) rfl (fun _ _=>.inl (by simp)) harr⟩
   | goto l=>exact ⟨_,a₁,w₁,⟨s₁,H₁,hq,ha₁⟩,.pass (x:=.inLoop c) rfl (fun _ _=>.inl (by simp)) harr⟩
   | ret=>exact ⟨_,a₁,w₁,⟨s₁,H₁,hq,ha₁⟩,.pass (x:=.inLoop c) rfl (fun _ _=>.inl (by simp)) harr⟩
   | panic ch=>exact ⟨_,a₁,w₁,⟨s₁,H₁,hq,ha₁⟩,.pass (x:=.inLoop c) rfl (fun _ _=>.inl (by simp)) harr⟩
   | outgrown=>exact ⟨_,a₁,w₁,⟨s₁,H₁,hq,ha₁⟩,.pass (x:=.inLoop c) rfl (fun _ _=>.inl (by simp)) harr⟩
 obtain ⟨n,s2,H2,hw,hI⟩:=h₀;obtain ⟨e,a',w',hq,harr⟩:=key n s2 H2 a w hI (UQ hw hp0 ha);exact ⟨e,a',w',hq,.of_steps (.one (fenced_calm hb hr rfl) stepR_loop) harr⟩
end
section
variable {P:Program} {G:Ah}
def Sim.shut {h:Aj} {ρ:Place} {H:List Ae} {w w2:World} (s:Sim G h ρ (hp H) w) (hx:DH H=true) (hsz:w2.heap.size=w.heap.size) (hc:∀ (k:Nat) c E fr,w.heap[k]?=some (.cells c E fr)->w2.heap[k]?=w.heap[k]?)
  (hk:∀ i g S,ρ i=some (g,S)->w2.heap[g]?=w.heap[g]?):Sim G h ρ (hp H) w2:=by
 refine ⟨fun b o v e=>?_,s.glob,fun i b e=>?_,fun i g S e=>⟨by rw[hsz];exact (s.dom i g S e).1,(s.dom i g S e).2⟩,s.inj⟩
 ·have h1:=s.prom b o v e;have h2:w2.heap[b]?=w.heap[b]?:=by
   unfold World.cell? at h1;simp only at h1;cases hb:w.heap[b]? with
   | none=>simp[hb] at h1
   | some x =>
    cases x with
    | cells c E fr=>rw[hc b c E fr hb,hb]
    | _=>simp[hb] at h1
  rw[<-h1];simp[World.cell?,h2]
 have r:=s.blk i b e;cases b with
 | dead=>trivial
 | row fz cells =>
  obtain ⟨h0,r⟩:=r;refine ⟨h0,?_⟩;rcases r with h1 | ⟨g,S,c,E,fr,h1,h2,h3⟩
  ·exact .inl h1
  exact .inr ⟨g,S,c,E,fr,h1,(hk _ _ _ h1).trans h2,h3⟩
 | box cells =>obtain ⟨g,S,c,E,fr,h1,h2,h3⟩:=r;exact ⟨g,S,c,E,fr,h1,(hk _ _ _ h1).trans h2,h3⟩
 | map l =>obtain ⟨g,S,es,clock,h1,h2,h3⟩:=r;exact ⟨g,S,es,clock,h1,(hk _ _ _ h1).trans h2,h3⟩
 | amap l =>obtain ⟨g,S,es,clock,h1,h2,h3⟩:=r;exact ⟨g,S,es,clock,h1,(hk _ _ _ h1).trans h2,h3⟩
 | iter st pos =>obtain ⟨g,S,h1,h2,h3⟩:=r;exact ⟨g,S,h1,(hk _ _ _ h1).trans h2,h3⟩
 | bld T used n k =>obtain ⟨g,S,c,h1,h2,h3⟩:=r;exact ⟨g,S,c,h1,(hk _ _ _ h1).trans h2,h3⟩
 | buf e l =>
  rcases r with h1 | ⟨g,S,c,h1,h2,h3⟩
  ·exact .inl h1
  exact .inr ⟨g,S,c,h1,(hk _ _ _ h1).trans h2,h3⟩
 | ext J t =>
  obtain ⟨rfl,_⟩:=r;cases H with
  | nil=>simp[hp] at e
  | cons x _=>simp[hp] at e;subst e;simp[DH] at hx
def Gu (w:World) (o:Obj) (k:Nat) (h:k<w.heap.size):(w.alloc o).heap[k]?=w.heap[k]?:=by
 show (w.heap.push o)[k]?=_
 rw[Array.getElem?_push];split;·omega
 rfl
def Sim.allocU {h:Aj} {ρ:Place} {H:Bf} {w:World} (s:Sim G h ρ H w) (o:Obj):Sim G h ρ H (w.alloc o)/\Bg h ρ w h ρ (w.alloc o):=by
 have st:Bg h ρ w h ρ (w.alloc o):=⟨rfl,rfl,rfl,by simp,fun k hk _=>Gu w o k hk,Aj.le_refl _,fun _ _ _ _=>rfl,Place.le_refl _,fun i g S e=>.inl ⟨i,S,e⟩⟩;have hpr:∀ b off v,h b off=some v->(w.alloc o).cell? ⟨b,off,none⟩=some v:=by intro b off v e;rw[World.cell?_alloc_lt w o ⟨b,off,none⟩ (s.held_lt e)];exact s.prom b off v e
 refine ⟨⟨hpr,s.glob,fun i b e=>(s.blk i b e).frame st.n hpr (Aj.le_refl _) (Place.le_refl _) (fun g S hg=>⟨Gu w o g (s.dom i g S hg).1,fun _=>rfl⟩) id,fun i g S e=>⟨by have:=(s.dom i g S e).1;simp;omega,(s.dom i g S e).2⟩,s.inj⟩,st⟩
def GZ.other {h h':Aj} {ρ:Place} {w w':World} {i:Nat} {b:Ae} (r:GZ h ρ w i b) (hb:∀ J t,b≠.ext J t) (hh:h.le h')
  (hk:∀ g S,ρ i=some (g,S)->w'.heap[g]?=w.heap[g]?/\∀ o,h' g o=h g o):GZ h' ρ w' i b:=by
 cases b with
 | dead=>trivial
 | row fz cells =>
  obtain ⟨h0,r⟩:=r;rcases r with ⟨h1,h2⟩ | ⟨g,S,c,E,fr,h1,h2,h3,h4,h5,h6,h7,h8⟩
  ·exact ⟨h0,.inl ⟨h1,h2⟩⟩
  obtain ⟨k1,k2⟩:=hk g S h1;exact ⟨h0,.inr ⟨g,S,c,E,fr,h1,k1.trans h2,h3,h4,h5,fun j x v a b=>(h6 j x v a b).mono hh,fun f j hj=>(k2 j).trans (h7 f j hj),fun j hj=>(k2 j).trans (h8 j hj)⟩⟩
 | box cells =>obtain ⟨g,S,c,E,fr,h1,h2,h3,h4,h5,h6,h7⟩:=r;obtain ⟨k1,k2⟩:=hk g S h1;exact ⟨g,S,c,E,fr,h1,k1.trans h2,h3,h4,h5,fun j x v a b=>(h6 j x v a b).mono hh (Place.le_refl _),fun j=>(k2 j).trans (h7 j)⟩
 | map l =>obtain ⟨g,S,es,clock,h1,h2,h3,h4,h5⟩:=r;obtain ⟨k1,k2⟩:=hk g S h1;exact ⟨g,S,es,clock,h1,k1.trans h2,h3.mono hh,fun j=>(k2 j).trans (h4 j),h5⟩
 | amap l =>obtain ⟨g,S,es,clock,h1,h2,h3,h4,h5⟩:=r;obtain ⟨k1,k2⟩:=hk g S h1;exact ⟨g,S,es,clock,h1,k1.trans h2,h3.mono hh (Place.le_refl _),fun j=>(k2 j).trans (h4 j),h5⟩
 | iter s pos =>obtain ⟨g,S,h1,h2,h4⟩:=r;obtain ⟨k1,k2⟩:=hk g S h1;exact ⟨g,S,h1,k1.trans h2,fun j=>(k2 j).trans (h4 j)⟩
 | bld T used n k =>obtain ⟨g,S,v,h1,h2,h3,h4⟩:=r;obtain ⟨k1,k2⟩:=hk g S h1;exact ⟨g,S,v,h1,k1.trans h2,h3,fun j=>(k2 j).trans (h4 j)⟩
 | buf e l =>
  rcases r with h1 | ⟨g,S,c,h1,h2,h3,h4,h5,h6,h7⟩
  ·exact .inl h1
  obtain ⟨k1,k2⟩:=hk g S h1;exact .inr ⟨g,S,c,h1,k1.trans h2,h3,h4,h5,h6,fun j=>(k2 j).trans (h7 j)⟩
 | ext J t=>exact absurd rfl (hb J t)
def Sim.other {h h':Aj} {ρ:Place} {H:Bf} {w w':World} (s:Sim G h ρ H w) (hx:∀ i b,H i=some b->∀ J t,b≠.ext J t) (hh:h.le h') (hpr:∀ b o v,h' b o=some v->w'.cell? ⟨b,o,none⟩=some v) (hsz:w.heap.size<=w'.heap.size)
  (hk:∀ i g S,ρ i=some (g,S)->w'.heap[g]?=w.heap[g]?/\∀ o,h' g o=h g o):Sim G h' ρ H w':=by
 refine ⟨hpr,fun k ds e=>?_,fun i b e=>(s.blk i b e).other (hx i b e) hh (hk i),fun i g S e=>⟨by have:=(s.dom i g S e).1;omega,(s.dom i g S e).2⟩,s.inj⟩;obtain ⟨vs,h1,h2⟩:=s.glob k ds e;exact ⟨vs,fun j x e=>hh _ _ _ (h1 j x e),fun j x e=>(h2 j x e).mono hh⟩
def TY {H:List Ae} {h:Aj} {ρ:Place} {w:World} (s:Sim G h ρ (hp H) w) (hx:DH H=true):∀ i b,hp H i=some b->∀ J t,b≠.ext J t:=by
 rintro i b e J t rfl;obtain ⟨rfl,_⟩:=s.blk i _ e;cases H with
 | nil=>simp[hp] at e
 | cons x _=>simp[hp] at e;subst e;simp[DH] at hx
def Zt {H:List Ae} {L:List Nat} {HC:List Ae} (hL:L.Nodup) (hpb:passBs H L L=some HC) (hs2:sidsBs H L L=[])
  {h:Aj} {ρ:Place} {Hx:Bf} {w:World} (s:Sim G h ρ Hx w) (hHx:∀ b,b∈L->Hx b=H[b]?):Sim G h (fun k=>(L[k]?).bind ρ) (hp HC) w:=by
 have hρc:∀ (k b:Nat),L[k]?=some b->(fun k=>(L[k]?).bind ρ) k=ρ b:=fun k b e=>by simp[e]
 have hρc':∀ (k:Nat) (x:Nat × Nat),(L[k]?).bind ρ=some x->∃ b,L[k]?=some b/\ρ b=some x:=by
  intro k x e;cases hk:L[k]? with
  | none=>simp[hk] at e
  | some b=>simp[hk] at e;exact ⟨b,rfl,e⟩
 have hHClen:L.length=HC.length:=(CI hpb).1;have liveL:∀ (k b:Nat),L[k]?=some b->BP Hx b:=by intro k b hk;obtain ⟨blk,y,q1,q2,q3,_⟩:=(CI hpb).2 k b hk;refine ⟨blk,by rw[hHx b (Adi hk)];exact q1,?_⟩;rintro rfl;simp[passB] at q3
 refine ⟨s.prom,s.glob,?_,?_,?_⟩
 ·intro k y hy;have hk:k<L.length:=by
   have:=(AaZ.1 hy).1;omega
  have hLk:=Aa0 hk;obtain ⟨blk,y',q1,q2,q3,q4⟩:=(CI hpb).2 k _ hLk;have:some y=some y':=hy.symm.trans q2;cases this;have hb:=s.blk L[k] blk (by rw[hHx _ (List.getElem_mem hk)];exact q1);have hρk:=hρc k _ hLk;cases blk with
  | dead=>simp[passB] at q3
  | row fz cs =>simp[passB] at q3;subst q3;obtain ⟨b0,b1⟩:=hb;refine ⟨b0,?_⟩;rw[hρk];exact b1
  | box cs =>
   simp only[passB] at q3;split at q3
   ·rename_i l hl;cases q3;obtain ⟨g,S,c,E,fr,b1,b2,b3,b4,b5,b6,b7⟩:=hb;have hg:=Cz hl;refine ⟨g,S,c,E,fr,hρk.trans b1,b2,b3,b4,by omega,fun j x v hx hv=>?_,b7⟩;have hj:j<cs.length:=(by have:=(AaZ.1 hx).1;omega)
    have hcj:=Aa0 hj;refine Hb hρc (b6 j _ v hcj hv) (hg.2 j _ x hcj hx) (fun b hb=>?_);have:=q4 b (Cx hcj hb);rw[hs2] at this;cases this
   cases q3
  | map l =>simp[passB] at q3;subst q3;obtain ⟨g,S,es,clock,b1,b2⟩:=hb;exact ⟨g,S,es,clock,hρk.trans b1,b2⟩
  | amap l =>
   simp only[passB] at q3;split at q3
   ·rename_i m hm;cases q3;obtain ⟨g,S,es,clock,b1,b2,b3,b4⟩:=hb;have hg:=Cz hm;have hml:m.length=l.length:=(by have:=hg.1;simp at this;omega)
    refine ⟨g,S,es,clock,hρk.trans b1,b2,⟨by simp[hml];exact b3.1,fun i e p a b=>?_⟩,b4⟩;rw[AeT] at b;obtain ⟨c1,c2⟩:=b;rw[Ada] at c1;cases hc:l[i]? with
    | none=>simp[hc] at c1
    | some q =>
     simp[hc] at c1;have hcj:(l.map (·.2))[i]?=some q.2:=(by simp[hc])
     obtain ⟨d1,d2⟩:=b3.2 i e q a hc;refine ⟨by rw[<-c1];exact d1,Hb hρc d2 (hg.2 i _ p.2 hcj c2) (fun b hb=>?_)⟩;have:=q4 b (Cx hcj hb);rw[hs2] at this;cases this
   cases q3
  | iter s pos =>simp[passB] at q3;subst q3;obtain ⟨g,S,b1,b2⟩:=hb;exact ⟨g,S,hρk.trans b1,b2⟩
  | bld T used n k =>
   obtain ⟨g,S,v,b1,b2,b3,b4⟩:=hb;cases k with
   | none =>simp[passB] at q3;subst q3;exact ⟨g,S,v,hρk.trans b1,b2,b3,b4⟩
   | some kb =>
    simp only[passB] at q3;split at q3
    ·rename_i j hj;cases q3;rcases b3 with b3 | ⟨g2,cap,e1,e2,e3⟩
     ·exact ⟨g,S,v,hρk.trans b1,b2,.inl b3,b4⟩
     exact ⟨g,S,v,hρk.trans b1,b2,.inr ⟨g2,cap,e1,(hρc j _ (Iq hj)).trans e2,e3⟩,b4⟩
    cases q3
  | buf e l =>
   simp[passB] at q3;subst q3;rcases hb with ⟨b1,b2⟩ | ⟨g,S,c,b1,b2⟩
   ·exact .inl ⟨hρk.trans b1,b2⟩
   exact .inr ⟨g,S,c,hρk.trans b1,b2⟩
  | ext J t=>simp[passB] at q3
 ·intro k g S e;obtain ⟨b,hb,hρ⟩:=hρc' k _ e;refine ⟨(s.dom b g S hρ).1,?_⟩;have hk:k<HC.length:=by have:=(AaZ.1 hb).1;omega
  exact ⟨HC[k],Aa0 hk⟩
 intro i j g S S' e1 e2 l1 l2;obtain ⟨b,hb,hρ⟩:=hρc' i _ e1;obtain ⟨c,hc,hρ'⟩:=hρc' j _ e2;have hbc:=s.inj b c g S S' hρ hρ' (liveL i b hb) (liveL j c hc);subst hbc;exact GM hL hb hc
def shP (n:Nat) (ρ:Place):Place:=fun i=>if i<n then none else ρ (i-n)
def RZ (n:Nat) (ρ:Place) (i:Nat):shP n ρ (i+n)=ρ i:=by simp[shP,show ¬i+n<n by omega]
def Kl {n:Nat} {ρ:Place} {i:Nat} {x:Nat × Nat} (e:shP n ρ i=some x):∃ j,i=j+n/\ρ j=some x:=by
 simp only[shP] at e;split at e;·cases e
 exact ⟨i-n,by omega,e⟩
def Sim.cons {H:List Ae} {h:Aj} {ρ:Place} {w:World} (s:Sim G h ρ (hp H) w) (hx:DH H=true) {J:List (D × Bool)->Aj->Place->World->Prop} {t:List (D × Bool)} (hJ:S6 J) (hj:J t h (shP 1 ρ) w) :
  Sim G h (shP 1 ρ) (hp (.ext J t::H.map (renB (·+1)))) w:=by
 have hne:=TY s hx;refine ⟨s.prom,s.glob,?_,?_,?_⟩
 ·intro i b e;cases i with
  | zero=>simp[hp] at e;subst e;exact ⟨rfl,hJ,hj⟩
  | succ i =>
   simp only[hp,List.getElem?_cons_succ,Ada] at e;cases hi:H[i]? with
   | none=>simp[hi] at e
   | some b0 =>simp[hi] at e;subst e;have:=(s.blk i b0 hi).ren (ρ':=shP 1 ρ) (f:=(·+1)) (fun b x e=>by rw[RZ];exact e) (fun e=>by rw[RZ];exact e);exact this
 ·intro i g S e;obtain ⟨j,rfl,hj⟩:=Kl e;obtain ⟨q1,b,q2⟩:=s.dom j g S hj;refine ⟨q1,renB (·+1) b,?_⟩;have:H[j]?=some b:=q2;simp[hp,this]
 intro i k g S S' e1 e2 l1 l2;obtain ⟨j,rfl,hj⟩:=Kl e1;obtain ⟨j',rfl,hj'⟩:=Kl e2;have lv:∀ j,BP (hp (.ext J t::H.map (renB (·+1)))) (j+1)->BP (hp H) j:=by
  rintro j ⟨b,q1,q2⟩;simp only[hp,List.getElem?_cons_succ,Ada] at q1;cases hi:H[j]? with
  | none=>simp[hi] at q1
  | some b0 =>simp[hi] at q1;subst q1;exact ⟨b0,hi,fun e=>q2 (by rw[e];rfl)⟩
 rw[s.inj j j' g S S' hj hj' (lv j l1) (lv j' l2)]
def Sim.behind {H H2:List Ae} {h h':Aj} {ρ ρ2:Place} {w w':World} (s:Sim G h ρ (hp H) w) (hsz:w.heap.size<=w'.heap.size) (s2:Sim G h' ρ2 (hp H2) w') :
  Sim G h' (fun i=>if i<H.length then ρ i else ρ2 (i-H.length)) (hp (deads H.length++H2.map (renB (H.length+·)))) w':=by
 have hlen:(deads H.length).length=H.length:=by simp[deads]
 have get1:∀ i,i<H.length->(deads H.length++H2.map (renB (H.length+·)))[i]?=some .dead:=fun i hi=>by rw[Ac7 (by omega)];simp[deads,hi]
 have get2:∀ i,(deads H.length++H2.map (renB (H.length+·)))[H.length+i]?=(H2[i]?).map (renB (H.length+·)):=fun i=>by rw[Adf (by omega),hlen];simp
 refine ⟨s2.prom,s2.glob,?_,?_,?_⟩
 ·intro i b e;by_cases hi:i<H.length;·have e':(deads H.length++H2.map (renB (H.length+·)))[i]?=some b:=e;rw[get1 i hi] at e';cases e';trivial
  obtain ⟨j,rfl⟩:∃ j,i=H.length+j:=⟨i-H.length,by omega⟩;have e':(deads H.length++H2.map (renB (H.length+·)))[H.length+j]?=some b:=e;rw[get2] at e';cases hj:H2[j]? with
  | none=>simp[hj] at e'
  | some b0 =>simp[hj] at e';subst e';exact (s2.blk j b0 hj).ren (f:=(H.length+·)) (fun b x e=>by simp[show ¬H.length+b<H.length by omega];exact e) (fun e=>by simp[show ¬H.length+j<H.length by omega];exact e)
 ·intro i g S e;by_cases hi:i<H.length;·simp only[hi,if_true] at e;exact ⟨by have:=(s.dom i g S e).1;omega,.dead,get1 i hi⟩
  simp only[hi,if_false] at e;obtain ⟨q1,b,q2⟩:=s2.dom _ g S e;refine ⟨q1,renB (H.length+·) b,?_⟩;have:=get2 (i-H.length);rw[show H.length+(i-H.length)=i by omega] at this;have q3:H2[i-H.length]?=some b:=q2;rw[q3] at this;exact this
 intro i k g S S' e1 e2 l1 l2;have nl:∀ i,BP (hp (deads H.length++H2.map (renB (H.length+·)))) i->¬i<H.length:=by rintro i ⟨b,q1,q2⟩ hi;have q3:(deads H.length++H2.map (renB (H.length+·)))[i]?=some b:=q1;rw[get1 i hi] at q3;cases q3;exact q2 rfl
 have h1:=nl i l1;have h2:=nl k l2;simp only[h1,h2,if_false] at e1 e2;have lv:∀ i,¬i<H.length->BP (hp (deads H.length++H2.map (renB (H.length+·)))) i->BP (hp H2) (i-H.length):=by
  rintro i hi ⟨b,q1,q2⟩;obtain ⟨j,rfl⟩:∃ j,i=H.length+j:=⟨i-H.length,by omega⟩;have q3:(deads H.length++H2.map (renB (H.length+·)))[H.length+j]?=some b:=q1;rw[get2] at q3;cases hj:H2[j]? with
  | none=>simp[hj] at q3
  | some b0 =>simp[hj] at q3;subst q3;exact ⟨b0,by rw[show H.length+j-H.length=j by omega];exact hj,fun e=>q2 (by rw[e];rfl)⟩
 have:=s2.inj _ _ g S S' e1 e2 (lv i h1 l1) (lv k h2 l2);omega
def SR.ren {h:Aj} {ρ ρ':Place} {tmps:Array Value} {s:List AV} {f:Nat->Nat} (hf:∀ b x,ρ b=some x->ρ' (f b)=some x) (r:SR h ρ tmps s):SR h ρ' tmps (renL f s):=by
 rw[EM];refine ⟨by simpa using r.1,fun t v x hv hx=>?_⟩;simp only[Ada] at hx;cases hc:s[t]? with
 | none=>simp[hc] at hx
 | some y=>simp[hc] at hx;subst hx;exact (r.2 t v y hv hc).ren hf
def RV {ρ:Place} {a b:Nat} (e:ρ a=ρ b):∀ i x,ρ i=some x->ρ (swF a b i)=some x:=fun i x h=>by
 unfold swF;split;·rename_i hi;subst hi;rw[e];exact h
 exact h
def Sim.swap {h:Aj} {ρ:Place} {H:List Ae} {w:World} (s:Sim G h ρ (hp H) w) {a b:Nat} (hab:a≠b) (ha:H[a]?=some .dead) (e:ρ a=ρ b):Sim G h ρ (hp (Ia a b H)) w:=by
 have hal:a<H.length:=(AaZ.1 ha).1;have get:∀ i,(Ia a b H)[i]?=if i=b then (if b<H.length then some .dead else none) else if i=a then some (renB (swF a b) ((H[b]?).getD .dead)) else (H[i]?).map (renB (swF a b)):=fun i=>by
  rw[Ia,Ada,AeJ];by_cases hb:b=i
  ·subst hb;simp only[if_true,List.length_set];by_cases hl:b<H.length;·simp[hl];rfl
   simp[hl]
  rw[if_neg hb,if_neg (fun q=>hb q.symm),AeJ];by_cases hi:a=i;·subst hi;simp[hal]
  rw[if_neg hi,if_neg (fun q=>hi q.symm)]
 have lv:∀ i,BP (hp (Ia a b H)) i->i≠b/\BP (hp H) (if i=a then b else i):=by
  rintro i ⟨blk,q1,q2⟩;have q3:(Ia a b H)[i]?=some blk:=q1;rw[get] at q3;by_cases hb:i=b
  ·rw[if_pos hb] at q3;split at q3;·cases q3;exact absurd rfl q2
   cases q3
  refine ⟨hb,?_⟩;rw[if_neg hb] at q3;by_cases hi:i=a
  ·rw[if_pos hi] at q3 ⊢;cases hc:H[b]? with
   | none=>rw[hc] at q3;cases q3;exact absurd rfl q2
   | some b0=>rw[hc] at q3;cases q3;exact ⟨b0,hc,fun e=>q2 (by rw[e];rfl)⟩
  rw[if_neg hi] at q3 ⊢;cases hc:H[i]? with
  | none=>rw[hc] at q3;cases q3
  | some b0=>rw[hc] at q3;cases q3;exact ⟨b0,hc,fun e=>q2 (by rw[e];rfl)⟩
 refine ⟨s.prom,s.glob,?_,?_,?_⟩
 ·intro i blk q;have q3:(Ia a b H)[i]?=some blk:=q;rw[get] at q3;by_cases hb:i=b
  ·rw[if_pos hb] at q3;split at q3;·cases q3;trivial
   cases q3
  rw[if_neg hb] at q3;by_cases hi:i=a
  ·rw[if_pos hi] at q3;subst hi;cases hc:H[b]? with
   | none=>rw[hc] at q3;cases q3;trivial
   | some b0 =>rw[hc] at q3;cases q3;have:=(s.blk b b0 hc).ren (f:=swF i b) (RV e) (fun q=>by simp only[swF,if_true];rw[e];exact q);simpa[swF] using this
  rw[if_neg hi] at q3;cases hc:H[i]? with
  | none=>rw[hc] at q3;cases q3
  | some b0 =>rw[hc] at q3;cases q3;have:=(s.blk i b0 hc).ren (f:=swF a b) (RV e) (fun q=>by simp only[swF,if_neg hb];exact q);simpa[swF,hb] using this
 ·intro i g S q;obtain ⟨h1,b0,h2⟩:=s.dom i g S q;refine ⟨h1,?_⟩;have hil:i<H.length:=(AaZ.1 h2).1;have:i<(Ia a b H).length:=by simp[Ia];exact hil
  exact ⟨_,Aa0 this⟩
 intro i j g S S' q1 q2 l1 l2;obtain ⟨n1,l1⟩:=lv i l1;obtain ⟨n2,l2⟩:=lv j l2;have back:∀ i x,ρ i=some x->ρ (if i=a then b else i)=some x:=fun i x q=>by
  split;·rename_i hi;subst hi;rw[<-e];exact q
  exact q
 have:=s.inj _ _ g S S' (back _ _ q1) (back _ _ q2) l1 l2;split at this<;>split at this<;>simp_all
def Sim.pins {h:Aj} {ρ:Place} {w:World}:∀ {pins:List (Nat × Nat)} {H:List Ae},Sim G h ρ (hp H) w->(pins.map (·.1)).Nodup->(∀ q,q∈pins->H[q.1]?=some .dead/\q.1<q.2/\ρ q.1=ρ q.2/\∀ q',q'∈pins->q'.1<q.2)->Sim G h ρ (hp (XV pins H)) w
 | [],H,s,_,_=>s
 | (a,b)::r,H,s,hn,hq=>by
   obtain ⟨h1,h2,h3,h4⟩:=hq (a,b) (by simp);simp only at h1 h2 h3 h4;simp only[List.map_cons,Afi,AfA,not_exists,not_and] at hn;refine Sim.pins (pins:=r) (H:=Ia a b H) (s.swap (by omega) h1 h3) hn.2 fun q hm=>?_;obtain ⟨k1,k2,k3,k4⟩:=hq q (Adm _ hm);refine ⟨?_,k2,k3,fun q' hq'=>k4 q' (Adm _ hq')⟩;have na:a≠q.1:=fun e=>hn.1 q hm e.symm;have nb:b≠q.1:=fun e=>by have:=h4 q (Adm _ hm);omega
   rw[Ia,Ada,AeJ,if_neg nb,AeJ,if_neg na,k1];rfl
def SR.pins {h:Aj} {ρ:Place} {tmps:Array Value}:∀ {pins:List (Nat × Nat)} {s:List AV},SR h ρ tmps s->(∀ q,q∈pins->ρ q.1=ρ q.2)->SR h ρ tmps (XU pins s)
 | [],_,r,_=>r
 | (a,b)::r,s,h1,hq=>SR.pins (pins:=r) (s:=renL (swF a b) s) (h1.ren (RV (hq (a,b) (by simp)))) fun q hm=>hq q (Adm _ hm)
def Pin.keep {fl:List (Option Nat)} {s:List AV} {k:Nat} (h:Pin s k) (hs:CK fl s s):fl[k]?=some (some k):=by
 obtain ⟨t,off,ht⟩:=h;have:=(Ds hs).2 t _ _ ht ht;simp only[Aw] at this;split at this
 ·rename_i j hj;cases this;exact hj
 exact this.elim
def Pin.place {h:Aj} {ρ:Place} {tmps:Array Value} {s:List AV} {k:Nat} (hk:Pin s k) (r:SR h ρ tmps s):∃ x,ρ k=some x:=by
 obtain ⟨t,off,ht⟩:=hk;have hl:t<s.length:=(AaZ.1 ht).1;have hlt:t<tmps.size:=by have:=r.1;omega
 have hv:tmps[t]?=some tmps[t]:=AeU hlt;have hr:=r.2 t _ _ hv ht;generalize tmps[t]=v at hr;cases hr with
 | ptr _ _ g S hρ=>exact ⟨_,hρ⟩
end
section
variable {P:Program} {G:Ah}
def nt (ρ:Place) (k:Nat):Prop:=∀ i S,ρ i≠some (k,S)
def R4 {g:FuncId} (hg:Ao P g=true) (args:Array Value) (w:World):(callFunc g args).run P w=.ok (.enter g args) w:=by
 unfold Ao at hg;split at hg
 ·rename_i fn hfn;simp only[AeR,bne_iff_ne,ne_eq] at hg;have hb:¬fn.body=none:=by
   intro e;simp[e] at hg
  simp[callFunc,program,Sem.run,hfn,hg.1,hb]
 cases hg
def Yb {h:Aj} {ρ:Place} {v:Value} {x:AV} {gf:FuncId} {caps:List AV} (r:R h ρ v x) (e:Ud x=some (gf,caps)):∃ lb,v=.func (.func gf) #[] lb/\RL h ρ lb caps:=by
 unfold Ud at e;split at e
 ·cases e;cases r with
  | fn _ us ws _ _ hl hl' hra hrb =>
   have:us=#[]:=by simpa using hl
   subst this;exact ⟨ws,rfl,hl',hrb⟩
 ·cases e;cases r with
  | d _ _ hd=>cases hd with
    | fn _ us ws _ _ hl hl' hra hrb =>
     have:us=#[]:=by simpa using hl
     subst this;refine ⟨ws,rfl,by simpa using hl',fun i v x hv hx=>?_⟩;simp only[Ada] at hx;rename_i capt;cases hc:capt[i]? with
     | none=>simp[hc] at hx
     | some y=>simp[hc] at hx;subst hx;exact .d _ _ (hrb i v y hv hc)
 cases e
def Bg.apart {h h':Aj} {ρ ρ':Place} {w w':World} (s:Bg h ρ w h' ρ' w') {g:Nat} (hg:g<w.heap.size) (hn:nt ρ g):w'.heap[g]?=w.heap[g]?/\(∀ o,h' g o=h g o)/\nt ρ' g/\g<w'.heap.size :=
 ⟨s.keep g hg hn,s.new g hg hn,fun i S e=>by
  rcases s.rnew i g S e with ⟨j,S',hj⟩ | hge
  ·exact hn j S' hj
  omega,Aet hg s.size⟩
def RM.apart {h h':Aj} {ρ ρ':Place} {w w':World} (s:RM h ρ w h' ρ' w') {g:Nat} (hg:g<w.heap.size) (hn:nt ρ g):w'.heap[g]?=w.heap[g]?/\(∀ o,h' g o=h g o)/\nt ρ' g/\g<w'.heap.size :=
 ⟨s.keep g hg hn,s.new g hg hn,fun i S e=>by
  rcases s.rnew i g S e with ⟨j,S',hj⟩ | hge
  ·exact hn j S' hj
  omega,Aet hg s.size⟩
def Sim.putU {h:Aj} {ρ:Place} {H:List Ae} {w:World} (s:Sim G h ρ (hp H) w) (hx:DH H=true) {l:Nat} {r:Loop} (hl:w.heap[l]?=some (.loop r)) (hn:nt ρ l) (o:Obj):Sim G h ρ (hp H) (w.putObj l o) :=
 s.shut hx (by simp) (fun k c E fr e=>World.putObj_heap_other (fun ek=>by subst ek;rw[hl] at e;cases e)) (fun i g S e=>World.putObj_heap_other (fun ek=>hn i S (ek▸e)))
structure RB (w:World) (h:Aj) (ρ:Place) (h':Aj) (ρ':Place) (w':World):Prop where
 os:w'.os=w.os
 tape:w'.tape=w.tape
 output:w'.output=w.output
 size:w.heap.size<=w'.heap.size
 keep:∀ k,k<w.heap.size->nt ρ k->w'.heap[k]?=w.heap[k]?
 mono:h.le h'
 new:∀ k,k<w.heap.size->nt ρ k->∀ o,h' k o=h k o
 pl:∀ i g S,ρ' i=some (g,S)->(∃ j S',ρ j=some (g,S'))\/w.heap.size<=g
def RB.nt {w w':World} {h h':Aj} {ρ ρ':Place} (b:RB w h ρ h' ρ' w') {k:Nat} (hk:k<w.heap.size) (hn:nt ρ k):nt ρ' k:=fun i S e=>by
 rcases b.pl i k S e with ⟨j,S',hj⟩ | hge
 ·exact hn j S' hj
 omega
def RB.go {w w' w'':World} {h h' h'':Aj} {ρ ρ' ρ'':Place} (b:RB w h ρ h' ρ' w') (s:RM h' ρ' w' h'' ρ'' w''):RB w h ρ h'' ρ'' w'':=by
 refine ⟨s.os.trans b.os,s.tape.trans b.tape,s.output.trans b.output,Afg b.size s.size,fun k hk hn=>?_,Aj.le_trans b.mono s.mono,fun k hk hn o=>?_,fun i g S e=>?_⟩;·exact (s.keep k (Aet hk b.size) (b.nt hk hn)).trans (b.keep k hk hn)
 ·exact (s.new k (Aet hk b.size) (b.nt hk hn) o).trans (b.new k hk hn o)
 rcases s.rnew i g S e with ⟨j,S',hj⟩ | hge
 ·exact b.pl j g S' hj
 exact .inr (Afg b.size hge)
def RB.put {w w':World} {h h':Aj} {ρ ρ':Place} (b:RB w h ρ h' ρ' w') {l:Nat} (hl:w.heap.size<=l) (o:Obj):RB w h ρ h' ρ' (w'.putObj l o) :=
 ⟨b.os,b.tape,b.output,by simpa using b.size,fun k hk hn=>(World.putObj_heap_other (by omega)).trans (b.keep k hk hn),b.mono,b.new,b.pl⟩
def RB.fewer {w w':World} {h h':Aj} {ρ ρ' ρ'':Place} (b:RB w h ρ h' ρ' w') (hf:∀ i x,ρ'' i=some x->∃ j,ρ' j=some x):RB w h ρ h' ρ'' w' :=
 ⟨b.os,b.tape,b.output,b.size,b.keep,b.mono,b.new,fun i g S e=>by obtain ⟨j,hj⟩:=hf i _ e;exact b.pl j g S hj⟩
set_option maxHeartbeats 400000 in
def Tri.range {r:Option Nat} {p:Nat} {g:Operand} {ps:Array Tmp} {assign body:Code} {Q:AC} {s:List AV} {H:List Ae}
  (h:Wg P G (fun n Q s H=>∀ l,Tri false (some l) P G n assign Q s H) (fun n Q s H=>∀ l,Tri false (some l) P G n body Q s H) (evalA G s g) ps Q s H):Tri false r P G p (.rangeFunc g ps assign body) Q s H:=by
 intro h0 ρ0 w0 hp0 a w ha;obtain ⟨gf,caps,caps',HI,xs,todo,pt,e1,rfl,e2,e3,e4,e5,hC,hT,fl,s2,H20,I,Ix,pins,hpin,f2,f3,f4,f5,hI0,hIl,hIx,hrnd,hend,hjmp⟩:=h;obtain ⟨h,ρ,q1,q2,q4⟩:=ha;generalize hL:passIds false H caps=L at e2 e3 e4 e5 f3;have hLn:L.Nodup:=by rw[<-hL];exact Gj _
 obtain ⟨lb,hgv,hlb⟩:=Yb (Iy (a:=a) q1 q2 g) e1;refine wpIn_rangeFunc ?_;intro fn hfn
 let rec_:Nat->LoopState->Option Code->Loop:=fun d0 st pe=>{state:=st,pending:=pe,fn,tmps:=a.tmps,params:=#[pt],assign,body,defers:=d0}
 obtain ⟨d0,l,mark,W1,hent,hl1,hWl,hsim1,hst1,hmk⟩:∃ (d0 l:Nat) (mark:List Deferred) (W1:World),(Instr.enterLoop fn a.tmps #[pt] assign body (fR r).round).run P w=.ok (l,mark) W1/\w.heap.size<=l/\W1.heap[l]?=some (.loop (rec_ d0 .ready none)) /\
   Sim G h ρ (hp H) W1/\Bg h ρ w h ρ W1/\(mark=[]\/(mark=[{target:=.collected w.heap.size,args:=#[]}]/\r=none/\W1.heap[w.heap.size]?=some (.deferred (some []))/\w.heap.size≠l)):=by
  cases r with
  | none =>
   obtain ⟨k1,k2⟩:=q1.allocU (.deferred (some []));obtain ⟨k3,k4⟩:=k1.allocU (.loop (rec_ w.heap.size .ready none));refine ⟨w.heap.size,w.heap.size+1,_,_,run_enterLoop_outer _ _ _ _ _,by omega,?_,k3,k2.trans k4,.inr ⟨rfl,rfl,?_,by omega⟩⟩;·have:=World.alloc_heap_new (w.alloc (.deferred (some []))) (.loop (rec_ w.heap.size .ready none));rwa[World.size_alloc] at this
   exact (Gu _ _ _ (by simp)).trans (World.alloc_heap_new w _)
  | some l0 =>
   obtain ⟨r0,hr0,_⟩:=q4.record l0 rfl;obtain ⟨k1,k2⟩:=q1.allocU (.loop (rec_ r0.defers .ready none));refine ⟨r0.defers,w.heap.size,[],_,?_,Ado _,World.alloc_heap_new _ _,k1,k2,.inl rfl⟩;show (Instr.enterLoop fn a.tmps #[pt] assign body (some l0)).run P w=_
   unfold Instr.enterLoop;simp only[Sem.run_bind,run_getLoop hr0,run_newObj_alloc,Result.andThen,Sem.run_pure];rfl
 have hl2:l<W1.heap.size:=(Adj.1 hWl).1;obtain ⟨h1,t1,sF,sv,rv⟩:=K0 f2 f4 f5 hsim1 q2;have hfree:∀ b,b∈L->An (hp H) (frz H (BB fl H20)) b=H[b]?:=fun b hb=>by refine AG _ _ b (fun q hq e=>?_);have:=B4 hq;rw[e] at this;obtain ⟨k,c,u1,_⟩:=BZ.1 this;exact (f3 b (Ae7.2 ⟨some b,Adi u1,rfl⟩)).1 hb
 have sI:=Zt hLn e3 e5 sF hfree;have hHIx:DH HI=true:=by
  cases HI with
  | nil=>rfl
  | cons x rest =>
   cases x with
   | ext J t =>
    exfalso;obtain ⟨k1,k2⟩:=CI e3;have hlen:0<L.length:=(by rw[k1];simp)
    obtain ⟨blk,y,u1,u2,u3,_⟩:=k2 0 L[0] (Aa0 hlen);simp at u2;subst u2;cases blk<;>simp[passB] at u3;all_goals (split at u3<;>first | cases u3 | (split at u3<;>cases u3))
   | _=>rfl
 have hga:=Cz e2;have rI:RL h1 (fun k=>(L[k]?).bind ρ) lb caps':=by
  refine ⟨by have:=hlb.1;omega,fun i v y hv hy=>?_⟩;have hi:i<caps.length:=by have:=(AaZ.1 hy).1;omega
  have hx:=Aa0 hi;refine Hb (ρ:=ρ) (L:=L) (fun k b e=>by simp[e]) ((hlb.2 i v _ hv hx).mono t1.mono (Place.le_refl _)) (hga.2 i _ y hx hy) (fun b hb=>?_);have:=Cx hx hb;rw[e4] at this;cases this
 have hplI:∀ i g S,shP 1 (fun k=>(L[k]?).bind ρ) i=some (g,S)->∃ j b,i=j+1/\L[j]?=some b/\ρ b=some (g,S):=by
  intro i g S e;obtain ⟨j,rfl,hj⟩:=Kl e;cases hk:L[j]? with
  | none=>simp[hk] at hj
  | some b=>simp[hk] at hj;exact ⟨j,b,rfl,hk,hj⟩
 have liveF:∀ b,BP (hp H) b->BP (An (hp H) (frz H (BB fl H20))) b:=by
  intro b hb;have gen:∀ (ids:List Nat) (Hx:Bf),BP Hx b->BP (An Hx (frz H ids)) b:=by
   intro ids;induction ids with
   | nil=>intro Hx hx;exact hx
   | cons i rr ih =>
    intro Hx hx;simp only[frz];split
    ·rw[An];refine ih _ ?_;by_cases hbi:b=i;·exact ⟨_,by simp[hbi];rfl,by simp⟩
     obtain ⟨x,hx1,hx2⟩:=hx;exact ⟨x,by simp[hbi,hx1],hx2⟩
    exact ih _ hx
  exact gen _ _ hb
 have liveL:∀ b,b∈L->BP (An (hp H) (frz H (BB fl H20))) b:=by intro b hb;obtain ⟨k,hk,rfl⟩:=List.getElem_of_mem hb;obtain ⟨blk,y,u1,_,u3,_⟩:=(CI e3).2 k _ (Aa0 hk);refine ⟨blk,by rw[hfree _ hb];exact u1,?_⟩;rintro rfl;simp[passB] at u3
 let J:List (D × Bool)->Aj->Place->World->Prop:=fun t h' ρI w'=>∃ ρ2 H2 st pe,Sim G h' ρ2 (hp H2) w'/\DH H2=true/\SR h' ρ2 a.tmps s2/\okT t/\(∀ i g S,ρI i=some (g,S)->nt ρ2 g) /\
  w'.heap[l]?=some (.loop (rec_ d0 st pe))/\nt ρ2 l/\nt ρI l/\((st=.ready/\pe=none/\I t H2)\/(t=[]/\∃ c,st=.done/\pe=some c/\Ix c H2)) /\
  RB w h ρ h' ρ2 w'/\(∀ i g S,ρI i=some (g,S)->(∃ j S',ρ j=some (g,S'))\/w.heap.size<=g) /\
  (mark=[]\/(w'.heap[w.heap.size]?=some (.deferred (some []))/\nt ρ2 w.heap.size/\nt ρI w.heap.size))/\(∀ k,Pin s2 k->∃ x,ρ2 k=some x/\plN fl ρ k=some x)
 have hJc:S6 J:=by
  intro t hA ρI wA hB ρI' wB hj st hpr;obtain ⟨ρ2,H2,sta,pe,j1,j2,j3,j4,j5,j6,j7,j8,j9,j10,j11,j12,j13⟩:=hj;have key:∀ k,k<wA.heap.size->nt ρI k->wB.heap[k]?=wA.heap[k]?/\(∀ o,hB k o=hA k o)/\nt ρI' k/\k<wB.heap.size:=fun k hk hn=>st.apart hk hn;have dj:∀ i g S,ρ2 i=some (g,S)->nt ρI g:=fun i g S e i' S' e'=>j5 i' g S' e' i S e;have hlA:=(Adj.1 j6).1;obtain ⟨l1,_,l3,_⟩:=key l hlA j8;refine ⟨ρ2,H2,sta,pe,j1.other (TY j1 j2) st.mono hpr st.size (fun i g S e=>?_),j2,j3.mono st.mono (Place.le_refl _),j4,fun i g S e=>?_,l1.trans j6,j7,l3,j9,?_,fun i g S e=>?_,?_,j13⟩
  ·obtain ⟨k1,k2,_⟩:=key g (j1.dom i g S e).1 (dj i g S e);exact ⟨k1,k2⟩
  ·rcases st.rnew i g S e with ⟨j,S',hj⟩ | hge
   ·exact j5 j g S' hj
   intro i' S' e';have:=(j1.dom i' g S' e').1;omega
  ·refine ⟨st.os.trans j10.os,st.tape.trans j10.tape,st.output.trans j10.output,Afg j10.size st.size,fun k hk hn=>?_,Aj.le_trans j10.mono st.mono,fun k hk hn o=>?_,j10.pl⟩;all_goals
    have hnI:nt ρI k:=fun i S e=>by
     rcases j11 i k S e with ⟨j,S',hj⟩ | hge
     ·exact hn j S' hj
     omega
    obtain ⟨k1,k2,_⟩:=key k (Aet hk j10.size) hnI
   ·exact k1.trans (j10.keep k hk hn)
   exact (k2 o).trans (j10.new k hk hn o)
  ·rcases st.rnew i g S e with ⟨j,S',hj⟩ | hge
   ·exact j11 j g S' hj
   exact .inr (Afg j10.size hge)
  rcases j12 with j12 | ⟨m1,m2,m3⟩
  ·exact .inl j12
  obtain ⟨k1,_,k3,_⟩:=key w.heap.size (Adj.1 m1).1 m3;exact .inr ⟨k1.trans m1,m2,k3⟩
 have hY:KW P l J:=by
  intro x b rest G' hA ρI Hy wA v sA hy0 hv;obtain ⟨_,_,hj⟩:=sA.blk 0 _ hy0;obtain ⟨ρ2,H2,sta,pe,j1,j2,j3,j4,j5,j6,j7,j8,j9,j10,j11,j12,j13⟩:=hj;obtain ⟨rfl,rfl,hI⟩:sta=.ready/\pe=none/\I ((x,b)::rest) H2:=by
   rcases j9 with j9 | ⟨ht,_⟩
   ·exact j9
   cases ht
  have hlen:=(hIl _ _ hI).1;have hp2:∀ i x,ρ2 i=some x->i<fl.length:=fun i x e=>by obtain ⟨_,b',hb'⟩:=j1.dom i x.1 x.2 e;have:=(AaZ.1 hb').1;omega
  have hlA:=(Adj.1 j6).1;refine ⟨fn,_,assign,body,run_yield j6 (by simp[rec_]),?_⟩;refine roundIn_of_wpIn (F:=fR none) trivial ?_;show assign.wpIn (fR (some l)) 0 P _ _ wA
  have hatA:At false (some l) G hA ρ2 wA (s2.set pt (.d x)) (hp H2) {tmps:=(#[pt].zip #[v]).foldl (fun t (p,v)=>t.setIfInBounds p v) a.tmps,defers:=[]} wA:=by refine ⟨hA,ρ2,j1,?_,⟨fun _=>Bg.refl _ _ _,fun e=>(by cases e),List.Pairwise.nil,fun d hd=>(by simp at hd),fun _ _=>rfl,fun l' e=>by cases e;exact ⟨_,j6,j7⟩⟩⟩;have:=SR.put (a:={tmps:=a.tmps,defers:=[]}) j3 pt (R.d (ρ:=ρ2) v x hv);simpa[Act.put] using this
  refine wpIn_mono (hrnd x b rest H2 hI l hA ρ2 wA (fun _=>hp2) _ wA hatA) ?_;rintro e a1 w1 ⟨s',H',hq,hat⟩;cases e with
  | normal =>
   obtain ⟨rfl,hq⟩:=hq;obtain ⟨hB,ρB,b1,b2,b4⟩:=hat;have stB:=b4.step rfl;obtain ⟨l1,_,l3,l4⟩:=stB.apart hlA j7;have hlB:w1.heap[l]?=some (.loop (rec_ d0 .ready none)):=l1.trans j6;refine ⟨_,run_beginRound hlB rfl,?_⟩;have hl5:(w1.putObj l (.loop {rec_ d0 .ready none with state:=.busy})).heap[l]?=some (.loop {rec_ d0 .ready none with state:=.busy}):=World.putObj_heap_same l4;have hdfs:a1.defers=[]:=b4.rnd l rfl;have sB:Sim G hB ρB (hp H') (w1.putObj l (.loop {rec_ d0 .ready none with state:=.busy})):=b1.putU j2 hlB l3 _;have hpB:∀ i x,ρB i=some x->i<fl.length:=fun i x e=>by obtain ⟨_,b',hb'⟩:=b1.dom i x.1 x.2 e;have:=(AaZ.1 hb').1;omega
   have hatB:At false (some l) G hB ρB (w1.putObj l (.loop {rec_ d0 .ready none with state:=.busy})) s' (hp H') a1 (w1.putObj l (.loop {rec_ d0 .ready none with state:=.busy})) :=
    ⟨hB,ρB,sB,b2,⟨fun _=>Bg.refl _ _ _,fun e=>(by cases e),by rw[hdfs];exact List.Pairwise.nil,fun d hd=>(by rw[hdfs] at hd;simp at hd),fun _ _=>hdfs,fun l' e=>by cases e;exact ⟨_,hl5,l3⟩⟩⟩
   refine wpIn_mono (hq l hB ρB _ (fun _=>hpB) a1 _ hatB) ?_;rintro e a2 w2 ⟨s'',Hn,hq2,⟨hD,ρD,c1,c2,c4⟩⟩;have stC:=c4.step rfl;obtain ⟨l6,_,l7,l8⟩:=stC.apart (Adj.1 hl5).1 l3;have hl6:w2.heap[l]?=some (.loop {rec_ d0 .ready none with state:=.busy}):=l6.trans hl5
   have finish:∀ (jump:Option Code) (K:List Ae->Prop),UV s2 K Hn->(∀ H3,K H3->DH H3=true)->jump.isNone=b ->
     (∀ H3,K H3->(((if jump.isNone then LoopState.ready else .done)=.ready/\jump=none/\I rest H3)\/(rest=[]/\∃ c,(if jump.isNone then LoopState.ready else .done)=.done/\jump=some c/\Ix c H3))) ->
     ∃ v w',(Instr.endRound l jump).run P w2=.ok v w'/\(Ending.returned v=.returned (.bool b)/\∃ h',hA.le h'/\Sim G' h' ρI (An Hy [(0,.ext J rest)]) w'):=by
    rintro jump K ⟨fl',H3,g2,g4,g5,hK⟩ hKx hjb hKa;have hs2:SR hD ρD a.tmps s2:=(j3.mono stB.mono stB.rmono).mono stC.mono stC.rmono;obtain ⟨hE,tE,_,sE,rE⟩:=K0 g2 g4 g5 c1 hs2;have hrun:=run_endRound (P:=P) jump hl6;refine ⟨_,_,hrun,by rw[hjb],hE,Aj.le_trans stB.mono (Aj.le_trans stC.mono tE.mono),?_⟩;generalize hW3:w2.putObj l (.loop {state:=if jump.isNone=true then LoopState.ready else LoopState.done,pending:=jump,fn:=fn,tmps:=a.tmps,params:=#[pt],assign:=assign,body:=body,defers:=d0})=W3;have hW3':w2.putObj l (.loop (rec_ d0 (if jump.isNone then LoopState.ready else .done) jump))=W3:=hW3;have ntE:∀ k,nt ρD k->nt (plN fl' ρD) k:=fun k hk i S e=>by obtain ⟨j,_,hj⟩:=FE e;exact hk j S hj
    have sE3:Sim G hE (plN fl' ρD) (hp H3) W3:=(by rw[<-hW3'];exact sE.putU (hKx _ hK) hl6 (ntE l l7) _);have far:∀ k,k<wA.heap.size->nt ρ2 k->k≠l->W3.heap[k]?=wA.heap[k]?/\(∀ o,hE k o=hA k o)/\nt (plN fl' ρD) k:=(by intro k hk hn hkl;obtain ⟨k1,k2,k3,k4⟩:=stB.apart hk hn;obtain ⟨k5,k6,k7,k8⟩:=stC.apart (g:=k) (by simpa using k4) k3;refine ⟨?_,fun o=>(tE.new k k8 k7 o).trans ((k6 o).trans (k2 o)),ntE k k7⟩;rw[<-hW3',World.putObj_heap_other hkl,k5,World.putObj_heap_other hkl,k1]);have hsz:wA.heap.size<=W3.heap.size:=(by rw[<-hW3'];have h1:=stB.size;have h2:=stC.size;simp at h2 ⊢;omega);have hjn:J rest hE ρI W3:=by
     refine ⟨plN fl' ρD,H3,if jump.isNone then LoopState.ready else .done,jump,sE3,hKx _ hK,rE,?_,fun i g S e=>?_,by rw[<-hW3'];exact World.putObj_heap_same l8,ntE l l7,j8,hKa H3 hK,?_,j11,?_,fun k hk=>?_⟩
     ·cases b with
      | true=>exact j4
      | false=>simp only[okT] at j4;rw[j4];trivial
     ·exact (far g (sA.dom i g S e).1 (j5 i g S e) (fun ek=>j8 i S (ek▸e))).2.2
     ·rw[<-hW3'];exact ((((j10.go stB.n).put hl1 _).go stC.n).go tE.n |>.fewer (fun i x e=>by obtain ⟨j,_,hj⟩:=FE e;exact ⟨j,hj⟩)).put hl1 _
     ·rcases j12 with j12 | ⟨m1,m2,m3⟩
      ·exact .inl j12
      rcases hmk with hmk | ⟨_,_,_,hne⟩
      ·exact .inl hmk
      obtain ⟨k1,_,k3⟩:=far w.heap.size (Adj.1 m1).1 m2 hne;exact .inr ⟨k1.trans m1,k3,m3⟩
     obtain ⟨x,x1,x2⟩:=j13 k hk;refine ⟨x,?_,x2⟩;have hfk:=hk.keep g4;have:plN fl' ρD k=ρD k:=by simp[plN,hfk]
     rw[this];exact stC.rmono k x (stB.rmono k x x1)
    refine ⟨sE3.prom,fun k ds e=>?_,fun i b' e=>?_,fun i g S e=>⟨by have:=(sA.dom i g S e).1;omega,?_⟩,?_⟩;·obtain ⟨vs,p1,p2⟩:=sA.glob k ds e;have hle:hA.le hE:=Aj.le_trans stB.mono (Aj.le_trans stC.mono tE.mono);exact ⟨vs,fun j x e=>hle _ _ _ (p1 j x e),fun j x e=>(p2 j x e).mono hle⟩
    ·by_cases hi:i=0;·subst hi;simp[An] at e;subst e;exact ⟨rfl,hJc,hjn⟩
     simp[An,hi] at e;have hb:=sA.blk i b' e;refine hb.other (fun J' t' e'=>by subst e';exact hi hb.1) (Aj.le_trans stB.mono (Aj.le_trans stC.mono tE.mono)) (fun g S e2=>?_);obtain ⟨k1,k2,_⟩:=far g (sA.dom i g S e2).1 (j5 i g S e2) (fun ek=>j8 i S (ek▸e2));exact ⟨k1,k2⟩
    ·obtain ⟨_,b',hb'⟩:=sA.dom i g S e;by_cases hi:i=0;·subst hi;exact ⟨_,by simp[An];rfl⟩
     exact ⟨b',by simp[An,hi,hb']⟩
    intro i k g S S' u1 u2 v1 v2;have lv:∀ i,BP (An Hy [(0,.ext J rest)]) i->BP Hy i:=by
     rintro i ⟨b',p1,p2⟩;by_cases hi:i=0;·subst hi;exact ⟨_,hy0,by simp⟩
     exact ⟨b',by simpa[An,hi] using p1,p2⟩
    exact sA.inj i k g S S' u1 u2 (lv i v1) (lv k v2)
   have hrest:b=false->rest=[]:=fun hb=>by subst hb;simpa[okT] using j4
   cases e with
   | normal =>obtain ⟨hb,hq2⟩:=hq2;exact finish none (I rest) hq2 (fun H3 hK=>(hIl _ _ hK).2) (by rw[hb];rfl) (fun H3 hK=>.inl ⟨rfl,rfl,hK⟩)
   | ret =>obtain ⟨hb,hq2⟩:=hq2;exact finish (some .ret) (Ix .ret) hq2 (hIx _) (by rw[hb];rfl) (fun H3 hK=>.inr ⟨hrest hb,_,rfl,rfl,hK⟩)
   | exit id =>obtain ⟨hb,hq2⟩:=hq2;exact finish (some (.exit id)) (Ix (.exit id)) hq2 (hIx _) (by rw[hb];rfl) (fun H3 hK=>.inr ⟨hrest hb,_,rfl,rfl,hK⟩)
   | _=>exact hq2.elim
  | _=>exact hq.elim
 have nl:nt (plN fl ρ) l:=fun i S e=>by obtain ⟨j,_,hj⟩:=FE e;have:=(q1.dom j l S hj).1;omega
 have nl':nt (shP 1 (fun k=>(L[k]?).bind ρ)) l:=fun i S e=>by obtain ⟨j,b,_,_,hb⟩:=hplI i l S e;have:=(q1.dom b l S hb).1;omega
 have hj0:J todo h1 (shP 1 (fun k=>(L[k]?).bind ρ)) W1:=by
  refine ⟨plN fl ρ,H20,.ready,none,sv,(hIl _ _ hI0).2,rv,hT.ok,fun i g S e i' S' e'=>?_,hWl,nl,nl',.inl ⟨rfl,rfl,hI0⟩,?_,fun i g S e=>?_,?_,fun k hk=>?_⟩;·obtain ⟨j,b,_,hb,hρ⟩:=hplI i g S e;obtain ⟨j',hj',hρ'⟩:=FE e';have hm:=f3 j' (Ae7.2 ⟨some j',Adi hj',rfl⟩);have:=sF.inj b j' g S S' hρ hρ' (liveL b (Adi hb)) (liveF j' hm.2);subst this;exact hm.1 (Adi hb)
  ·have r0:RB w h ρ h ρ w:=⟨rfl,rfl,rfl,Ado _,fun _ _ _=>rfl,Aj.le_refl _,fun _ _ _ _=>rfl,fun i g S e=>.inl ⟨i,S,e⟩⟩;exact ((r0.go hst1.n).go t1.n).fewer (fun i x e=>by obtain ⟨j,_,hj⟩:=FE e;exact ⟨j,hj⟩)
  ·obtain ⟨j,b,_,_,hρ⟩:=hplI i g S e;exact .inl ⟨b,S,hρ⟩
  ·rcases hmk with hmk | ⟨_,_,hm,_⟩
   ·exact .inl hmk
   refine .inr ⟨hm,fun i S e=>?_,fun i S e=>?_⟩;·obtain ⟨j,_,hj⟩:=FE e;have:=(q1.dom j _ S hj).1;omega
   obtain ⟨j,b,_,_,hb⟩:=hplI i _ S e;have:=(q1.dom b _ S hb).1;omega
  obtain ⟨x,hx⟩:=hk.place rv;exact ⟨x,hx,hx⟩
 refine ⟨l,mark,W1,{target:=.fn (.func gf) lb,args:=#[.func (.yield l) #[] #[]]},W1,gf,#[.func (.yield l) #[] #[]]++lb,W1,hent,?_,fun _ _=>trivial,?_,fun h=>by simp[fR] at h,?_⟩;·simp only[resolve,hgv];simp[go_sem]
 ·simp only[invoke];simpa using R4 (P:=P) (hC l J todo hY hT).1 (#[.func (.yield l) #[] #[]]++lb) W1
 have behind:∀ (h':Aj) (ρ2:Place) (w2:World) (H2:List Ae),Sim G h' ρ2 (hp H2) w2->DH H2=true->SR h' ρ2 a.tmps s2->RB w h ρ h' ρ2 w2->(∃ rc,w2.heap[l]?=some (.loop rc))->nt ρ2 l ->
   (mark=[]\/(w2.heap[w.heap.size]?=some (.deferred (some []))/\nt ρ2 w.heap.size))->(∀ k,Pin s2 k->∃ x,ρ2 k=some x/\plN fl ρ k=some x)->∀ o,At false r G h0 ρ0 w0 (XU pins (renL (H.length+·) s2)) (hp (XV pins (deads H.length++H2.map (renB (H.length+·))))) {a with defers:=mark++a.defers} (w2.putObj l o):=by
  rintro h' ρ2 w2 H2 k1 k2 k3 k4 ⟨rc,k5⟩ k6 k7 kp o;have k8:=k1.putU k2 k5 k6 o;have k9:=k4.put hl1 o;have hpk:∀ q,q∈pins->(deads H.length++H2.map (renB (H.length+·)))[q.1]?=some .dead/\q.1<q.2/\(fun i=>if i<H.length then ρ i else ρ2 (i-H.length)) q.1=(fun i=>if i<H.length then ρ i else ρ2 (i-H.length)) q.2/\∀ q',q'∈pins->q'.1<q.2:=fun q hq=>by
   obtain ⟨k,e1,e2,e3,e4⟩:=hpin.2 q hq;obtain ⟨x,x1,x2⟩:=kp k e4;refine ⟨?_,by omega,?_,fun q' hq'=>?_⟩;·rw[Ac7 (by simp[deads];exact e2)];simp[deads,e2]
   ·simp only[e1,e2,if_true,show ¬H.length+k<H.length by omega,if_false,show H.length+k-H.length=k by omega];rw[x1,<-x2];simp[plN,e3]
   obtain ⟨k',_,e2',_⟩:=hpin.2 q' hq';omega
  refine ⟨h',_,(q1.behind k9.size k8).pins hpin.1 hpk,SR.pins (k3.ren (fun b x e=>?_)) (fun q hq=>(hpk q hq).2.2.1),?_⟩;·simp only[show ¬H.length+b<H.length by omega,if_false,show H.length+b-H.length=b by omega];exact e
  have st:Bg h ρ w h' (fun i=>if i<H.length then ρ i else ρ2 (i-H.length)) (w2.putObj l o):=by
   refine ⟨k9.os,k9.tape,k9.output,k9.size,k9.keep,k9.mono,k9.new,fun i x e=>?_,fun i g S e=>?_⟩;·obtain ⟨_,b,hb⟩:=q1.dom i x.1 x.2 e;have:i<H.length:=(AaZ.1 hb).1;simp only[this,if_true];exact e
   by_cases hi:i<H.length;·simp only[hi,if_true] at e;exact .inl ⟨i,S,e⟩
   simp only[hi,if_false] at e;exact k9.pl _ g S e
  have f0:=q4.go st.y;rcases hmk with rfl | ⟨rfl,rfl,_,hne⟩
  ·exact f0
  rcases k7 with k7 | ⟨m1,m2⟩
  ·cases k7
  refine ⟨f0.step,fun e=>(by cases e),?_,?_,fun l' e=>(by cases e),f0.record⟩;·simp only[List.cons_append,List.nil_append,List.map_cons,Afo];refine ⟨fun t ht=>?_,f0.nodup⟩;obtain ⟨d,hd,rfl⟩:=AfA.1 ht;obtain ⟨D',e,e1,_⟩:=q4.mark d hd;have:=(Adj.1 e1).1;rw[e];intro ek;cases ek;omega
  intro d hd;rcases Afn.1 hd with rfl | hd
  ·refine ⟨w.heap.size,rfl,(World.putObj_heap_other hne).trans m1,(q4.step rfl).size,fun i S e=>?_⟩;by_cases hi:i<H.length;·simp only[hi,if_true] at e;have:=(q1.dom i _ S e).1;omega
   simp only[hi,if_false] at e;exact m2 _ S e
  exact f0.mark d hd
 have rl:RL h1 (shP 1 (fun k=>(L[k]?).bind ρ)) (#[.func (.yield l) #[] #[]]++lb) (.fn (.yield l) [] []::renL (·+1) caps'):=by
  refine RL.append (x:=[.fn (.yield l) [] []]) ⟨rfl,fun i v x hv hx=>?_⟩ ?_
  ·cases i with
   | zero=>simp at hv hx;subst hv;subst hx;exact .fn _ #[] #[] [] [] rfl rfl (by simp) (by simp)
   | succ i=>simp at hx
  rw[EM];refine ⟨by simpa using rI.1,fun i v x hv hx=>?_⟩;simp only[Ada] at hx;cases hc:caps'[i]? with
  | none=>simp[hc] at hx
  | some y=>simp[hc] at hx;subst hx;exact (rI.2 i v y hv hc).ren (fun b x e=>by rw[RZ];exact e)
 have cc:=(hC l J todo hY hT).2 h1 (shP 1 (fun k=>(L[k]?).bind ρ)) W1 (#[.func (.yield l) #[] #[]]++lb) (sI.cons hHIx hJc hj0) rl;refine JW.2 (Calls.mono cc ?_);rintro e w2 ⟨v,h',ρ',rfl,sE⟩;have hjj:J [] h' ρ' w2:=(sE.blk 0 (.ext J []) rfl).2.2;clear cc;obtain ⟨ρ2,H2,sta,pe,j1,j2,j3,j4,j5,j6,j7,j8,j9,j10,j11,j12,j13⟩:=hjj;have hm:mark=[]\/(w2.heap[w.heap.size]?=some (.deferred (some []))/\nt ρ2 w.heap.size):=j12.imp id (fun ⟨m1,m2,_⟩=>⟨m1,m2⟩);have hb:=behind h' ρ2 w2 H2 j1 j2 j3 j10 ⟨_,j6⟩ j7 hm j13;rcases j9 with ⟨e1,e2,hI⟩ | ⟨_,c,e1,e2,hI⟩
 ·have:=run_endLoop (P:=P) j6 (by rw[e1];simp[rec_]);refine ⟨pe,_,this,?_⟩;rw[e2];exact ⟨_,_,hend H2 hI,hb _⟩
 have:=run_endLoop (P:=P) j6 (by rw[e1];simp[rec_]);refine ⟨pe,_,this,?_⟩;rw[e2];have hq:=hjmp c H2 hI;cases c with
 | ret=>exact wpIn_ret ⟨_,_,hq,hb _⟩
 | exit i=>exact wpIn_exit ⟨_,_,hq,hb _⟩
 | _=>exact hq.elim
end
section
variable {y:Bool} {r:Option Nat} {P:Program} {G:Ah} {M:Ci} {p:Nat}
def Tri.of_awp' (hm:P.follows .mixedOrders=true):∀ (c:Code) (r:Option Nat) (p:Nat) (Q:AC) (s:List AV) (H:List Ae),Fd P G M p c Q s H->Tri (M 3000000) r P G p c Q s H
 | .skip,r,p,Q,s,H,h=>.skip h
 | .region id ops draw,r,p,Q,s,H,h=>.region hm h
 | .seq a b,r,p,Q,s,H,h=>.seq ((Tri.of_awp' hm a r p _ s H h).mono fun e s H q=>by
   cases e with
   | normal=>exact Tri.of_awp' hm b r p Q s H q
   | _=>exact q)
 | .cond c a b,r,p,Q,s,H,h=>by
   simp only[Fd] at h;split at h;·rename_i t hc;exact .cond hc (fun ht=>Tri.of_awp' hm a r p Q s H (h.1 ht)) (fun ht=>Tri.of_awp' hm b r p Q s H (h.2 ht))
   exact h.elim
 | .block id c,r,p,Q,s,H,h=>.block (Tri.of_awp' hm c r p _ s H h)
 | .loop c,r,p,Q,s,H,h=>by obtain ⟨bb,Q',I,h0,h1,h2⟩:=h;exact Tri.relax h0 (.loop I h1 fun n s H hI=>Tri.of_awp' hm c r p _ s H (h2 n s H hI))
 | .exit id,r,p,Q,s,H,h=>.exit h
 | .scope c,r,p,Q,s,H,h=>.scope (Tri.of_awp' hm c r p _ s H h)
 | .label l,r,p,Q,s,H,h=>.label h
 | .ret,r,p,Q,s,H,h=>.ret h
 | .goto _,_,_,_,_,_,h=>h.elim
 | .rangeFunc g ps a b,r,p,Q,s,H,h=>by
   obtain ⟨hM,h⟩:=h;rw[hM];have tA:∀ (n:Nat) (Q:AC) (s:List AV) (H:List Ae),Fd P G M n a Q s H->∀ l,Tri false (some l) P G n a Q s H:=fun n Q s H q l=>by have:=Tri.of_awp' hm a (some l) n Q s H q;rwa[hM] at this
   have tB:∀ (n:Nat) (Q:AC) (s:List AV) (H:List Ae),Fd P G M n b Q s H->∀ l,Tri false (some l) P G n b Q s H:=fun n Q s H q l=>by have:=Tri.of_awp' hm b (some l) n Q s H q;rwa[hM] at this
   refine Tri.range ?_;obtain ⟨gf,caps,caps',HI,xs,todo,pt,e1,e0,e2,e3,e4,e5,hC,hT,fl,s2,H20,I,Ix,pins,hpin,f2,f3,f4,f5,hI0,hIl,hIx,hrnd,hend,hjmp⟩:=h;refine ⟨gf,caps,caps',HI,xs,todo,pt,e1,e0,e2,e3,e4,e5,hC,hT,fl,s2,H20,I,Ix,pins,hpin,f2,f3,f4,f5,hI0,hIl,hIx,fun x b t H2 hI l=>?_,hend,hjmp⟩;refine (tA _ _ _ _ (hrnd x b t H2 hI) l).mono fun e s H q=>?_;cases e with
   | normal=>exact ⟨q.1,fun l=>tB _ _ _ _ q.2 l⟩
   | _=>exact q
 | .refuse _,_,_,_,_,_,h=>h.elim
def Tri.of_awp (hm:P.follows .mixedOrders=true) (c:Code) (Q:AC) (s:List AV) (H:List Ae) (h:Fd P G M p c Q s H):Tri (M 3000000) r P G p c Q s H:=Tri.of_awp' hm c r p Q s H h
def resV (P:Program) (s:List AV) (H:List Ae):ResultVar->Option AV
 | .tmp t=>some (s.getD t .undef)
 | .cell a t=>match s.getD a .undef with
   | .ptr b off=>match H[b]?,A5 P t with
     | some (.box cs),some ti=>if off+(if Cm ti.k then ti.size else 1)<=cs.length then some (mkA ti off cs) else none
     | _,_=>none
   | _=>none
def resVs (P:Program) (s:List AV) (H:List Ae):List ResultVar->Option (List AV)
 | []=>some []
 | x::r=>match resV P s H x,resVs P s H r with
   | some y,some l=>some (y::l)
   | _,_=>none
def AU:List AV->AV
 | [x]=>x
 | l=>.tup l
def Wf (P:Program) (rs:Array ResultVar) (p:Nat) (s:List AV) (H:List Ae) (res:AV) (H':List Ae):Prop :=
 match resVs P s H rs.toList with
 | some vs=>∃ fl:List (Option Nat),fl.take p=(AeK p).map some/\(fl.filterMap id).Nodup/\Bm fl H fl H' /\
   (Aw fl (AU vs) res\/∃ d,sealA H (AU vs)=some d/\res=.d (unf d)/\(fl.filterMap id).all (fun j=>!(A3 (AU vs)).contains j)=true)
 | none=>False
def UW (P:Program) (rs:Array ResultVar) (p:Nat) (s:List AV) (H:List Ae) (res:AV) (H':List Ae):Prop :=
 (Wf P rs p s H res H'\/match resVs P s H rs.toList with
 | some vs=>∃ d,sealA H (AU vs)=some d/\wOK H.length (frz H (A3 (AU vs)))=true/\res=.d (unf d)/\H'=applyW H (frz H (A3 (AU vs)))
 | none=>False)\/match resVs P s H rs.toList with
 | some vs=>H'=H/\(res=AU vs\/∃ d,sealA H (AU vs)=some d/\A3 (AU vs)=[]/\res=.d (unf d))
 | none=>False
def I1 (P:Program) (rs:Array ResultVar) (p:Nat) (res:AV) (H':List Ae):AC
 | .ret,s,H=>Wf P rs p s H res H'
 | .normal,s,H=>Wf P rs p s H res H'
 | _,_,_=>False
def GG (P:Program) (rs:Array ResultVar) (p:Nat) (res:AV) (H':List Ae):AC
 | .ret,s,H=>UW P rs p s H res H'
 | .normal,s,H=>UW P rs p s H res H'
 | _,_,_=>False
def Abm (tmps:Array Value):ResultVar->Sem Value
 | .tmp t=>pure (tmps.getD t undef)
 | .cell a t=>do loadVar t (<-asAddr (tmps.getD a undef))
def Vs (fn:Func) (tmps:Array Value):results fn tmps=(fn.results.mapM (Abm tmps) >>= fun vs=>pure (if h:vs.size=1 then vs[0] else .tuple vs)):=rfl
def Tt {fn:Func} {a:Act} {w w2:World} {h:Aj} {ρ:Place} {s:List AV} {H:List Ae} (hs:Sim G h ρ (hp H) w) (hr:SR h ρ a.tmps s) (hw2:∀ i g S,ρ i=some (g,S)->w2.heap[g]?=w.heap[g]?) {vs:List AV} (hv:resVs P s H fn.results.toList=some vs) :
  ∃ v,(results fn a.tmps).run P w2=.ok v w2/\R h ρ v (AU vs):=by
 have slot:∀ t,R h ρ (a.tmps.getD t undef) (s.getD t .undef):=fun t=>Iy (a:=a) hs hr (.tmp t)
 have key:∀ (rs:List ResultVar) (vs:List AV),resVs P s H rs=some vs->∃ us:List Value,(rs.mapM (Abm a.tmps)).run P w2=.ok us w2/\us.length=vs.length /\
   ∀ (i:Nat) u y,us[i]?=some u->vs[i]?=some y->R h ρ u y:=by
  intro rs;induction rs with
  | nil=>intro vs e;simp[resVs] at e;subst e;exact ⟨[],by simp,rfl,by simp⟩
  | cons x r ih =>
   intro vs e;simp only[resVs] at e;split at e
   ·rename_i y l hy hl;cases e;obtain ⟨us,q1,q2,q3⟩:=ih l hl;have hone:∃ u,(Abm a.tmps x).run P w2=.ok u w2/\R h ρ u y:=by
     cases x with
     | tmp t=>simp only[resV,Option.some.injEq] at hy;subst hy;exact ⟨_,rfl,slot t⟩
     | cell c t =>
      simp only[resV] at hy;split at hy
      ·rename_i b off hc;split at hy
       ·rename_i cs ti hb ht;by_cases hlen:off+(if Cm ti.k then ti.size else 1)<=cs.length
        ·rw[if_pos hlen] at hy;simp only[Option.some.injEq] at hy;subst hy;obtain ⟨g,S,e1,e2⟩:=(hc▸slot c).ptr_inv;obtain ⟨g',S',cc,E,fr,b1,b2,b3,b4,b5,b6,b7⟩:=hs.blk b (.box cs) hb;rw[e2] at b1;cases b1;have hlen':∀ j,j<cs.length->cc[j]?=some (cc.getD j undef):=fun j hj=>by
          have:j<cc.size:=by omega
          simp[AeU this]
         have hrun:=LW ht w2 g off (fun j=>cc.getD (off+j) undef) (fun j hj=>by rw[EP ((hw2 _ _ _ e2).trans b2)];exact hlen' _ (by omega));refine ⟨_,by simp only[Abm,e1,asAddr,Sem.run_bind,Sem.run_pure,Result.andThen_ok];exact hrun,ZR (c:=fun j=>cc.getD j undef) hlen (fun j y hy=>?_)⟩;exact b6 j y _ hy (hlen' j (AaZ.1 hy).1)
        rw[if_neg hlen] at hy;cases hy
       cases hy
      cases hy
    obtain ⟨u,hu,hR⟩:=hone;refine ⟨u::us,?_,by simp[q2],fun i u' y' hu' hy'=>?_⟩;·simp only[List.mapM_cons,Sem.run_bind,hu,Result.andThen_ok,q1,Sem.run_pure]
    cases i with
    | zero=>simp at hu' hy';subst hu';subst hy';exact hR
    | succ i=>exact q3 i u' y' (by simpa using hu') (by simpa using hy')
   cases e
 obtain ⟨us,q1,q2,q3⟩:=key _ vs hv;refine ⟨if hs:us.toArray.size=1 then us.toArray[0] else .tuple us.toArray,?_,?_⟩;·rw[Vs,Array.mapM_eq_mapM_toList,Sem.run_bind,Sem.run_map,q1];rfl
 match us,vs,q2,q3 with
 | [u],[y],_,q3=>exact q3 0 u y rfl rfl
 | [],[],_,_=>exact .tup #[] [] rfl (by simp)
 | u::u'::us,y::y'::vs,q2,q3 =>
  have:¬((u::u'::us).toArray.size=1):=by simp
  simp only[this,dite_false,AU];exact .tup _ _ (by simpa using q2) (fun i v x hv hx=>q3 i v x (by simpa using hv) hx)
def shut:List Deferred->World->World
 | [],w=>w
 | d::ds,w=>shut ds (match d.target with | .collected D=>w.putObj D (.deferred none) | _=>w)
def Nv:∀ (ds:List Deferred) (w:World),(shut ds w).os=w.os/\(shut ds w).tape=w.tape/\(shut ds w).output=w.output/\(shut ds w).heap.size=w.heap.size /\
  ∀ k,(∀ d,d∈ds->d.target≠.collected k)->(shut ds w).heap[k]?=w.heap[k]?
 | [],w=>⟨rfl,rfl,rfl,rfl,fun _ _=>rfl⟩
 | d::ds,w=>by
   obtain ⟨q1,q2,q3,q4,q5⟩:=Nv ds (match d.target with | .collected D=>w.putObj D (.deferred none) | _=>w);unfold shut;refine ⟨q1.trans ?_,q2.trans ?_,q3.trans ?_,q4.trans ?_,fun k hk=>(q5 k (fun d hd=>hk d (Adm _ hd))).trans ?_⟩;·split<;>rfl
   ·split<;>rfl
   ·split<;>rfl
   ·split<;>simp
   split;·rename_i D e;exact World.putObj_heap_other (fun e'=>hk d (by simp) (by rw[e,e']))
   rfl
def Ky {F:Fence} {n:Nat} {fn:Func} {tmps:Array Value} {R:Ending->World->Prop}:∀ (ds:List Deferred) (w:World),(ds.map (·.target)).Pairwise (·≠·) ->
  (∀ d,d∈ds->∃ D,d={target:=.collected D,args:=#[]}/\w.heap[D]?=some (.deferred (some [])))->LeavesInM F n P fn tmps R [] .returning (shut ds w)->LeavesInM F n P fn tmps R ds .returning w
 | [],w,_,_,h=>h
 | d::ds,w,hn,hm,h=>by obtain ⟨D,rfl,hD⟩:=hm d (by simp);simp only[List.map_cons,Afo] at hn;refine ⟨by simp,.inl ⟨D,_,rfl,run_takeDeferred hD,?_⟩⟩;refine Ky ds _ hn.2 (fun d' hd'=>?_) h;obtain ⟨D',e,h'⟩:=hm d' (by simp[hd']);refine ⟨D',e,(World.putObj_heap_other (fun e'=>?_)).trans h'⟩;have:=hn.1 d'.target (Adn hd');rw[e,e'] at this;exact this rfl
def Mk {f:FuncId} {fn:Func} {c:Code} (hf:P.funcs[f]?=some fn) (hb:fn.body=some c) {args:List AV} {H:List Ae} {res:AV} {H':List Ae} (hx:y=false->DH H'=true) (hpp:y=false->p=H.length)
  (h:Tri y none P G p c (GG P fn.results p res H') (args++Adk (fn.ntmps-args.length) .undef) H)
  (hh:Aj) (ρ:Place) (w:World) (vs:Array Value) (hs:Sim G hh ρ (hp H) w) (hvs:RL hh ρ vs args):Calls P f vs w (fun e w'=>∃ v h' ρ',e=.returned v/\Sim G h' ρ' (hp H') w'/\R h' ρ' v res/\(y=false->Bg hh ρ w h' ρ' w')):=by
 refine (JW (r:=none) (n:=0)).1 (callsIn_of_wp_marks hf hb trivial ?_);have hp0:y=false->∀ i x,ρ i=some x->i<p:=fun hy i x e=>by rw[hpp hy];obtain ⟨_,b,hb⟩:=hs.dom i x.1 x.2 e;exact (AaZ.1 hb).1
 have hfrm:Frm y none hh ρ w [] hh ρ w:=by
  cases y with
  | true=>exact Frm.startY _ _ _
  | false=>exact Frm.start _ _ _
 have hat:At y none G hh ρ w (args++Adk (fn.ntmps-args.length) .undef) (hp H) {tmps:=vs++Array.replicate (fn.ntmps-vs.size) undef,defers:=[]} w:=by
  refine ⟨hh,ρ,hs,?_,hfrm⟩;have hl:=hvs.1;rw[hl];exact RL.append (x:=args) hvs ⟨by simp,fun i v x hv hx=>by
   simp only[List.getElem?_replicate] at hx;split at hx;·cases hx;exact .undef _
   cases hx⟩
 refine wpIn_mono (h hh ρ w hp0 _ w hat) ?_;have fin:∀ s H1 a w',UW P fn.results p s H1 res H'->At y none G hh ρ w s (hp H1) a w'->LeavesInM (fR none) 0 P fn a.tmps (fun e w'=>∃ v h' ρ',e=.returned v/\Sim G h' ρ' (hp H') w'/\R h' ρ' v res/\(y=false->Bg hh ρ w h' ρ' w')) a.defers .returning w':=by
  intro s H1 a w' hk hat;have hvs:∃ vs,resVs P s H1 fn.results.toList=some vs/\((∃ fl:List (Option Nat),fl.take p=(AeK p).map some/\(fl.filterMap id).Nodup/\Bm fl H1 fl H' /\
   (Aw fl (AU vs) res\/∃ d,sealA H1 (AU vs)=some d/\res=.d (unf d)/\(fl.filterMap id).all (fun j=>!(A3 (AU vs)).contains j)=true)) \/
    (H'=H1/\(res=AU vs\/∃ d,sealA H1 (AU vs)=some d/\A3 (AU vs)=[]/\res=.d (unf d))) \/
     ∃ d,sealA H1 (AU vs)=some d/\wOK H1.length (frz H1 (A3 (AU vs)))=true/\res=.d (unf d)/\H'=applyW H1 (frz H1 (A3 (AU vs)))):=by
   rcases hk with (hk | hk) | hk
   ·unfold Wf at hk;split at hk;·rename_i vs hvs;exact ⟨vs,hvs,.inl hk⟩
    exact hk.elim
   ·split at hk;·rename_i vs hvs;exact ⟨vs,hvs,.inr (.inr hk)⟩
    exact hk.elim
   split at hk;·rename_i vs hvs;exact ⟨vs,hvs,.inr (.inl hk)⟩
   exact hk.elim
  obtain ⟨vs,hvs,hk⟩:=hvs;obtain ⟨h1,ρ1,q1,q2,q4⟩:=hat;obtain ⟨z1,z2,z3,z4,z5⟩:=Nv a.defers w'
  have notmark:∀ (ρ1:Place),(∀ d,d∈a.defers->∃ D,d={target:=.collected D,args:=#[]}/\w'.heap[D]?=some (.deferred (some []))/\w.heap.size<=D/\∀ i S,ρ1 i≠some (D,S)) ->
    ∀ i g S,ρ1 i=some (g,S)->(Abs.shut a.defers w').heap[g]?=w'.heap[g]?:=by
   intro ρ1 hm i g S e;refine z5 g (fun d hd ht=>?_);obtain ⟨D,e1,_,_,e2⟩:=hm d hd;rw[e1] at ht;cases ht;exact e2 i S e
  refine Ky a.defers w' q4.nodup (fun d hd=>by obtain ⟨D,e1,e2,_⟩:=q4.mark d hd;exact ⟨D,e1,e2⟩) ?_;obtain ⟨v,r1,r2⟩:=Tt (P:=P) (fn:=fn) (a:=a) q1 q2 (notmark ρ1 q4.mark) hvs;refine ⟨v,r1,v,?_⟩
  have last:∀ h3 ρ3,Sim G h3 ρ3 (hp H') w'->R h3 ρ3 v res->Frm y none hh ρ w a.defers h3 ρ3 w' ->
    ∃ h' ρ',Ending.returned v=.returned v/\Sim G h' ρ' (hp H') (Abs.shut a.defers w')/\R h' ρ' v res/\(y=false->Bg hh ρ w h' ρ' (Abs.shut a.defers w')):=by
   intro h3 ρ3 t1 t2 t3;refine ⟨h3,ρ3,rfl,?_,t2,fun hy=>?_⟩
   ·cases y with
    | true =>rw[(t3.nots rfl).1];exact t1
    | false =>refine t1.shut (hx rfl) z4 (fun k c E fr e=>z5 k (fun d hd ht=>?_)) (notmark ρ3 t3.mark);obtain ⟨D,e1,e2,_⟩:=t3.mark d hd;rw[e1] at ht;cases ht;rw[e2] at e;cases e
   have st:=t3.step hy;refine ⟨z1.trans st.os,z2.trans st.tape,z3.trans st.output,by rw[z4];exact st.size,fun k hk hn=>(z5 k (fun d hd ht=>?_)).trans (st.keep k hk hn),st.mono,st.new,st.rmono,st.rnew⟩;obtain ⟨D,e1,_,e2,_⟩:=t3.mark d hd;rw[e1] at ht;cases ht;omega
  rcases hk with ⟨fl,k1,k2,k3,k4⟩ | ⟨rfl,hk⟩ | ⟨d,k4,kw,rfl,rfl⟩
  rotate_left
  rotate_left
  ·obtain ⟨h2,s2,t2,f2⟩:=B8 H1 (A3 (AU vs)) h1 (hp H1) q1 (fun b _=>.inl rfl);have hd:=Cn (r2.mono t2.mono (Place.le_refl _)) k4 f2;exact last h2 ρ1 (by rw[EI _ _ kw];exact s2) (.d _ _ hd.unf) (q4.go t2.y)
  rotate_left
  ·rcases hk with rfl | ⟨d,k4,k5,rfl⟩
   ·exact last h1 ρ1 q1 r2 q4
   have hd:=Cn r2 k4 (fun b hb=>by rw[k5] at hb;cases hb);exact last h1 ρ1 q1 (.d _ _ hd.unf) q4
  rcases k4 with k4 | ⟨d,k4,k5,k6⟩
  ·have:=Nb (p:=p) (s:=[AU vs]) (s2:=[res]) (H:=H1) (H2:=H') ⟨fl,k1,k2,⟨k4,trivial⟩,k3⟩ (y:=y) (r:=none) (h0:=hh) (ρ0:=ρ) (w0:=w) hp0 (a:={tmps:=#[v],defers:=a.defers}) (w:=w')
    ⟨h1,ρ1,q1,⟨rfl,fun t v' x hv hx=>by
     cases t with
     | zero=>simp at hv hx;subst hv;subst hx;exact r2
     | succ t=>simp at hx⟩,q4⟩
   obtain ⟨h2,ρ2,u1,u2,u4⟩:=this;exact last h2 ρ2 u1 (u2.2 0 v res rfl rfl) u4
  subst k5;obtain ⟨h2,s2,t2,f2⟩:=B8 H1 (A3 (AU vs)) h1 (hp H1) q1 (fun b _=>.inl rfl);have hd:=Cn (r2.mono t2.mono (Place.le_refl _)) k4 f2;have hkeep:∀ j,some j∈fl->An (hp H1) (frz H1 (A3 (AU vs))) j=H1[j]?:=by intro j hj;refine AG _ _ j (fun q hq e=>?_);have hm:=B4 hq;rw[e] at hm;have:=Adp.1 k6 j (Ae7.2 ⟨some j,hj,rfl⟩);simp[hm] at this
  have hkill:∀ (l:List Nat) (Hx:Bf),Sim G h2 ρ1 Hx w'->∃ Hy:Bf,Sim G h2 ρ1 Hy w'/\∀ j,j∉l->Hy j=Hx j:=fun l Hx hs=>⟨Hx,hs,fun _ _=>rfl⟩
  let H3:List Ae:=(AeK H1.length).map fun j=>(An (hp H1) (frz H1 (A3 (AU vs))) j).getD .dead
  have hH3:hp H3=An (hp H1) (frz H1 (A3 (AU vs))):=by
   funext j;by_cases hj:j<H1.length
   ·have hex:∃ b,An (hp H1) (frz H1 (A3 (AU vs))) j=some b:=by
     have gen:∀ (l:List Nat) (Hx:Bf),(∃ b,Hx j=some b)->∃ b,An Hx (frz H1 l) j=some b:=by
      intro l;induction l with
      | nil=>intro Hx hx;exact hx
      | cons i r ih =>
       intro Hx hx;simp only[frz];split
       ·rw[An];refine ih _ ?_;by_cases hji:j=i;·exact ⟨_,by simp[hji];rfl⟩
        simpa[hji] using hx
       exact ih _ hx
     exact gen _ _ ⟨H1[j],Aa0 hj⟩
    obtain ⟨b,hb⟩:=hex;rw[hb];simp only[hp,H3,Ada,Afm hj,Option.map_some,hb,Option.getD_some]
   have h1:An (hp H1) (frz H1 (A3 (AU vs))) j=hp H1 j:=by
    refine AG _ _ j (fun q hq e=>?_);obtain ⟨y,hy⟩:∃ y,H1[q.1]?=some y:=by
     have gen:∀ (l:List Nat),q∈frz H1 l->∃ y,H1[q.1]?=some y:=by
      intro l;induction l with
      | nil=>intro h;simp[frz] at h
      | cons i r ih =>
       intro h;simp only[frz] at h;split at h
       ·rename_i cs hcs;rcases Afn.1 h with rfl | h
        ·exact ⟨_,hcs⟩
        exact ih h
       exact ih h
     exact gen _ hq
    have:=(AaZ.1 hy).1;omega
   rw[h1];simp only[hp,H3];rw[AeI (by simp;omega),AeI (by omega)]
  have hw3:Bm fl H3 fl H':=by
   have gen:∀ (l:List (Option Nat)) (l2:List Ae),(∀ j,some j∈l->some j∈fl)->Bm fl H1 l l2->Bm fl H3 l l2:=by
    intro l;induction l with
    | nil=>intro l2 _ h;cases l2 with | nil=>trivial | cons _ _=>simp[Bm] at h
    | cons x r ih =>
     intro l2 hm h;cases l2 with
     | nil=>cases x<;>simp[Bm] at h
     | cons b r2 =>
      cases x with
      | none =>simp only[Bm] at h ⊢;exact ⟨h.1,ih r2 (fun j hj=>hm j (by simp[hj])) h.2⟩
      | some j =>simp only[Bm] at h ⊢;refine ⟨?_,ih r2 (fun j hj=>hm j (by simp[hj])) h.2⟩;have e:H3[j]?=H1[j]?:=(congrFun hH3 j).trans (hkeep j (hm j (by simp)));rw[e];exact h.1
   exact gen fl H' (fun _ h=>h) k3
  have:=Nb (p:=p) (s:=[.d d]) (s2:=[.d d]) (H:=H3) (H2:=H') ⟨fl,k1,k2,⟨.inl rfl,trivial⟩,hw3⟩ (y:=y) (r:=none) (h0:=hh) (ρ0:=ρ) (w0:=w) hp0 (a:={tmps:=#[v],defers:=a.defers}) (w:=w')
   ⟨h2,ρ1,by rw[hH3];exact s2,⟨rfl,fun t v' x hv hx=>by
    cases t with
    | zero=>simp at hv hx;subst hv;subst hx;exact .d _ _ hd
    | succ t=>simp at hx⟩,q4.go t2.y⟩
  obtain ⟨h3,ρ3,u1,u2,u4⟩:=this;exact last h3 ρ3 u1 (by have:=u2.2 0 v _ rfl rfl;cases this with | d _ _ hx=>exact .d _ _ hx.unf) u4
 rintro e a w' ⟨s,H1,q,r⟩;cases e with
 | normal=>exact fin s H1 a w' q r
 | ret=>exact fin s H1 a w' q r
 | _=>exact q.elim
def OE {f:FuncId} {fn:Func} {c:Code} (hf:P.funcs[f]?=some fn) (hb:fn.body=some c) {args:List AV} {H:List Ae} {res:AV} {H':List Ae} (hx:y=false->DH H'=true) (hpp:y=false->p=H.length)
  (h:Tri y none P G p c (I1 P fn.results p res H') (args++Adk (fn.ntmps-args.length) .undef) H)
  (hh:Aj) (ρ:Place) (w:World) (vs:Array Value) (hs:Sim G hh ρ (hp H) w) (hvs:RL hh ρ vs args):Calls P f vs w (fun e w'=>∃ v h' ρ',e=.returned v/\Sim G h' ρ' (hp H') w'/\R h' ρ' v res/\(y=false->Bg hh ρ w h' ρ' w')) :=
 Mk hf hb hx hpp (h.mono fun e s H q=>by
  cases e with
  | ret=>exact .inl (.inl q)
  | normal=>exact .inl (.inl q)
  | _=>exact q) hh ρ w vs hs hvs
def Ctr.of_body {f:FuncId} {fn:Func} {c:Code} (hf:P.funcs[f]?=some fn) (hb:fn.body=some c) (hg:Ao P f=true) {args:List AV} {H:List Ae} {res:AV} {H':List Ae} (hx:DH H'=true)
  (h:Tri false none P G H.length c (I1 P fn.results H.length res H') (args++Adk (fn.ntmps-args.length) .undef) H):Ctr P G f args H res H' :=
 ⟨hg,fun hh ρ w vs hs hvs=>Calls.mono (OE hf hb (fun _=>hx) (fun _=>rfl) h hh ρ w vs hs hvs) (fun e w' ⟨v,h',ρ',e1,e2,e3,e4⟩=>⟨v,h',ρ',e1,e2,e3,e4 rfl⟩)⟩
def OV.body {f:FuncId} {fn:Func} {c:Code} (hm:P.follows .mixedOrders=true) (hf:P.funcs[f]?=some fn) (hb:fn.body=some c) (hg:Ao P f=true) {caps:List AV} {HI:List Ae} {xs:List D}
  (h:∀ (l:Nat) (J:List (D × Bool)->Aj->Place->World->Prop) (todo:List (D × Bool)),KW P l J->Tdo xs todo ->
   Fd P G M 1 c (I1 P fn.results 1 .undef [.ext J []]) (.fn (.yield l) [] []::caps++Adk (fn.ntmps-(caps.length+1)) .undef) (.ext J todo::HI)) (hM:M 3000000=true:=by rfl):OV P G f caps HI xs:=by
 intro l J todo hJ hT;refine ⟨hg,fun hh ρ w vs hs hvs=>?_⟩;have ht:=Tri.of_awp (r:=none) hm c _ _ _ (h l J todo hJ hT);rw[hM] at ht;exact Calls.mono (OE (y:=true) hf hb (fun e=>by cases e) (fun e=>by cases e) ht hh ρ w vs hs hvs) (fun e w' ⟨v,h',ρ',e1,e2,_,_⟩=>⟨v,h',ρ',e1,e2⟩)
def PureRet (P:Program) (rs:Array ResultVar) (s:List AV) (H:List Ae) (d:D):Prop :=
 match resVs P s H rs.toList with
 | some vs=>match sealA H (AU vs) with
   | some d'=>unf d'=d
   | none=>False
 | none=>False
def Ed (P:Program) (rs:Array ResultVar) (d:D):AC
 | .ret,s,H=>PureRet P rs s H d
 | .normal,s,H=>PureRet P rs s H d
 | _,_,_=>False
def Ctr.pure {f:FuncId} {fn:Func} {c:Code} (hm:P.follows .mixedOrders=true) (hf:P.funcs[f]?=some fn) (hb:fn.body=some c) (hg:Ao P f=true) {args:List AV} {d:D}
  (h:Fd P G M 0 c (Ed P fn.results d) (args++Adk (fn.ntmps-args.length) .undef) []) (hM:M 3000000=false:=by rfl):Ctr P G f args [] (.d d) []:=by
 refine Ctr.of_body hf hb hg rfl (Tri.mono (y:=false) (by have:=Tri.of_awp (r:=none) hm c _ _ _ h;rwa[hM] at this) ?_);intro e s H q;have fin:PureRet P fn.results s H d->Wf P fn.results 0 s H (.d d) []:=by
  intro q;unfold PureRet at q;split at q
  ·rename_i vs hvs;split at q
   ·rename_i d' hd';unfold Wf;split;·rename_i vs2 hvs2;rw[hvs] at hvs2;cases hvs2;exact ⟨[],rfl,Afk,trivial,.inr ⟨d',hd',by rw[q],rfl⟩⟩
    rename_i hno;rw[hvs] at hno;cases hno
   exact q.elim
  exact q.elim
 cases e with
 | normal=>exact fin q
 | ret=>exact fin q
 | _=>exact q.elim
def Ctr.body {f:FuncId} {fn:Func} {c:Code} (hm:P.follows .mixedOrders=true) (hf:P.funcs[f]?=some fn) (hb:fn.body=some c) (hg:Ao P f=true) {args:List AV} {H:List Ae} {res:AV} {H':List Ae}
  (h:Fd P G M H.length c (I1 P fn.results H.length res H') (args++Adk (fn.ntmps-args.length) .undef) H) (hM:M 3000000=false:=by rfl) (hx:DH H'=true:=by rfl):Ctr P G f args H res H' :=
 Ctr.of_body hf hb hg hx (by have:=Tri.of_awp (r:=none) hm c _ _ _ h;rwa[hM] at this)
def Ctr.bodyI {f:FuncId} {fn:Func} {c:Code} (hm:P.follows .mixedOrders=true) (hf:P.funcs[f]?=some fn) (hb:fn.body=some c) (hg:Ao P f=true) {args:List AV} {H:List Ae} {res:AV} {H':List Ae} (hx:DH H'=true)
  (h:Fd P G M H.length c (GG P fn.results H.length res H') (args++Adk (fn.ntmps-args.length) .undef) H) (hM:M 3000000=false:=by rfl):Ctr P G f args H res H' :=
 ⟨hg,fun hh ρ w vs hs hvs=>Calls.mono (Mk (y:=false) (p:=H.length) hf hb (fun _=>hx) (fun _=>rfl) (by have:=Tri.of_awp (r:=none) hm c _ _ _ h;rwa[hM] at this) hh ρ w vs hs hvs) (fun e w' ⟨v,h',ρ',e1,e2,e3,e4⟩=>⟨v,h',ρ',e1,e2,e3,e4 rfl⟩)⟩
def mkS (n:Nat) (l:List (Nat × AV)):List AV:=l.foldl (fun s p=>s.set p.1 p.2) (Adk n .undef)
end
end Go.Abs
namespace Go.Abs
open Go
section
variable {P:Program} {G:Ah} {M:Ci} {p:Nat}
def Ak (P:Program) (G:Ah) (M:Ci) (p:Nat) (c:Code) (Q:AC) (s:List AV) (H:List Ae):Prop:=Acu p (Fd P G M p c) Q s H
def Xk (P:Program) (G:Ah) (M:Ci) (p:Nat) (c:Code) (Q:AC):AC:=LI (Fd P G M p c Q) Q
def AaP {α:Type} (p:Nat) (n:Nat) (μ:α->Nat) (S:α->List AV) (HH:α->List Ae) (R:α->Prop) (s:List AV) (H:List Ae):Prop :=
 ∃ x,R x/\μ x<n/\DB p s H (S x) (HH x)
def Hv {α:Type} (p:Nat) (n:Nat) (μ:α->Nat) (S:α->List AV) (HH:α->List Ae) (R:α->Prop) (Q:AC):AC:=LI (AaP p n μ S HH R) Q
def awp_skip {Q:AC} {s:List AV} {H:List Ae}:Fd P G M p .skip Q s H=Q .normal s H:=rfl
def awp_seq {a b:Code} {Q:AC} {s:List AV} {H:List Ae}:Fd P G M p (.seq a b) Q s H=Fd P G M p a (Xk P G M p b Q) s H:=rfl
def awp_block {i:Nat} {c:Code} {Q:AC} {s:List AV} {H:List Ae}:Fd P G M p (.block i c) Q s H=Fd P G M p c (CX i Q) s H:=rfl
def awp_loop {c:Code} {Q:AC} {s:List AV} {H:List Ae}:Fd P G M p (.loop c) Q s H=Ak P G M p c Q s H:=rfl
def awp_exit {i:Nat} {Q:AC} {s:List AV} {H:List Ae}:Fd P G M p (.exit i) Q s H=Q (.exit i) s H:=rfl
def awp_ret {Q:AC} {s:List AV} {H:List Ae}:Fd P G M p .ret Q s H=Q .ret s H:=rfl
def ThenC_normal {c:Code} {Q:AC} {s:List AV} {H:List Ae}:Xk P G M p c Q .normal s H=Fd P G M p c Q s H:=rfl
def ThenC_exit {c:Code} {Q:AC} {i:Nat} {s:List AV} {H:List Ae}:Xk P G M p c Q (.exit i) s H=Q (.exit i) s H:=rfl
def ThenC_ret {c:Code} {Q:AC} {s:List AV} {H:List Ae}:Xk P G M p c Q .ret s H=Q .ret s H:=rfl
def RoundQ_normal {α:Type} {n:Nat} {μ:α->Nat} {S:α->List AV} {HH:α->List Ae} {R:α->Prop} {Q:AC} {s:List AV} {H:List Ae}:Hv p n μ S HH R Q .normal s H=AaP p n μ S HH R s H:=rfl
def RoundQ_exit {α:Type} {n:Nat} {μ:α->Nat} {S:α->List AV} {HH:α->List Ae} {R:α->Prop} {Q:AC} {i:Nat} {s:List AV} {H:List Ae}:Hv p n μ S HH R Q (.exit i) s H=Q (.exit i) s H:=rfl
def RoundQ_ret {α:Type} {n:Nat} {μ:α->Nat} {S:α->List AV} {HH:α->List Ae} {R:α->Prop} {Q:AC} {s:List AV} {H:List Ae}:Hv p n μ S HH R Q .ret s H=Q .ret s H:=rfl
def ablock_normal {i:Nat} {Q:AC} {s:List AV} {H:List Ae}:CX i Q .normal s H=Q .normal s H:=rfl
def ablock_ret {i:Nat} {Q:AC} {s:List AV} {H:List Ae}:CX i Q .ret s H=Q .ret s H:=rfl
def Ak.inv {α:Type} (μ:α->Nat) (S:α->List AV) (HH:α->List Ae) (R:α->Prop) {c:Code} {Q:AC} {s:List AV} {H:List Ae} (x0:α) (h0:R x0) (hw:DB p s H (S x0) (HH x0))
  (round:∀ x,R x->Fd P G M p c (Hv p (μ x) μ S HH R Q) (S x) (HH x)):Ak P G M p c Q s H:=by
 refine ⟨false,Q,fun n s H=>∃ x,R x/\n=μ x/\s=S x/\H=HH x,fun _ _ _ q=>.inl q,⟨_,_,_,.weak hw,x0,h0,rfl,rfl,rfl⟩,?_⟩;rintro n s H ⟨x,hx,rfl,rfl,rfl⟩;have:=round x hx;have e:Hv p (μ x) μ S HH R Q=LI (UX false p (μ x) fun n s H=>∃ x,R x/\n=μ x/\s=S x/\H=HH x) Q:=by
  funext e s H;cases e with
  | normal =>
   refine propext ⟨?_,?_⟩;·rintro ⟨y,h1,h2,h3⟩;exact ⟨μ y,S y,HH y,h2,h3,y,h1,rfl,rfl,rfl⟩
   rintro ⟨_,_,_,h2,h3,y,h1,rfl,rfl,rfl⟩;exact ⟨y,h1,h2,h3⟩
  | _=>rfl
 rw[e] at this;exact this
def AaO {α:Type} (n:Nat) (μ:α->Nat) (S:α->List AV) (HH:α->List Ae) (R:α->Prop) (s:List AV) (H:List Ae):Prop :=
 ∃ x,R x/\μ x<n/\((HH x=H/\Dg s (S x))\/∃ s1,Acp s H s1 (HH x)/\Dg s1 (S x))
def Jk {α:Type} (n:Nat) (μ:α->Nat) (S:α->List AV) (HH:α->List Ae) (R:α->Prop) (Q:AC):AC:=LI (AaO n μ S HH R) Q
def RoundIQ_normal {α:Type} {n:Nat} {μ:α->Nat} {S:α->List AV} {HH:α->List Ae} {R:α->Prop} {Q:AC} {s:List AV} {H:List Ae}:Jk n μ S HH R Q .normal s H=AaO n μ S HH R s H:=rfl
def RoundIQ_exit {α:Type} {n:Nat} {μ:α->Nat} {S:α->List AV} {HH:α->List Ae} {R:α->Prop} {Q:AC} {i:Nat} {s:List AV} {H:List Ae}:Jk n μ S HH R Q (.exit i) s H=Q (.exit i) s H:=rfl
def RoundIQ_ret {α:Type} {n:Nat} {μ:α->Nat} {S:α->List AV} {HH:α->List Ae} {R:α->Prop} {Q:AC} {s:List AV} {H:List Ae}:Jk n μ S HH R Q .ret s H=Q .ret s H:=rfl
def Ak.invI {α:Type} (μ:α->Nat) (S:α->List AV) (HH:α->List Ae) (R:α->Prop) {c:Code} {Q:AC} {s:List AV} {H:List Ae} (x0:α) (h0:R x0) (hw:Fe p s H (S x0) (HH x0))
  (round:∀ x,R x->Fd P G M p c (Jk (μ x) μ S HH R Q) (S x) (HH x)):Ak P G M p c Q s H:=by
 refine ⟨true,Q,fun n s H=>∃ x,R x/\n=μ x/\s=S x/\H=HH x,fun _ _ _ q=>.inl q,⟨_,_,_,hw,x0,h0,rfl,rfl,rfl⟩,?_⟩;rintro n s H ⟨x,hx,rfl,rfl,rfl⟩;have:=round x hx;have e:Jk (μ x) μ S HH R Q=LI (UX true p (μ x) fun n s H=>∃ x,R x/\n=μ x/\s=S x/\H=HH x) Q:=by
  funext e s H;cases e with
  | normal =>
   refine propext ⟨?_,?_⟩;·rintro ⟨y,h1,h2,h3⟩;exact ⟨μ y,S y,HH y,h2,h3,y,h1,rfl,rfl,rfl⟩
   rintro ⟨_,_,_,h2,h3,y,h1,rfl,rfl,rfl⟩;exact ⟨y,h1,h2,h3⟩
  | _=>rfl
 rw[e] at this;exact this
def CutC {β:Type} (p:Nat) (SE:β->List AV) (HE:β->List Ae) (E:β->Prop) (s:List AV) (H:List Ae):Prop:=∃ y,E y/\DB p s H (SE y) (HE y)
def Wk {β:Type} (p:Nat) (SE:β->List AV) (HE:β->List Ae) (E:β->Prop) (Q:AC):AC:=LI (CutC p SE HE E) Q
def CutQ_normal {β:Type} {SE:β->List AV} {HE:β->List Ae} {E:β->Prop} {Q:AC} {s:List AV} {H:List Ae}:Wk p SE HE E Q .normal s H=CutC p SE HE E s H:=rfl
def Ak.cut {α β:Type} (μ:α->Nat) (S:α->List AV) (HH:α->List Ae) (R:α->Prop) (SE:β->List AV) (HE:β->List Ae) (E:β->Prop) {c:Code} {id:Nat} {Q:AC} {s:List AV} {H:List Ae} (x0:α) (h0:R x0) (hw:DB p s H (S x0) (HH x0))
  (round:∀ x,R x->Fd P G M p c (Hv p (μ x) μ S HH R (CX id (Wk p SE HE E Q))) (S x) (HH x)) (rest:∀ y,E y->Q .normal (SE y) (HE y)):Ak P G M p c (CX id Q) s H:=by
 have key:∀ s H,Wk p SE HE E Q .normal s H->∃ s2 H2,Fe p s H s2 H2/\Q .normal s2 H2:=fun s H ⟨y,e1,e2⟩=>⟨_,_,.weak e2,rest y e1⟩;refine ⟨false,CX id (Wk p SE HE E Q),fun n s H=>∃ x,R x/\n=μ x/\s=S x/\H=HH x,fun e s H q=>?_,⟨_,_,_,.weak hw,x0,h0,rfl,rfl,rfl⟩,?_⟩
 ·cases e with
  | normal=>exact .inr (key s H q)
  | exit i =>
   by_cases hi:i=id;·simp only[CX,if_pos hi] at q ⊢;exact .inr (key s H q)
   simp only[CX,if_neg hi] at q ⊢;exact .inl q
  | _=>exact .inl q
 rintro n s H ⟨x,hx,rfl,rfl,rfl⟩;have:=round x hx;have e:Hv p (μ x) μ S HH R (CX id (Wk p SE HE E Q))=LI (UX false p (μ x) fun n s H=>∃ x,R x/\n=μ x/\s=S x/\H=HH x) (CX id (Wk p SE HE E Q)):=by
  funext e s H;cases e with
  | normal =>
   refine propext ⟨?_,?_⟩;·rintro ⟨y,h1,h2,h3⟩;exact ⟨μ y,S y,HH y,h2,h3,y,h1,rfl,rfl,rfl⟩
   rintro ⟨_,_,_,h2,h3,y,h1,rfl,rfl,rfl⟩;exact ⟨y,h1,h2,h3⟩
  | _=>rfl
 rw[e] at this;exact this
def DB.pure {s s2:List AV} {H:List Ae} (h:CK [] s s2):DB 0 s H s2 []:=⟨[],rfl,Afk,h,trivial⟩
section
variable {k:Eff->Prop} {H:List Ae} {x y c:AV} {ev:Operand->AV}
abbrev TR:=List (List Nat × List Nat)
abbrev RK:=List AV->List Ae->TR->Prop
def DK (k:Eff->Prop) (d:D):Prop:=k ⟨.d d,[],[]⟩
def DK_eq {d:D}:DK k d=k ⟨.d d,[],[]⟩:=rfl
def AaA (op:BinOp) (ka:IntKind) (a:Int) (kb:IntKind) (b:Int) (K:D->Prop) (c:Bool):Prop:=if c then Lc op ka a b K else ka=kb/\Yc op ka a b K
def binC_t {op:BinOp} {ka kb:IntKind} {a b:Int} {K:D->Prop}:AaA op ka a kb b K true=Lc op ka a b K:=by simp[AaA]
def binC_f {op:BinOp} {ka kb:IntKind} {a b:Int} {K:D->Prop}:AaA op ka a kb b K false=(ka=kb/\Yc op ka a b K):=by simp[AaA]
def binK_eq {op:BinOp} {t:Nat}:AbY P op t x y k=match x,y with
 | .d (.int ka a),.d (.int kb b)=>AaA op ka a kb b (DK k) (B3 op)
 | .d (.str a),.d (.str b)=>Za op a b (DK k)
 | .d (.bool a),.d (.bool b)=>M5 P t=true/\match op with
   | .eql=>k ⟨.d (.bool (a == b)),[],[]⟩
   | .neq=>k ⟨.d (.bool (!(a == b))),[],[]⟩
   | _=>False
 | x,y=>OR P op t x y k:=rfl
def OpC (P:Program) (G:Ah) (M:Ci) (ops:Array Oper) (rest:List Oper) (s:List AV) (H:List Ae) (tr:TR) (dst:Option Nat) (K:RK) (e:Eff):Prop :=
 wOK H.length e.w=true/\E7 P G M ops rest (putA s dst e.res) (applyW H e.w) (tr++[(e.r,e.w.map (·.1))]) K
def OpC_mk {ops:Array Oper} {rest:List Oper} {s:List AV} {tr:TR} {dst:Option Nat} {K:RK} {v:AV} {w:List (Nat × Ae)} {r:List Nat} :
  OpC P G M ops rest s H tr dst K ⟨v,w,r⟩=(wOK H.length w=true/\E7 P G M ops rest (putA s dst v) (applyW H w) (tr++[(r,w.map (·.1))]) K):=rfl
def RegE (ops:Array Oper) (d:Bool) (Q:AC):RK:=fun s H tr=>(d=true->Ek ops tr=true)/\Q .normal s H
def awp_region {i:Nat} {l:List Oper} {d:Bool} {Q:AC} {s:List AV}:Fd P G M p (.region i l.toArray d) Q s H=E7 P G M l.toArray l s H [] (RegE l.toArray d Q):=rfl
def regK_nil {ops ops':Array Oper} {s:List AV} {tr:TR} {d:Bool} {Q:AC}:E7 P G M ops [] s H tr (RegE ops' d Q)=((d=true->Ek ops' tr=true)/\Q .normal s H):=rfl
def Mc (P:Program) (G:Ah) (M:Ci) (ops:Array Oper) (o:Oper) (g:Option (Nat × Bool)) (rest:List Oper) (s:List AV) (H:List Ae) (tr:TR) (K:RK):Prop :=
 match g with
 | none=>opK P G M o (evalA G s) H (OpC P G M ops rest s H tr o.dst K)
 | some (j,want)=>match Da ops j with
   | some t=>match s.getD t .undef with
     | .d (.bool c) =>
      (c=want->opK P G M o (evalA G (s.set t (.d (.bool want)))) H (OpC P G M ops rest (s.set t (.d (.bool want))) H tr o.dst K)) /\
      (c=(!want)->E7 P G M ops rest (putA (s.set t (.d (.bool (!want)))) o.dst (.tup [])) H (tr++[([],[])]) K)
     | .tup []=>E7 P G M ops rest (putA s o.dst (.tup [])) H (tr++[([],[])]) K
     | _=>False
   | none=>False
def Eo (P:Program) (G:Ah) (M:Ci) (ops:Array Oper) (o:Oper) (t:Nat) (want:Bool) (rest:List Oper) (s:List AV) (H:List Ae) (tr:TR) (K:RK) (g:AV):Prop :=
 match g with
 | .d (.bool c) =>
       (c=want->Mc P G M ops o none rest (s.set t (.d (.bool want))) H tr K) /\
       (c=(!want)->E7 P G M ops rest (putA (s.set t (.d (.bool (!want)))) o.dst (.tup [])) H (tr++[([],[])]) K)
 | .tup []=>E7 P G M ops rest (putA s o.dst (.tup [])) H (tr++[([],[])]) K
 | _=>False
def regK_cons {ops:Array Oper} {o:Oper} {rest:List Oper} {s:List AV} {tr:TR} {K:RK}:E7 P G M ops (o::rest) s H tr K=Mc P G M ops o o.guard rest s H tr K:=rfl
def operC_none {ops:Array Oper} {o:Oper} {rest:List Oper} {s:List AV} {tr:TR} {K:RK}:Mc P G M ops o none rest s H tr K=opK P G M o (evalA G s) H (OpC P G M ops rest s H tr o.dst K):=rfl
def operC_some {ops:Array Oper} {o:Oper} {j:Nat} {want:Bool} {rest:List Oper} {s:List AV} {tr:TR} {K:RK}:Mc P G M ops o (some (j,want)) rest s H tr K=match Da ops j with
  | some t=>Eo P G M ops o t want rest s H tr K (s.getD t .undef)
  | none=>False:=rfl
def GuardC_dead {ops:Array Oper} {o:Oper} {t:Nat} {want:Bool} {rest:List Oper} {s:List AV} {tr:TR} {K:RK}:Eo P G M ops o t want rest s H tr K (.tup [])=E7 P G M ops rest (putA s o.dst (.tup [])) H (tr++[([],[])]) K:=rfl
def guardSlot_list {l:List Oper} {j:Nat}:Da l.toArray j=match l[j]? with
  | some o=>o.dst
  | none=>none:=by simp only[Da,List.getElem?_toArray];cases l[j]?<;>rfl
def mmK_2 {b:Bool} {kk k2:IntKind} {n m:Int}:mmK b [.d (.int kk n),.d (.int k2 m)] k=k ⟨.d (.int kk (if b then (if m > n then m else n) else (if m<n then m else n))),[],[]⟩:=rfl
def Ad (P:Program) (G:Ah) (H:List Ae) (f:FuncId) (ars:List AV) (L ids:List Nat) (HC:List Ae) (k:Eff->Prop):Prop :=
 ∃ res Hn ks,Ctr P G f ars HC res Hn/\L.length<=Hn.length/\VL H ks (callEff H L ids res Hn)/\k (dropE ks (callEff H L ids res Hn))
def Acv (P:Program) (G:Ah) (M:Ci) (H:List Ae) (f:FuncId) (avs:List AV) (L:List Nat) (k:Eff->Prop):Prop :=
 match passL H L avs,passBs H L L with
 | some ars,some HC=>((sidsL H L avs++sidsBs H L L).all fun b=>!L.contains b)=true/\Ad P G H f (if M f then ars else ars.map unfA) L (sidsL H L avs++sidsBs H L L) HC k
 | _,_=>False
def callK_list {f:FuncId} {avs:List AV}:Aaw P G M H f avs k=Acv P G M H f avs (passIds (M f) H avs) k:=rfl
def Ad.pure {f:FuncId} {ars:List AV} {d:D} (h:Ctr P G f ars [] (.d d) []) (hk:k ⟨.d d,[],[]⟩):Ad P G H f ars [] [] [] k:=by
 refine ⟨.d d,[],[],h,Ado _,.inl rfl,?_⟩;rw[Jd];unfold callEff;split;·exact hk
 exact hk
def Ad.of {f:FuncId} {ars ars':List AV} {d:D} (h:Ctr P G f ars' [] (.d d) []) (e:ars=ars') (hk:k ⟨.d d,[],[]⟩):Ad P G H f ars [] [] [] k:=.pure (e▸h) hk
def Ad.frozen {f:FuncId} {ars:List AV} {ids:List Nat} {d:D} (h:Ctr P G f ars [] (.d d) []) (hk:k ⟨.d d,if Cl (.d d) then [] else frz H ids,ids⟩):Ad P G H f ars [] ids [] k:=by refine ⟨.d d,[],[],h,Ado _,.inl rfl,?_⟩;rw[Jd];unfold callEff;cases e:Cl (.d d)<;>simp[e,outW,renA] at hk ⊢<;>exact hk
end
end
end Go.Abs
namespace Go.Abs
open Go
def wr_i64 {x:Int} (h1:-9223372036854775808<=x) (h2:x<=9223372036854775807):IntKind.i64.wrap x=x:=by simp[IntKind.wrap,IntKind.bits,IntKind.signed];omega
def wr_u64 {x:Int} (h1:0<=x) (h2:x<=18446744073709551615):IntKind.u64.wrap x=x:=by simp[IntKind.wrap,IntKind.bits,IntKind.signed];omega
def wr_u32 {x:Int} (h1:0<=x) (h2:x<=4294967295):IntKind.u32.wrap x=x:=by simp[IntKind.wrap,IntKind.bits,IntKind.signed];omega
def wr_u8 {x:Int} (h1:0<=x) (h2:x<=255):IntKind.u8.wrap x=x:=by simp[IntKind.wrap,IntKind.bits,IntKind.signed];omega
def c_lt {a b:Int} (h:a<b):(a<b)=True:=eq_true h
def c_le {a b:Int} (h:a<=b):(a<=b)=True:=eq_true h
def c_nlt {a b:Int} (h:¬a<b):(a<b)=False:=eq_false h
def c_nle {a b:Int} (h:¬a<=b):(a<=b)=False:=eq_false h
def n_eq {a b:Nat} (h:a=b):(a=b)=True:=eq_true h
def n_ne {a b:Nat} (h:¬a=b):(a=b)=False:=eq_false h
def c_eqt {a b:Int} (h:a=b):(a=b)=True:=eq_true h
def c_eq {a b:Int} (h:¬a=b):(a=b)=False:=eq_false h
def n_lt {a b:Nat} (h:a<b):(a<b)=True:=eq_true h
def n_le {a b:Nat} (h:a<=b):(a<=b)=True:=eq_true h
def n_nlt {a b:Nat} (h:¬a<b):(a<b)=False:=eq_false h
def Um {a b:Nat}:Int.fdiv (a:Int) (b:Int)=((a / b:Nat):Int):=by rw[Afd _ (by omega)];rfl
def fdiv_pos {a b:Int} (h:0<=b):Int.fdiv a b=a / b:=Afd _ h
def YE {a b:Int} (h1:0<=a) (h2:a<18446744073709551616) (h3:0<=b) (h4:b<18446744073709551616):CR .or .u64 a b=((a.toNat ||| b.toNat:Nat):Int):=u64_or a b h1 h2 h3 h4
def Em {a b:Nat} (h2:a<4294967296) (h4:b<4294967296):CR .and .u32 (a:Int) (b:Int)=((a &&& b:Nat):Int):=u32_and_nat a b h2 h4
def DM {a b:Nat} (h2:a<4294967296) (h4:b<4294967296):CR .or .u32 (a:Int) (b:Int)=((a ||| b:Nat):Int):=u32_or_nat a b h2 h4
def IF {a b:Nat} (h2:a<4294967296) (h4:b<4294967296):CR .xor .u32 (a:Int) (b:Int)=((a ^^^ b:Nat):Int):=u32_xor_nat a b h2 h4
def AF (k:IntKind) (l:List Int):List D:=l.map (.int k)
def ints_set {k:IntKind} {l:List Int} {n:Nat} {v:Int}:(AF k l).set n (.int k v)=AF k (l.set n v):=by simp[AF,AfB]
def ints_length {k:IntKind} {l:List Int}:(AF k l).length=l.length:=by simp[AF]
def ints_getD {k:IntKind} {l:List Int} {i:Nat} {d:D} (h:i<l.length):(AF k l).getD i d=.int k (l.getD i 0):=by simp[AF,Adl,Ada,Aa0 h]
def cut_ints {k:IntKind} {l:List Int} {a n:Nat}:cut (AF k l) a n=AF k ((l.drop a).take n):=by simp[cut,AF,Afw,Afx]
def toNat_cast {n:Nat}:((n:Int)).toNat=n:=Int.toNat_natCast n
def A1 (k:IntKind) (l:List Nat):List D:=l.map fun (n:Nat)=>D.int k (n:Int)
def nats_length {k:IntKind} {l:List Nat}:(A1 k l).length=l.length:=by simp[A1]
def nats_getD {k:IntKind} {l:List Nat} {i:Nat} {d:D} (h:i<l.length):(A1 k l).getD i d=.int k (l.getD i 0:Nat):=by simp[A1,Adl,Ada,Aa0 h]
def cut_nats {k:IntKind} {l:List Nat} {a n:Nat}:cut (A1 k l) a n=A1 k ((l.drop a).take n):=by simp[cut,A1,Afw,Afx]
def nats_set {k:IntKind} {l:List Nat} {n:Nat} {v:Nat}:(A1 k l).set n (.int k (v:Int))=A1 k (l.set n v):=by simp[A1,AfB]
def nats_push {k:IntKind} {l:List Nat} {v:Nat}:A1 k l++[D.int k (v:Int)]=A1 k (l++[v]):=by simp[A1]
def zeros_nats {k:IntKind} {n:Nat}:AZ [.int k 0] n=A1 k (Adk n 0):=by rw[Nf];simp[A1]
def mx_nat {n m:Nat}:(if ((m:Nat):Int) > ((n:Nat):Int) then (m:Int) else (n:Int))=((max n m:Nat):Int):=by
 by_cases h:m > n;·rw[if_pos (by omega)];omega
 rw[if_neg (by omega)];omega
def cast_add {a b:Nat}:((a:Nat):Int)+((b:Nat):Int)=((a+b:Nat):Int):=rfl
def cast_add1 {a:Nat}:((a:Nat):Int)+1=((a+1:Nat):Int):=rfl
def cast_mul {a b:Nat}:((a:Nat):Int)*((b:Nat):Int)=((a*b:Nat):Int):=rfl
def getD_8 {a0 a1 a2 a3 a4 a5 a6 a7 d:AV} {l:List AV} {i:Nat}:(a0::a1::a2::a3::a4::a5::a6::a7::l).getD (i+8) d=l.getD i d:=rfl
def set_8 {a0 a1 a2 a3 a4 a5 a6 a7 v:AV} {l:List AV} {i:Nat}:(a0::a1::a2::a3::a4::a5::a6::a7::l).set (i+8) v=a0::a1::a2::a3::a4::a5::a6::a7::(l.set i v):=rfl
section
variable {P:Program} {H:List Ae} {x i l c:AV} {k:Eff->Prop}
@[reducible] def Ob (q A:Prop):Prop:=q/\(q->A)
@[congr] theorem AeX {q A q' A':Prop} (h1:q=q') (h2:q'->A=A'):Ob q A=Ob q' A':=by subst h1;exact propext ⟨fun h=>⟨h.1,fun x=>h2 x▸h.2 x⟩,fun h=>⟨h.1,fun x=>(h2 x).symm▸h.2 x⟩⟩
def Ob_triv {A:Prop}:Ob A True=A:=by simp[Ob]
def imp3 {A B C:Prop}:(A/\(A->B/\(B->C)))=(A/\B/\C):=propext ⟨fun h=>⟨h.1,(h.2 h.1).1,(h.2 h.1).2 (h.2 h.1).1⟩,fun h=>⟨h.1,fun _=>⟨h.2.1,fun _=>h.2.2⟩⟩⟩
def imp4 {A B C D:Prop}:(A/\(A->B/\(B->C/\(C->D))))=(A/\B/\C/\D) :=
 propext ⟨fun h=>⟨h.1,(h.2 h.1).1,((h.2 h.1).2 (h.2 h.1).1).1,((h.2 h.1).2 (h.2 h.1).1).2 ((h.2 h.1).2 (h.2 h.1).1).1⟩,fun h=>⟨h.1,fun _=>⟨h.2.1,fun _=>⟨h.2.2.1,fun _=>h.2.2.2⟩⟩⟩⟩
def indexAddrK_eq {t:Nat}:Hi P t x i k=match i with
 | .d (.int _ i)=>match Au P t with
   | some (_,te)=>match x with
     | .lsl b sz off n=>sz=te.size/\Ob (0<=i) (Ob (i<n) (k ⟨.ptr b (off+i.toNat*sz),[],[]⟩))
     | .d (.sl n _ cs)=>Ob (0<=i) (Ob (i<n) (k ⟨.rptr (i.toNat*te.size) cs,[],[]⟩))
     | _=>False
   | none=>match FR P t with
     | some (n,_,sz)=>Ob (0<=i) (Ob (i<n) (match x with
       | .ptr b off=>k ⟨.ptr b (off+i.toNat*sz),[],[]⟩
       | .rptr off cs=>k ⟨.rptr (off+i.toNat*sz) cs,[],[]⟩
       | _=>False))
     | none=>False
 | _=>False:=by
 simp only[Ob,imp3];rfl
def sliceK_eq {ev:Operand->AV} {t:Nat} {x:AV} {lo hi mx:Option Operand}:RY P H ev t x lo hi mx k=match x with
 | .d (.str s)=>match bnd ev 0 lo,bnd ev s.size hi with
   | some l,some h=>DW P t=true/\mx.isNone=true/\Ob (0<=l) (Ob (l<=h) (Ob (h<=s.size) (k ⟨.d (.str (s.extract l.toNat h.toNat)),[],[]⟩)))
   | _,_=>False
 | .d (.sl n full cs)=>match Au P t with
   | some (_,te)=>match mx with
     | none=>match bnd ev 0 lo,bnd ev n hi with
       | some l,some h=>Ob (0<=l) (Ob (l<=h) (Ob (h<=n) (k ⟨.d (.sl (h.toNat-l.toNat) (full && hi.isNone) (cut cs (l.toNat*te.size) ((h.toNat-l.toNat)*te.size))),[],[]⟩)))
       | _,_=>False
     | some m=>match bnd ev 0 lo,bnd ev n hi,bnd ev 0 (some m) with
       | some l,some h,some m=>hi.isSome=true/\0<=l/\l<=h/\h<=m/\m<=n /\
         k ⟨.d (.sl (h.toNat-l.toNat) (decide (h=m)) (cut cs (l.toNat*te.size) ((h.toNat-l.toNat)*te.size))),[],[]⟩
       | _,_,_=>False
   | none=>False
 | .lsl b sz off n=>match Au P t with
   | some (_,te)=>sz=te.size/\match mx with
     | none=>match bnd ev 0 lo,bnd ev n hi with
       | some l,some h=>Ob (0<=l) (Ob (l<=h) (Ob (h<=n) (k ⟨.lsl b sz (off+l.toNat*sz) (h.toNat-l.toNat),[],[]⟩)))
       | _,_=>False
     | some m=>match H[b]? with
       | some (.row _ cs)=>match bnd ev 0 lo,bnd ev n hi,bnd ev 0 (some m) with
         | some l,some h,some m=>hi.isSome=true/\0<=l/\l<=h/\h<=m/\m<=n /\
           k ⟨.d (.sl (h.toNat-l.toNat) (decide (h=m)) (cut cs (off+l.toNat*sz) ((h.toNat-l.toNat)*sz))),frz H [b],[b]⟩
         | _,_,_=>False
       | _=>False
   | none=>False
 | _=>False:=by
 simp only[Ob,imp4];rfl
def zerosF (z:List D):Nat->Nat->List AV
 | 0,_=>[]
 | n+1,i=>.d (z.getD (i % z.length) .nilp)::zerosF z n (i+1)
def IK (z:List D):∀ (n i:Nat),zerosF z n i=(AeK n).map fun j=>AV.d (z.getD ((i+j) % z.length) .nilp)
 | 0,i=>rfl
 | n+1,i=>by rw[zerosF,IK z n (i+1),Afh,List.map_cons,Afc];congr 1;apply Ae6;intro j _;simp only[Afy];rw[show i+1+j=i+(j+1) by omega]
def buildBoxK_eq {ev:Operand->AV} {t len:Nat} {parts:Array (Nat × Operand)}:Ji P ev H t len parts k=match Au P t with
 | some (_,te)=>match partsA ev parts.toList with
   | some ps=>match fillA (fun i=>some (i*te.size,te.size)) (zerosF te.zero (len*te.size) 0) ps with
     | some cs=>len*te.size<=16777216/\0<te.zero.length/\k ⟨.lsl H.length te.size 0 len,[(H.length,.box cs)],[H.length]⟩
     | none=>False
   | none=>False
 | none=>False:=by
 have e:∀ (z:List D) (n:Nat),zerosF z n 0=(AZ z n).map AV.d:=fun z n=>by rw[IK,AZ,Afc];apply Ae6;intro j _;simp
 simp only[e];rfl
def makeBoxK_eq {t:Nat} {l c:AV}:Kx P H t l c k=match Au P t,l,c with
 | some (_,te),.d (.int _ l),.d (.int _ c)=>0<=l/\l<=c/\(te.bytes:Int)*c<=281474976710656/\c<=9223372036854775807/\0<te.zero.length /\
   k ⟨.lsl H.length te.size 0 l.toNat,[(H.length,.box (zerosF te.zero (l.toNat*te.size) 0))],[H.length]⟩
 | _,_,_=>False:=by
 have e:∀ (z:List D) (n:Nat),zerosF z n 0=(AZ z n).map AV.d:=fun z n=>by rw[IK,AZ,Afc];apply Ae6;intro j _;simp
 simp only[e];rfl
def buildSliceK_eq {ev:Operand->AV} {t len:Nat} {parts:Array (Nat × Operand)}:Gm P ev H t len parts k=match Au P t with
 | some (_,te)=>match partsA ev parts.toList with
   | some ps=>match fillA (fun i=>some (i*te.size,te.size)) (zerosF te.zero (len*te.size) 0) ps with
     | some cs=>match sealR H cs with
       | some ds=>len*te.size<=16777216/\0<te.zero.length/\cs.all AV.one=true/\k ⟨.lsl H.length te.size 0 len,frz H (idsL cs)++[(H.length,.row false ds)],H.length::idsL cs⟩
       | none=>False
     | none=>False
   | none=>False
 | none=>False:=by
 have e:∀ (z:List D) (n:Nat),zerosF z n 0=(AZ z n).map AV.d:=fun z n=>by rw[IK,AZ,Afc];apply Ae6;intro j _;simp
 simp only[e];rfl
def cut_all {l:List D} {n:Nat} (h:n=l.length):cut l 0 n=l:=by subst h;simp[cut]
def cut_one {x:D}:cut [x] 0 1=[x]:=rfl
def idx_nil {n:Nat}:idx [] n=none:=rfl
end
end Go.Abs
namespace Go.Abs
open Go
def Ap:Nat->List AV->List AV
 | _,[]=>[]
 | m,x::s=>(if m % 2=1 then x else .undef)::Ap (m / 2) s
def keepA_nil {m:Nat}:Ap m []=[]:=rfl
def AbC {x:AV} {s:List AV}:Ap 0 (x::s)=.undef::Ap 0 s:=rfl
def ZZ {a b c d e f g h:AV} {s:List AV}:Ap 0 (a::b::c::d::e::f::g::h::s)=.undef::.undef::.undef::.undef::.undef::.undef::.undef::.undef::Ap 0 s:=rfl
def keepA_cons {m:Nat} {x:AV} {s:List AV}:Ap m (x::s)=(if m % 2=1 then x else .undef)::Ap (m / 2) s:=rfl
def B5:List (Nat × AV)->List AV->List AV
 | [],s=>s
 | (t,v)::r,s=>B5 r (s.set t v)
def setsA_nil {s:List AV}:B5 [] s=s:=rfl
def setsA_cons {t:Nat} {v:AV} {r:List (Nat × AV)} {s:List AV}:B5 ((t,v)::r) s=B5 r (s.set t v):=rfl
def Ak.fr {P:Program} {G:Ah} {M:Ci} {p:Nat} {α:Type} (keep:Nat) (μ:α->Nat) (upd:α->List (Nat × AV)) (HH:α->List Ae) (R:α->Prop) {c:Code} {Q:AC} {s:List AV} {H:List Ae} (x0:α) (h0:R x0)
  (hw:DB p s H (B5 (upd x0) (Ap keep s)) (HH x0))
  (round:∀ x,R x->Fd P G M p c (Hv p (μ x) μ (fun x=>B5 (upd x) (Ap keep s)) HH R Q) (B5 (upd x) (Ap keep s)) (HH x)):Ak P G M p c Q s H :=
 Ak.inv μ (fun x=>B5 (upd x) (Ap keep s)) HH R x0 h0 hw round
def Ak.fx {P:Program} {G:Ah} {M:Ci} {p:Nat} {α β:Type} (keep:Nat) (μ:α->Nat) (upd:α->List (Nat × AV)) (HH:α->List Ae) (R:α->Prop) (keepE:Nat) (Cc:β->List (Nat × AV)) (HE:β->List Ae) (E:β->Prop) {c:Code} {id:Nat} {Q:AC}
  {s:List AV} {H:List Ae} (x0:α) (h0:R x0)
  (hw:DB p s H (B5 (upd x0) (Ap keep s)) (HH x0))
  (round:∀ x,R x->Fd P G M p c (Hv p (μ x) μ (fun x=>B5 (upd x) (Ap keep s)) HH R (CX id (Wk p (fun y=>B5 (Cc y) (Ap keepE s)) HE E Q))) (B5 (upd x) (Ap keep s)) (HH x))
  (rest:∀ y,E y->Q .normal (B5 (Cc y) (Ap keepE s)) (HE y)):Ak P G M p c (CX id Q) s H :=
 Ak.cut μ (fun x=>B5 (upd x) (Ap keep s)) HH R (fun y=>B5 (Cc y) (Ap keepE s)) HE E x0 h0 hw round rest
def Jp (p:Nat) (H:List Ae) (v res:AV) (H':List Ae):Prop :=
 ∃ fl:List (Option Nat),fl.take p=(AeK p).map some/\(fl.filterMap id).Nodup/\Bm fl H fl H' /\
   (Aw fl v res\/∃ d,sealA H v=some d/\res=.d (unf d)/\(fl.filterMap id).all (fun j=>!(A3 v).contains j)=true)
def retPost_ret {P:Program} {rs:Array ResultVar} {p:Nat} {res:AV} {H':List Ae} {s:List AV} {H:List Ae} :
  I1 P rs p res H' .ret s H=match resVs P s H rs.toList with | some vs=>Jp p H (AU vs) res H' | none=>False:=rfl
def retPost_normal {P:Program} {rs:Array ResultVar} {p:Nat} {res:AV} {H':List Ae} {s:List AV} {H:List Ae} :
  I1 P rs p res H' .normal s H=match resVs P s H rs.toList with | some vs=>Jp p H (AU vs) res H' | none=>False:=rfl
def ablock_eq {i:Nat} {Q:AC} {s:List AV} {H:List Ae}:CX i Q (.exit i) s H=Q .normal s H:=by simp[CX]
def ablock_ne {i j:Nat} (h:¬j=i) {Q:AC} {s:List AV} {H:List Ae}:CX i Q (.exit j) s H=Q (.exit j) s H:=by simp[CX,h]
def E4 {K:List AV->List Ae->Prop} {Q:AC} {s:List AV} {H:List Ae}:LI K Q .normal s H=K s H:=rfl
def OK {K:List AV->List Ae->Prop} {Q:AC} {s:List AV} {H:List Ae}:LI K Q .ret s H=Q .ret s H:=rfl
def Ad.by {P:Program} {G:Ah} {H HC HC' Hn:List Ae} {k:Eff->Prop} {f:FuncId} {ars ars':List AV} {L ids:List Nat} {res:AV} (h:Ctr P G f ars' HC' res Hn) (ea:ars=ars') (eh:HC=HC') (hl:L.length<=Hn.length)
  (hk:k (callEff H L ids res Hn)):Ad P G H f ars L ids HC k:=⟨res,Hn,[],ea▸eh▸h,hl,.inl rfl,by rw[Jd];exact hk⟩
def idx_hit {b:Nat} {L:List Nat}:idx (b::L) b=some 0:=by simp[idx,Afp]
def idx_miss {b c:Nat} {L:List Nat} (h:¬c=b):idx (c::L) b=(idx L b).map (·+1):=by simp[idx,Afp,h]
def ndec {p:Prop} [Decidable p]:(!decide p)=decide (¬p):=by by_cases h:p<;>simp[h]
def cast_sub2 {n:Nat}:((n+2:Nat):Int)-2=(n:Int):=by omega
def Ad.frozenE {P:Program} {G:Ah} {H:List Ae} {k:Eff->Prop} {f:FuncId} {ars ars':List AV} {ids:List Nat} {d:D} (h:Ctr P G f ars' [] (.d d) []) (e:ars=ars')
  (hk:k ⟨.d d,if Cl (.d d) then [] else frz H ids,ids⟩):Ad P G H f ars [] ids [] k:=.frozen (e▸h) hk
section
variable {P:Program} {G:Ah} {M:Ci} {p:Nat} {ops:Array Oper} {o:Oper} {t:Nat} {rest:List Oper} {s:List AV} {H:List Ae} {tr:TR} {K:RK} {a b:Code} {Q:AC} {c d:Bool} {q:Prop}
def OW (P:Program) (G:Ah) (M:Ci) (p:Nat) (a b:Code) (Q:AC) (s:List AV) (H:List Ae) (c:AV):Prop :=
 match c with
 | .d (.bool t)=>(t=true->Fd P G M p a Q s H)/\(t=false->Fd P G M p b Q s H)
 | _=>False
@[reducible] def Br (q A B:Prop):Prop:=(q->A)/\(¬q->B)
@[congr] theorem Afa {q A B A' B':Prop} (h1:q->A=A') (h2:¬q->B=B'):Br q A B=Br q A' B' :=
 propext ⟨fun h=>⟨fun x=>h1 x▸h.1 x,fun x=>h2 x▸h.2 x⟩,fun h=>⟨fun x=>(h1 x).symm▸h.1 x,fun x=>(h2 x).symm▸h.2 x⟩⟩
def Br_tt {q A:Prop}:Br q True A=(¬q->A):=by simp[Br]
def Br_true {A B:Prop}:Br True A B=A:=by simp[Br]
def Br_false {A B:Prop}:Br False A B=B:=by simp[Br]
@[reducible] def Bn (q A B:Prop):Prop:=(¬q->A)/\(q->B)
@[congr] theorem Afb {q A B A' B':Prop} (h1:¬q->A=A') (h2:q->B=B'):Bn q A B=Bn q A' B' :=
 propext ⟨fun h=>⟨fun x=>h1 x▸h.1 x,fun x=>h2 x▸h.2 x⟩,fun h=>⟨fun x=>(h1 x).symm▸h.1 x,fun x=>(h2 x).symm▸h.2 x⟩⟩
def Br_not {q A B:Prop}:Br (¬q) A B=Bn q A B:=by simp[Br,Bn]
def Bn_tt {q A:Prop}:Bn q True A=(q->A):=by simp[Bn]
def awp_condC {c:Operand}:Fd P G M p (.cond c a b) Q s H=OW P G M p a b Q s H (evalA G s c):=rfl
def CondC_tt:OW P G M p a b Q s H (.d (.bool true))=Fd P G M p a Q s H:=by simp[OW]
def CondC_ff:OW P G M p a b Q s H (.d (.bool false))=Fd P G M p b Q s H:=by simp[OW]
def CondC_dec [Decidable q]:OW P G M p a b Q s H (.d (.bool (decide q)))=Br q (Fd P G M p a Q s H) (Fd P G M p b Q s H):=by simp[OW,Br]
def GuardC_tt:Eo P G M ops o t true rest s H tr K (.d (.bool true))=Mc P G M ops o none rest (s.set t (.d (.bool true))) H tr K:=by simp[Eo]
def GuardC_tf:Eo P G M ops o t true rest s H tr K (.d (.bool false))=E7 P G M ops rest (putA (s.set t (.d (.bool false))) o.dst (.tup [])) H (tr++[([],[])]) K:=by simp[Eo]
def GuardC_ff:Eo P G M ops o t false rest s H tr K (.d (.bool false))=Mc P G M ops o none rest (s.set t (.d (.bool false))) H tr K:=by simp[Eo]
def GuardC_ft:Eo P G M ops o t false rest s H tr K (.d (.bool true))=E7 P G M ops rest (putA (s.set t (.d (.bool true))) o.dst (.tup [])) H (tr++[([],[])]) K:=by simp[Eo]
def GuardC_dect [Decidable q]:Eo P G M ops o t true rest s H tr K (.d (.bool (decide q))) =
  Br q (Mc P G M ops o none rest (s.set t (.d (.bool true))) H tr K) (E7 P G M ops rest (putA (s.set t (.d (.bool false))) o.dst (.tup [])) H (tr++[([],[])]) K):=by simp[Eo,Br]
def GuardC_decf [Decidable q]:Eo P G M ops o t false rest s H tr K (.d (.bool (decide q))) =
  Br (¬q) (Mc P G M ops o none rest (s.set t (.d (.bool false))) H tr K) (E7 P G M ops rest (putA (s.set t (.d (.bool true))) o.dst (.tup [])) H (tr++[([],[])]) K):=by simp[Eo,Br]
end
def ibeq {a b:Int}:(a == b)=decide (a=b):=by by_cases h:a=b<;>simp[h]
def ibne {a b:Int}:(a != b)=decide (¬a=b):=by by_cases h:a=b<;>simp[h]
def sbeq {a b:List UInt8}:(a == b)=decide (a=b):=by by_cases h:a=b<;>simp[h]
def bbeq {a b:Bool}:(a == b)=decide (a=b):=by by_cases h:a=b<;>simp[h]
def cast_pred {n:Nat}:((n+1:Nat):Int)-1=(n:Int):=by omega
def cast_zero:((0:Nat):Int)=0:=rfl
end Go.Abs
namespace Go.Abs
open Go
def Vq {P:Program} {t e:Nat} (ht:P.underlying t=some (.slice e)) (base:Option Addr) (n c:Nat) (w:World) :
  (binOp .eql t (.slice base n c) (.slice none 0 0)).run P w=.ok (.bool base.isNone) w:=by
 simp only[binOp];simp[run_equal_slice_nil w t e base n c ht]
def RD.sl_nil {h:Aj} {v:Value} {n:Nat} {f:Bool} {cs:List D} (r:RD h v (.sl n f cs)):∃ base m c,v=.slice base m c/\(base.isNone=true->n=0):=by
 cases r with
 | sl0 base=>exact ⟨base,0,0,rfl,fun _=>rfl⟩
 | sl g off n cap full cells vs=>exact ⟨_,_,_,rfl,fun h=>by cases h⟩
def R.sl_nil {h:Aj} {ρ:Place} {v:Value} {n:Nat} {f:Bool} {cs:List D} (r:R h ρ v (.d (.sl n f cs))):∃ base m c,v=.slice base m c/\(base.isNone=true->n=0):=by
 generalize hx:(AV.d (.sl n f cs))=x at r;cases r with
 | d v d hd=>cases hx;exact hd.sl_nil
 | _=>cases hx
def Tri.nilRegion {y:Bool} {r:Option Nat} {P:Program} {G:Ah} {p:Nat} {id x0 t3 t4 T yt e n:Nat} {ty ty':TypeId} {ps ps':String} {af af':Array Edge} {f:Bool} {cs:List D} {Q:AC} {s:List AV} {H:List Ae}
  (ht:P.underlying T=some (.slice e)) (hx:s[x0]?=some (.d (.sl n f cs))) (h3:t3<s.length)
  (hk:∀ b,(b=true->n=0)->Q .normal ((s.set t3 (.d (.sl n f cs))).set t4 (.d (.bool b))) H) :
  Tri y r P G p (.region id #[{dst:=some t3,op:=.move (.tmp x0),type:=ty,pos:=ps,after:=af,guard:=none},{dst:=some t4,op:=.binOp .eql T (.tmp t3) (.const (.slice none 0 0)) yt,type:=ty',pos:=ps',after:=af',guard:=none}] false) Q s H:=by
 intro h0 ρ0 w0 hp0 a w ha;obtain ⟨h,ρ,q1,q2,q4⟩:=ha;refine wpIn_region ?_;have e0:=Iy (a:=a) q1 q2 (.tmp x0);have e1:evalA G s (.tmp x0)=.d (.sl n f cs):=by simp[evalA,Adl,hx]
 rw[e1] at e0;obtain ⟨base,m,c,hv,hn⟩:=e0.sl_nil;have st:SR h ρ (a.put (some t3) (a.eval (.tmp x0))).tmps (s.set t3 (.d (.sl n f cs))):=q2.put t3 e0;have e3:(a.put (some t3) (a.eval (.tmp x0))).eval (.tmp t3)=.slice base m c:=by
  have hl:=q2.1;have:t3<a.tmps.size:=by omega
  rw[hv];simp[Act.put,Act.eval,Array.getD_eq_getD_getElem?,this]
 have st2:SR h ρ ((a.put (some t3) (a.eval (.tmp x0))).put (some t4) (.bool base.isNone)).tmps ((s.set t3 (.d (.sl n f cs))).set t4 (.d (.bool base.isNone))):=st.put t4 (.d _ _ (.bool _));generalize hops:(#[_,_]:Array Oper)=ops;have g0:ops[0]?=some {dst:=some t3,op:=.move (.tmp x0),type:=ty,pos:=ps,after:=af,guard:=none}:=by subst hops;rfl
 have g1:ops[1]?=some {dst:=some t4,op:=.binOp .eql T (.tmp t3) (.const (.slice none 0 0)) yt,type:=ty',pos:=ps',after:=af',guard:=none}:=by subst hops;rfl
 have hr:AeK ops.size=[0,1]:=by subst hops;rfl
 rw[hr];simp only[wpOpsIn,g0,g1];have hw:∀ (o:Oper) y,o.guard=none->Region.wanted o y=true:=fun o y h=>by simp[Region.wanted,h]
 rw[if_pos (hw _ _ rfl)];refine ⟨fun _ _=>trivial,?_⟩;have r0:∀ a:Act,(execOp a.eval {dst:=some t3,op:=.move (.tmp x0),type:=ty,pos:=ps,after:=af,guard:=none}).run P w=.ok (.value (a.eval (.tmp x0))) w:=fun a=>by simp[execOp]
 rw[Oper.semAt_eq _ _ _ (fun c=>by simp)];simp only[r0,Oper.uponIn];rw[if_pos (hw _ _ rfl)];refine ⟨fun _ _=>trivial,?_⟩;have r1:(execOp (a.put (some t3) (a.eval (.tmp x0))).eval {dst:=some t4,op:=.binOp .eql T (.tmp t3) (.const (.slice none 0 0)) yt,type:=ty',pos:=ps',after:=af',guard:=none}).run P w=.ok (.value (.bool base.isNone)) w:=by have hg:(eqGuard .eql T (.tmp t3) (.const (.slice none 0 0)) (.slice base m c) (.slice none 0 0)).run P w=.ok () w:=rfl;have e4:(a.put (some t3) (a.eval (.tmp x0))).eval (.const (.slice none 0 0))=.slice none 0 0:=rfl;simp only[execOp,e3,e4];simp[hg,Vq ht]
 rw[Oper.semAt_eq _ _ _ (fun c=>by simp)];simp only[r1,Oper.uponIn];exact ⟨_,_,hk base.isNone hn,h,ρ,q1,st2,q4⟩
def J2 (P:Program) (G:Ah) (M:Ci) (g:AV) (ps:Array Tmp) (a b:Code) (Q:AC) (s:List AV) (H:List Ae):Prop :=
 M 3000000=false/\Wg P G (fun n Q s H=>Fd P G M n a Q s H) (fun n Q s H=>Fd P G M n b Q s H) g ps Q s H
def awp_range {P:Program} {G:Ah} {M:Ci} {p:Nat} {g:Operand} {ps:Array Tmp} {a b:Code} {Q:AC} {s:List AV} {H:List Ae} :
  Fd P G M p (.rangeFunc g ps a b) Q s H=J2 P G M (evalA G s g) ps a b Q s H:=rfl
def AsgQ_same {H:List Ae} {B:List AV->List Ae->Prop} {s:List AV}:AaW H B .normal s H=B s H:=by simp[AaW]
def RndQ_t {s2 s:List AV} {It:List Ae->Prop} {Ix:Code->List Ae->Prop} {H:List Ae}:AaQ true s2 It Ix .normal s H=UV s2 It H:=by simp[AaQ]
def UV.mk {s2:List AV} {K:List Ae->Prop} {H H2:List Ae} (hw:DB 0 s2 H s2 H2) (hk:K H2):UV s2 K H:=by obtain ⟨fl,_,h2,h3,h4⟩:=hw;exact ⟨fl,H2,h2,h3,h4,hk⟩
def Lv (d:D):D × Bool:=(d,true)
def Xl:∀ xs:List D,Tdo xs (xs.map Lv)
 | []=>trivial
 | x::r=>⟨rfl,Xl r⟩
def Zm (H:List Ae) (L:List Nat) (fl:List (Option Nat)):Bool :=
 fl.all fun o=>match o with
  | some j=>!L.contains j && (match H[j]? with | some .dead=>false | some _=>true | none=>false)
  | none=>true
def XM {H:List Ae} {L:List Nat} {fl:List (Option Nat)} (h:Zm H L fl=true) (j:Nat) (hj:j∈fl.filterMap id):j∉L/\BP (hp H) j:=by
 obtain ⟨o,ho,e⟩:=Ae7.1 hj;simp only[id] at e;subst e;have:=Adp.1 h _ ho;simp only[AeR,Afe,AeL,decide_eq_false_iff_not] at this;refine ⟨this.1,?_⟩;have h2:=this.2;split at h2;·cases h2
 ·rename_i x hne e;exact ⟨x,e,fun e'=>hne (by rw[e'])⟩
 cases h2
section
variable {P:Program} {G:Ah} {M:Ci}
def J2.allP {α:Type} {a b:Code} {g:AV} {pt:Nat} {Q:AC} {s:List AV} {H:List Ae} {gf:FuncId} {caps caps':List AV} {HI:List Ae} {xs:List D} (spec:OV P G gf (renL (·+1) caps') (HI.map (renB (·+1))) xs)
  (pins:List (Nat × Nat)) (fl:List (Option Nat)) (keep:Nat) (upd:List (Nat × AV)) (HH:Nat->α->List Ae) (R:Nat->α->Prop)
  (hg:Ud g=some (gf,caps)) (e1:passL H (passIds false H caps) caps=some caps') (e2:passBs H (passIds false H caps) (passIds false H caps)=some HI)
  (e3:sidsL H (passIds false H caps) caps=[]) (e4:sidsBs H (passIds false H caps) (passIds false H caps)=[]) (hM:M 3000000=false) (hpin:Ab7 H.length fl (B5 upd (Ap keep s)) pins)
  (hok:Zm H (passIds false H caps) fl=true) (hn:(fl.filterMap id).Nodup) (x0:α) (h0:R 0 x0) (hs:CK fl s (B5 upd (Ap keep s))) (hH:Bm fl H fl (HH 0 x0)) (hl:∀ k x,(HH k x).length=fl.length/\DH (HH k x)=true)
  (round:∀ k d x,k<xs.length->xs[k]?=some d->R k x->Fd P G M fl.length a (AaW (HH k x) (Fd P G M fl.length b (AaQ true (B5 upd (Ap keep s)) (fun H2=>∃ x',R (k+1) x'/\H2=HH (k+1) x') (fun _ _=>False)))) ((B5 upd (Ap keep s)).set pt (.d d)) (HH k x))
  (rest:∀ x,R xs.length x->Q .normal (XU pins (renL (H.length+·) (B5 upd (Ap keep s)))) (XV pins (deads H.length++(HH xs.length x).map (renB (H.length+·))))):J2 P G M g #[pt] a b Q s H:=by
 refine ⟨hM,gf,caps,caps',HI,xs,xs.map Lv,pt,hg,rfl,e1,e2,e3,e4,spec,Xl xs,fl,B5 upd (Ap keep s),HH 0 x0,fun t H2=>∃ k x,k<=xs.length/\t=(xs.drop k).map Lv/\R k x/\H2=HH k x,fun _ _=>False,pins,hpin,hn,XM hok,hs,hH,⟨0,x0,Afu _,by simp,h0,rfl⟩,?_,fun _ _ h=>h.elim,?_,?_,fun _ _ h=>h.elim⟩;·rintro t H2 ⟨k,x,_,_,_,rfl⟩;exact hl k x
 ·rintro d bb t H2 ⟨k,x,hk,ht,hx,rfl⟩;have hlt:k<xs.length:=by
   rcases Aff k xs.length with h | h
   ·exact h
   rw[List.drop_of_length_le h] at ht;simp at ht
  rw[List.drop_eq_getElem_cons hlt,List.map_cons] at ht;simp only[Lv,List.cons.injEq,Prod.mk.injEq] at ht;obtain ⟨⟨rfl,rfl⟩,rfl⟩:=ht;have hr:=round k xs[k] x hlt (Aa0 hlt) hx;have e:(fun H2=>∃ x',R (k+1) x'/\H2=HH (k+1) x')=(fun H2=>∃ k' x',k'<=xs.length/\(xs.drop (k+1)).map Lv=(xs.drop k').map Lv/\R k' x'/\H2=HH k' x'):=by
   funext H2;refine propext ⟨fun ⟨x',u,v⟩=>⟨k+1,x',hlt,rfl,u,v⟩,fun ⟨k',x',hk',he,u,v⟩=>?_⟩;have:=congrArg List.length he;simp at this;obtain rfl:k'=k+1:=by omega
   exact ⟨x',u,v⟩
  rw[e] at hr;exact hr
 rintro H2 ⟨k,x,hk,ht,hx,rfl⟩;have:=congrArg List.length ht;simp at this;obtain rfl:k=xs.length:=by omega
 exact rest x hx
def J2.all {α:Type} {a b:Code} {g:AV} {pt:Nat} {Q:AC} {s:List AV} {H:List Ae} {gf:FuncId} {caps caps':List AV} {HI:List Ae} {xs:List D} (spec:OV P G gf (renL (·+1) caps') (HI.map (renB (·+1))) xs)
  (fl:List (Option Nat)) (keep:Nat) (upd:List (Nat × AV)) (HH:Nat->α->List Ae) (R:Nat->α->Prop)
  (hg:Ud g=some (gf,caps)) (e1:passL H (passIds false H caps) caps=some caps') (e2:passBs H (passIds false H caps) (passIds false H caps)=some HI)
  (e3:sidsL H (passIds false H caps) caps=[]) (e4:sidsBs H (passIds false H caps) (passIds false H caps)=[]) (hM:M 3000000=false)
  (hok:Zm H (passIds false H caps) fl=true) (hn:(fl.filterMap id).Nodup) (x0:α) (h0:R 0 x0) (hs:CK fl s (B5 upd (Ap keep s))) (hH:Bm fl H fl (HH 0 x0)) (hl:∀ k x,(HH k x).length=fl.length/\DH (HH k x)=true)
  (round:∀ k d x,k<xs.length->xs[k]?=some d->R k x->Fd P G M fl.length a (AaW (HH k x) (Fd P G M fl.length b (AaQ true (B5 upd (Ap keep s)) (fun H2=>∃ x',R (k+1) x'/\H2=HH (k+1) x') (fun _ _=>False)))) ((B5 upd (Ap keep s)).set pt (.d d)) (HH k x))
  (rest:∀ x,R xs.length x->Q .normal (renL (H.length+·) (B5 upd (Ap keep s))) (deads H.length++(HH xs.length x).map (renB (H.length+·)))):J2 P G M g #[pt] a b Q s H :=
 J2.allP spec [] fl keep upd HH R hg e1 e2 e3 e4 hM ⟨Afk,fun q hq=>absurd hq (List.not_mem_nil)⟩ hok hn x0 h0 hs hH hl round rest
end
set_option linter.defProp false in
def Bi:=And.intro @ZZ (And.intro @AbC (And.intro @keepA_cons (And.intro @keepA_nil (And.intro @setsA_nil (And.intro @setsA_cons (And.intro @List.set_cons_zero.{0} (And.intro @List.set_cons_succ.{0} (And.intro @set_8 (And.intro AfC (And.intro Nat.zero_ne_one (And.intro @if_true.{1} @if_false.{1})))))))))))
end Go.Abs
namespace Go.Abs
open Go
set_option linter.defProp false in
def Aa:=(And.intro (And.intro (And.intro (And.intro (And.intro @Go.Abs.awp_skip @Go.Abs.awp_region) (And.intro @Go.Abs.awp_seq @Go.Abs.awp_condC)) (And.intro (And.intro @Go.Abs.Br_not @Go.Abs.awp_block) (And.intro @Go.Abs.awp_loop @Go.Abs.awp_exit))) (And.intro (And.intro (And.intro @Go.Abs.awp_ret @Go.Abs.ThenC_normal) (And.intro @Go.Abs.ThenC_exit @Go.Abs.ThenC_ret)) (And.intro (And.intro @Go.Abs.RoundQ_normal @Go.Abs.RoundQ_exit) (And.intro @Go.Abs.RoundQ_ret @Go.Abs.ablock_normal)))) (And.intro (And.intro (And.intro (And.intro @Go.Abs.ablock_ret @Go.Abs.ablock_eq) (And.intro @Go.Abs.ablock_ne @Go.Abs.DK_eq)) (And.intro (And.intro @opK.eq_def @ZL.eq_def) (And.intro @SI.eq_def @VD.eq_def))) (And.intro (And.intro (And.intro @AaE.eq_def @OG.eq_def) (And.intro @Go.Abs.PureRet.eq_1 @Go.Abs.getD_8)) (And.intro (And.intro @Go.Abs.set_8 @Go.Abs.CutQ_normal) (And.intro @Go.Abs.retPost_ret @Go.Abs.retPost_normal)))))
set_option linter.defProp false in
def awV:=(And.intro (And.intro (And.intro (And.intro (And.intro (And.intro (And.intro (And.intro @Go.Abs.CondC_tt @Go.Abs.CondC_ff) (And.intro @Go.Abs.Bn_tt @Go.Abs.Br_tt)) (And.intro (And.intro @Go.Abs.Br_true @Go.Abs.Br_false) (And.intro @Go.Abs.Ob_triv (And.intro @Go.Abs.CondC_dec @Go.Abs.GuardC_tt)))) (And.intro (And.intro (And.intro @Go.Abs.GuardC_tf @Go.Abs.GuardC_ff) (And.intro @Go.Abs.GuardC_ft (And.intro @Go.Abs.GuardC_dect @Go.Abs.GuardC_decf))) (And.intro (And.intro @Go.Abs.awp_range @Go.Abs.AsgQ_same) (And.intro @Go.Abs.RndQ_t (And.intro @Go.Abs.deads.eq_1 @Go.Abs.RoundIQ_normal))))) (And.intro (And.intro (And.intro (And.intro @Go.Abs.RoundIQ_exit @Go.Abs.RoundIQ_ret) (And.intro @Go.Abs.regK_nil (And.intro @Go.Abs.regK_cons @Go.Abs.operC_none))) (And.intro (And.intro @Go.Abs.operC_some @Go.Abs.OpC_mk) (And.intro @Go.Abs.GuardC_dead (And.intro @SJ.eq_def @LH.eq_def)))) (And.intro (And.intro (And.intro @SH.eq_def @SU.eq_def) (And.intro @SV.eq_def (And.intro @KU.eq_def @WJ.eq_def))) (And.intro (And.intro @Go.Abs.buildBoxK_eq @Go.Abs.makeBoxK_eq) (And.intro @FSa.eq_def (And.intro @Go.Abs.putA.eq_1 @Go.Abs.putA.eq_2)))))) (And.intro (And.intro (And.intro (And.intro (And.intro @Go.Abs.applyW.eq_1 @Go.Abs.applyW.eq_2) (And.intro @Go.Abs.wOK.eq_1 @Go.Abs.wOK.eq_2)) (And.intro (And.intro @Go.Abs.evalA.eq_1 @Go.Abs.evalA.eq_2) (And.intro @Go.Abs.evalA.eq_3 (And.intro @Go.Abs.evalA.eq_4 @List.length_cons.{0})))) (And.intro (And.intro (And.intro @List.length_nil.{0} @Adk.eq_1.{0}) (And.intro @Adk.eq_2.{0} (And.intro @List.cons_append.{0} @List.nil_append.{0}))) (And.intro (And.intro @List.set_cons_zero.{0} @List.set_cons_succ.{0}) (And.intro @List.getD_cons_zero.{0} (And.intro @List.getD_cons_succ.{0} @V5.eq_def))))) (And.intro (And.intro (And.intro (And.intro @Abx.eq_def @AbW.eq_def) (And.intro @Abe.eq_def (And.intro @evC.eq_def @noE.eq_def))) (And.intro (And.intro @Go.Abs.binK_eq @Yc.eq_def) (And.intro @Lc.eq_def (And.intro @Za.eq_def @Go.Abs.indexAddrK_eq)))) (And.intro (And.intro (And.intro @Sr.eq_def @W4.eq_def) (And.intro @RX.eq_def (And.intro @Go.Abs.mkA.eq_1 @Go.Abs.mkD.eq_1))) (And.intro (And.intro @Bool.false_eq_true @Bool.true_eq_false) (And.intro @false_implies (And.intro @true_and @and_true))))))) (And.intro (And.intro (And.intro (And.intro (And.intro (And.intro @if_true.{1} @if_false.{1}) (And.intro @List.map_nil.{0,0} @List.map_cons.{0,0})) (And.intro (And.intro @Nat.mul_one @Go.Abs.resVs.eq_1) (And.intro @Go.Abs.resVs.eq_2 (And.intro @Go.Abs.resV.eq_1 @Go.Abs.resV.eq_2)))) (And.intro (And.intro (And.intro @Go.Abs.sealA.eq_1 @Go.Abs.sealA.eq_2) (And.intro @Go.Abs.sealA.eq_3 (And.intro @Go.Abs.sealA.eq_4 @Go.Abs.sealA.eq_5))) (And.intro (And.intro @Go.Abs.sealA.eq_6 @Go.Abs.sealL.eq_1) (And.intro @Go.Abs.sealL.eq_2 (And.intro @Go.Abs.idsL.eq_1 @Go.Abs.idsL.eq_2))))) (And.intro (And.intro (And.intro (And.intro @Go.Abs.frz.eq_1 @Go.Abs.frz.eq_2) (And.intro @We.eq_def (And.intro @AcT.eq_def @Zs.eq_def))) (And.intro (And.intro @Xc.eq_def @unK.eq_def) (And.intro @I6.eq_def (And.intro @Hm.eq_def @KE.eq_def)))) (And.intro (And.intro (And.intro @SK.eq_def @Go.Abs.buildSliceK_eq) (And.intro @Go.Abs.zerosF.eq_1 (And.intro @Go.Abs.zerosF.eq_2 @AfC))) (And.intro (And.intro @He.eq_def @De.eq_def) (And.intro @Go.Abs.mmK_2 (And.intro @Go.Abs.sliceK_eq @Go.Abs.bnd.eq_1)))))) (And.intro (And.intro (And.intro (And.intro (And.intro @Go.Abs.bnd.eq_2 @Go.Abs.callK_list) (And.intro @Acv.eq_def (And.intro @Go.Abs.passIds.eq_1 @Go.Abs.refsL.eq_1))) (And.intro (And.intro @Go.Abs.refsL.eq_2 @Go.Abs.refsIn.eq_1) (And.intro @Go.Abs.refsIn.eq_2 (And.intro @Go.Abs.dedup.eq_1 @Go.Abs.dedup.eq_2)))) (And.intro (And.intro (And.intro @Go.Abs.passL.eq_1 @Go.Abs.passL.eq_2) (And.intro @Go.Abs.passA.eq_1 (And.intro @Go.Abs.passA.eq_3 @Go.Abs.passA.eq_5))) (And.intro (And.intro @Go.Abs.passA.eq_6 @Go.Abs.passA.eq_8) (And.intro @Go.Abs.passBs.eq_1 (And.intro @Go.Abs.passBs.eq_2 @Go.Abs.sidsL.eq_1))))) (And.intro (And.intro (And.intro (And.intro @Go.Abs.sidsL.eq_2 @Go.Abs.sidsA.eq_1) (And.intro @Go.Abs.sidsA.eq_2 (And.intro @Go.Abs.sidsA.eq_4 @Go.Abs.sidsA.eq_5))) (And.intro (And.intro @Go.Abs.sidsA.eq_7 @Go.Abs.sidsBs.eq_1) (And.intro @Go.Abs.sidsBs.eq_2 (And.intro @Go.Abs.callEff.eq_1 @Go.Abs.dropE.eq_1)))) (And.intro (And.intro (And.intro @Go.Abs.dropW.eq_2 @Go.Abs.outW.eq_1) (And.intro @Go.Abs.outW.eq_2 (And.intro @Go.Abs.outN.eq_1 @Go.Abs.renA.eq_1))) (And.intro (And.intro @Go.Abs.renA.eq_2 @Go.Abs.renA.eq_3) (And.intro @Go.Abs.renA.eq_6 (And.intro @Go.Abs.renA.eq_7 @Go.Abs.renA.eq_9)))))))) (And.intro (And.intro (And.intro (And.intro (And.intro (And.intro (And.intro @Go.Abs.renL.eq_1 @Go.Abs.renL.eq_2) (And.intro @Go.Abs.renB.eq_1 @Go.Abs.renB.eq_2)) (And.intro (And.intro @Go.Abs.renB.eq_3 @Go.Abs.renB.eq_4) (And.intro @Go.Abs.renB.eq_7 (And.intro @Go.Abs.renB.eq_8 @Go.Abs.guardSlot_list)))) (And.intro (And.intro (And.intro @List.append_nil.{0} @List.getElem?_cons_zero.{0}) (And.intro @List.getElem?_cons_succ.{0} (And.intro @List.getElem?_nil.{0} @List.all_cons.{0}))) (And.intro (And.intro @List.all_nil.{0} @List.isEmpty_nil.{0}) (And.intro @List.isEmpty_cons.{0} (And.intro @Bool.and_true @Afz))))) (And.intro (And.intro (And.intro (And.intro @Bool.and_false @Bool.false_and) (And.intro @Go.Abs.D.int.injEq (And.intro @Go.Abs.D.bool.injEq @Go.Abs.partsA.eq_1))) (And.intro (And.intro @Go.Abs.partsA.eq_2 @Go.Abs.fillA.eq_1) (And.intro @Go.Abs.fillA.eq_2 (And.intro @Go.Abs.structPlace.eq_1 @List.take_zero.{0})))) (And.intro (And.intro (And.intro @List.drop_zero.{0} @List.drop_succ_cons.{0}) (And.intro @List.take_succ_cons.{0} (And.intro @List.drop_nil.{0} @Option.map_some.{0,0}))) (And.intro (And.intro @Option.map_none.{0,0} @Option.isSome_some.{0}) (And.intro @Option.isSome_none.{0} (And.intro @Option.isNone_none.{0} @Option.isNone_some.{0})))))) (And.intro (And.intro (And.intro (And.intro (And.intro @Afs @AfD) (And.intro @Nat.zero_mul @List.contains_nil.{0})) (And.intro (And.intro @Bool.not_false @Bool.not_true) (And.intro @Nat.lt_irrefl (And.intro @Ado @BEq.rfl.{0})))) (And.intro (And.intro (And.intro @List.length_map.{0,0} @Go.Abs.unf_int) (And.intro @Go.Abs.unf_bool (And.intro @Go.Abs.unf_str @Go.Abs.unf_sl))) (And.intro (And.intro @Go.Abs.unf_agg @Go.Abs.unf_tup) (And.intro @Go.Abs.unf1_agg (And.intro @Go.Abs.unf1_int @Go.Abs.unf1_bool))))) (And.intro (And.intro (And.intro (And.intro @Go.Abs.unf1_str @Go.Abs.unf1_sl) (And.intro @Go.Abs.unf0_int (And.intro @Go.Abs.unf0_bool @Go.Abs.unf0_str))) (And.intro (And.intro @Go.Abs.unf0_sl @Go.Abs.sealR.eq_1) (And.intro @Go.Abs.unf_esl (And.intro @Go.Abs.wr_i64 @Go.Abs.wr_u64)))) (And.intro (And.intro (And.intro @Go.Abs.wr_u32 @Go.Abs.wr_u8) (And.intro @Go.Abs.c_lt (And.intro @Go.Abs.c_le @Go.Abs.c_nlt))) (And.intro (And.intro @Go.Abs.c_nle @Go.Abs.n_lt) (And.intro @Go.Abs.n_le (And.intro @Go.Abs.n_nlt @Go.Abs.ints_length))))))) (And.intro (And.intro (And.intro (And.intro (And.intro (And.intro @Go.Abs.ints_getD @Go.Abs.cut_ints) (And.intro @decide_eq_true_eq @List.length_take.{0})) (And.intro (And.intro @List.length_drop.{0} @Go.Abs.toNat_cast) (And.intro @Nat.sub_zero (And.intro @Int.toNat_zero @Go.Abs.ints_set)))) (And.intro (And.intro (And.intro @Go.Abs.nats_length @Go.Abs.nats_getD) (And.intro @Go.Abs.cut_nats (And.intro @Go.Abs.nats_set @Go.Abs.nats_push))) (And.intro (And.intro @decide_true @decide_false) (And.intro @ne_eq.{1} (And.intro @List.length_set.{0} @List.length_append.{0}))))) (And.intro (And.intro (And.intro (And.intro @Go.IntKind.bits.eq_6 @Go.IntKind.bits.eq_7) (And.intro @Go.IntKind.bits.eq_8 (And.intro @Go.IntKind.max.eq_1 @Go.Abs.fdiv_pos))) (And.intro (And.intro @Nat.min_eq_left @Go.Abs.zeros_nats) (And.intro @Go.Abs.mx_nat (And.intro @Go.Abs.cut_one @Go.Abs.idx_nil)))) (And.intro (And.intro (And.intro @Go.Abs.n_eq @Go.Abs.n_ne) (And.intro @Go.Abs.c_eqt (And.intro @Go.Abs.c_eq @List.take_of_length_le.{0}))) (And.intro (And.intro @List.not_mem_nil.{0} @not_false_eq_true) (And.intro @Go.Abs.cast_add (And.intro @Go.Abs.cast_add1 @Go.Abs.cast_mul)))))) (And.intro (And.intro (And.intro (And.intro (And.intro @Go.Abs.keepA_nil @Go.Abs.keepA_cons) (And.intro @Go.Abs.setsA_nil (And.intro @Go.Abs.setsA_cons @Go.Abs.cast_pred))) (And.intro (And.intro @Go.Abs.cast_zero @Go.Abs.ibeq) (And.intro @Go.Abs.ibne (And.intro @Go.Abs.sbeq @Go.Abs.bbeq)))) (And.intro (And.intro (And.intro @not_true_eq_false @Classical.not_not) (And.intro @Go.Abs.cast_sub2 (And.intro @Go.Abs.binC_t @Go.Abs.binC_f))) (And.intro (And.intro @Go.Abs.idx_hit @Go.Abs.idx_miss) (And.intro @Go.Abs.passB.eq_2 (And.intro @Go.Abs.passB.eq_3 @Go.Abs.passB.eq_8))))) (And.intro (And.intro (And.intro (And.intro @Go.Abs.passB.eq_9 @List.contains_cons.{0}) (And.intro @Bool.or_false (And.intro @Bool.or_true @Bool.true_or))) (And.intro (And.intro @true_or @or_true) (And.intro @Go.Abs.ndec (And.intro @Int.natAbs_natCast @M2.eq_def)))) (And.intro (And.intro (And.intro @J9.eq_def @Kw.eq_def) (And.intro @R8.eq_def (And.intro @WZ.eq_def @SG.eq_def))) (And.intro (And.intro @Go.Abs.isKeyD.eq_1 @OR.eq_def) (And.intro @MS.eq_def (And.intro @MT.eq_def @MU.eq_def)))))))))
set_option linter.defProp false in
def Ab :=
 (And.intro (And.intro (And.intro @List.length_take.{0} @List.length_drop.{0}) (And.intro @List.length_set.{0} @List.length_append.{0})) (And.intro (And.intro @List.length_replicate.{0} @List.length_cons.{0}) (And.intro @List.length_nil.{0} (And.intro @ints_length @nats_length))))
end Go.Abs
namespace Go.Abs
open Go Go.RowKit
def Ir (h:Aj) (w w':World):Aj:=fun b o=>if b<w.heap.size then h b o else w'.cell? ⟨b,o,none⟩
def P8 {G:Ah} {h:Aj} {ρ:Place} {H:Bf} {w w':World} (s:Sim G h ρ H w):h.le (Ir h w w'):=fun b o v e=>by have:=s.held_lt e;simp only[Ir,if_pos this];exact e
def Ctr.of_calls {P:Program} {G:Ah} {f:FuncId} {args:List AV} {d:D} (hg:Ao P f=true)
  (hc:∀ (h:Aj) (ρ:Place) (w:World) (vs:Array Value),Sim G h ρ (hp []) w->RL h ρ vs args->Calls P f vs w fun e w'=>∃ v,e=.returned v/\RD (Ir h w w') v d/\Below w.heap.size w w') :
  Ctr P G f args [] (.d d) []:=by
 refine ⟨hg,fun h ρ w vs s r=>(hc h ρ w vs s r).mono ?_⟩;rintro e w' ⟨v,rfl,hv,b⟩;have hle:h.le (Ir h w w'):=P8 s;have hcell:∀ (g o:Nat),g<w.heap.size->w'.cell? ⟨g,o,none⟩=w.cell? ⟨g,o,none⟩:=fun g o hl=>by simp[World.cell?,b.block g hl]
 refine ⟨v,Ir h w w',ρ,rfl,⟨fun g o u e=>?_,fun g ds e=>?_,fun i b e=>by simp[hp] at e,fun i g S e=>?_,fun i j g S S' e=>?_⟩,.d _ _ hv,b.os,b.tape,b.output,b.size,fun k hk _=>b.block k hk,hle,fun k hk _ o=>by simp only[Ir,if_pos hk],Place.le_refl _,fun i g S e=>.inl ⟨i,S,e⟩⟩
 ·by_cases hl:g<w.heap.size;·simp only[Ir,if_pos hl] at e;rw[hcell g o hl];exact s.prom g o u e
  simpa only[Ir,if_neg hl] using e
 ·obtain ⟨us,h1,h2⟩:=s.glob g ds e;exact ⟨us,fun i x e=>hle _ _ _ (h1 i x e),fun i x e=>(h2 i x e).mono hle⟩
 ·obtain ⟨_,b,hb⟩:=s.dom i g S e;simp[hp] at hb
 obtain ⟨_,b,hb⟩:=s.dom i g S e;simp[hp] at hb
def RL.inv1 {h:Aj} {ρ:Place} {vs:Array Value} {x:AV} (r:RL h ρ vs [x]):∃ v,vs=#[v]/\R h ρ v x:=by
 obtain ⟨h1,h2⟩:=r
 match vs,h1,h2 with
 | ⟨[v]⟩,_,h2=>exact ⟨v,rfl,h2 0 v x rfl rfl⟩
def RL.inv2 {h:Aj} {ρ:Place} {vs:Array Value} {x y:AV} (r:RL h ρ vs [x,y]):∃ v u,vs=#[v,u]/\R h ρ v x/\R h ρ u y:=by
 obtain ⟨h1,h2⟩:=r
 match vs,h1,h2 with
 | ⟨[v,u]⟩,_,h2=>exact ⟨v,u,rfl,h2 0 v x rfl rfl,h2 1 u y rfl rfl⟩
def Ctr.of_calls_ss {P:Program} {G:Ah} {f:FuncId} {s t:ByteArray} {d:D} (hg:Ao P f=true)
  (hc:∀ (h:Aj) (w:World),Calls P f #[.string s,.string t] w fun e w'=>∃ v,e=.returned v/\RD h v d/\Below w.heap.size w w'):Ctr P G f [.d (.str s),.d (.str t)] [] (.d d) [] :=
 .of_calls hg fun h ρ w vs q r=>by obtain ⟨v,u,rfl,hv,hu⟩:=r.inv2;rw[hv.str_inv,hu.str_inv];refine (hc h w).mono ?_;rintro e w' ⟨v,rfl,hd,b⟩;exact ⟨v,rfl,hd.mono (P8 q),b⟩
abbrev bs (l:List UInt8):ByteArray:=⟨l.toArray⟩
def ER {l:List UInt8}:(bs l).size=l.length:=by simp[ByteArray.size]
def V6 {s t:ByteArray} (h:s.data.toList=t.data.toList):s=t:=by cases s;cases t;congr 1;exact Array.toList_inj.1 h
def OJ {l:List UInt8} {a b:Nat}:(bs l).extract a b=bs ((l.take b).drop a):=by apply V6;simp[List.drop_take,List.extract_eq_take_drop]
def Rw {l m:List UInt8}:bs l++bs m=bs (l++m):=by apply V6;simp
def AeO (s:ByteArray):s=bs s.data.toList:=V6 (by simp)
def Rv {l:List UInt8}:(bs l).toList=l:=by exact ByteArray.toList_eq (bs l)
def Ru {l:List UInt8} {i:Nat}:ID (bs l) i=((l.getD i 0).toNat:Int):=rfl
def BO (l:List UInt8):List Int:=l.map fun b=>(b.toNat:Int)
def BX {l:List UInt8}:(BO l).length=l.length:=by simp[BO]
def PO {l:List UInt8} {i:Nat}:(BO l).getD i 0=((l.getD i 0).toNat:Int):=by simp only[BO,Adl,Ada];cases l[i]?<;>rfl
def UE {l:List UInt8}:(bs l).data.toList.map (fun b=>D.int .u8 b.toNat)=AF .u8 (BO l):=by simp[AF,BO]
def D5:∀ (l:List Int),BH (AF .u8 l)=some l
 | []=>rfl
 | n::l=>by
   show (match BH (AF .u8 l) with | some l=>some (n::l) | none=>none)=_
   rw[D5 l]
def RW {l:List Int}:strOfNums l=bs (l.map fun n=>UInt8.ofNat n.toNat):=rfl
def Di {l:List UInt8}:strOfNums (BO l)=bs l:=by rw[RW,BO,Afc];congr 1;rw[show ((fun n:Int=>UInt8.ofNat n.toNat) ∘ fun b:UInt8=>(b.toNat:Int))=id from by funext b;simp,List.map_id]
def dec (l:List UInt8) (p:Nat):Nat × Nat:=Utf8.decode (bs l) p
def N5 {l:List UInt8} {b p:Nat} {k:Eff->Prop} (h:p<l.length):PQ b k (some (.iter (bs l) p))=k ⟨.d (.tup [.bool true,.int .i64 p,.int .i32 ((dec l p).1:Int)]),[(b,.iter (bs l) (p+(dec l p).2))],[b]⟩:=by
 have h':p<(bs l).size:=by rw[ER];exact h
 simp only[PQ,dec,h',not_true,false_implies,and_true,true_implies]
def N4 {l:List UInt8} {b p:Nat} {k:Eff->Prop} (h:¬p<l.length):PQ b k (some (.iter (bs l) p))=k ⟨.d (.tup [.bool false]),[],[b]⟩:=by
 have h':¬p<(bs l).size:=by rw[ER];exact h
 simp only[PQ,h',not_false_iff,false_implies,true_and,true_implies]
def dec_ascii {l:List UInt8} {p:Nat} (h:p<l.length) (ha:(l.getD p 0).toNat<128):dec l p=((l.getD p 0).toNat,1):=by
 have e:(bs l)[p]'(by rw[ER];exact h)=l.getD p 0:=by
  show l.toArray[p]=_
  simp[Adl,h]
 have:=decode_ascii (bs l) p (by rw[ER];exact h) (by rw[e];exact ha);rw[dec,this,e]
def V3 (l:List UInt8) (p:Nat):1<=(dec l p).2/\(dec l p).1<=2147483647:=by
 refine ⟨?_,decode_le _ _⟩;unfold dec Utf8.decode;dsimp only;repeat' split
 all_goals simp
end Go.Abs
namespace Go.Abs
open Go Go.RowKit Go.ChangeShapes
def P7 (W:World):Aj:=fun b o=>W.cell? ⟨b,o,none⟩
def S5 (G:Ah) (W:World):Prop:=∀ g ds,G g=some ds->∃ vs:Nat->Value,(∀ (i:Nat) x,ds[i]?=some x->P7 W g i=some (vs i))/\(∀ (i:Nat) x,ds[i]?=some x->RD (P7 W) (vs i) x)
def Ctr.law {P:Program} {G:Ah} {f:FuncId} {avs:List AV} (hc:Ctr P G f avs [] (.d (.bool true)) []) {W:World} {args:Array Value} (hg:S5 G W) (ha:RL (P7 W) (fun _=>none) args avs) :
  Calls P f args W fun e W'=>e=.returned (.bool true)/\Below W.heap.size W W':=by
 have s:Sim G (P7 W) (fun _=>none) (hp []) W:=⟨fun _ _ _ e=>e,hg,(fun i b e=>by simp[hp] at e),(fun i g S e=>by cases e),(fun i j g S S' e=>by cases e)⟩;refine (hc.2 _ _ W args s ha).mono ?_;rintro e W' ⟨v,h',ρ',rfl,_,r,t⟩;exact ⟨by rw[r.bool_inv],t.os,t.tape,t.output,t.size,fun k hk=>t.keep k hk (fun i S e=>by cases e)⟩
def RL.of_list {h:Aj} {ρ:Place}:∀ {vs:List Value} {xs:List AV},vs.length=xs.length->(∀ (i:Nat) v x,vs[i]?=some v->xs[i]?=some x->R h ρ v x)->RL h ρ vs.toArray xs :=
 fun hl hr=>⟨by simpa using hl,fun i v x hv hx=>hr i v x (by simpa using hv) hx⟩
def RL.four {h:Aj} {ρ:Place} {v v2 v3 v4:Value} {x x2 x3 x4:AV} (r:R h ρ v x) (r2:R h ρ v2 x2) (r3:R h ρ v3 x3) (r4:R h ρ v4 x4):RL h ρ #[v,v2,v3,v4] [x,x2,x3,x4]:=.of_list rfl fun i v x hv hx=>by
 rcases i with _ | _ | _ | _ | i
 ·simp at hv hx;subst hv;subst hx;exact r
 ·simp at hv hx;subst hv;subst hx;exact r2
 ·simp at hv hx;subst hv;subst hx;exact r3
 ·simp at hv hx;subst hv;subst hx;exact r4
 simp at hv
def Xn {W:World} {a:Addr} {len cap:Nat} {zs:List Int} {k:IntKind} (hl:len<=cap) (hz:len<=zs.length) (hc:∀ i,i<zs.length->W.cell? (a.add i)=some (.int k (zs.getD i 0))) :
  RD (P7 W) (.slice (some a) len cap) (.sl len false (AF k (zs.take len)))\/len=0:=by
 rcases Afq len with h0 | h0
 ·exact .inr h0
 left;obtain ⟨b,off,spot⟩:=a;have h1:=hc 0 (by omega);have hs:spot=none:=by simpa[Addr.add] using World.cell?_spot h1
 subst hs;refine .sl b off len cap false _ (fun i=>.int k (zs.getD i 0)) hl (fun h=>by cases h) (fun i x hx=>?_) (fun i x hx=>?_) (fun i x hx=>?_)
 ·have hi:i<len:=by have:=(AaZ.1 hx).1;simp[AF] at this;omega
  have:=hc i (by omega);have e:Addr.add ⟨b,off,none⟩ i=⟨b,off+i,none⟩:=by unfold Addr.add;split<;>simp_all
  rw[e] at this;exact this
 ·have hi:i<len:=by have:=(AaZ.1 hx).1;simp[AF] at this;omega
  simp only[AF,Ada,Afr,if_pos hi] at hx;cases hzi:zs[i]? with
  | none=>simp[hzi] at hx
  | some z=>simp[hzi] at hx;subst hx;rw[Adl,hzi];exact .int _ _
 simp only[AF,Ada] at hx;cases hzi:(zs.take len)[i]? with
 | none=>simp[hzi] at hx
 | some z=>simp[hzi] at hx;subst hx;rfl
def XX {H:Type} {enc:TypeId × Value->H} {P:Program} {W:World} {base:Nat} {held:Bool} {t e:TypeId} {k:IntKind} {fuel:Nat} {v:Value} {x:DataW H × List MemPlace} (ht:P.underlying t=some (.slice e)) (he:P.underlying e=some (.int k)) (hc:P.cellsOf e=1)
  (hv:∃ a n c,v=.slice a n c) (h:DataW.trod enc P W base (fun _=>true) held fuel t v.cells.toList=some x) :
  ∃ l:List Int,R (P7 W) (fun _=>none) v (.d (.sl l.length false (AF k l)))/\(∀ n∈l,(Lit.int k n).wf=true)/\l.length<=maxLen:=by
 obtain ⟨a,n,c,rfl⟩:=hv;rcases open_ints ht he hc h with ⟨hcs,_⟩ | ⟨x,l,cp,zs,hcs,_,hl,hm,hz,_,hcell,hwz⟩
 ·simp[Value.cells] at hcs;obtain ⟨rfl,rfl,rfl⟩:=hcs;exact ⟨[],.d _ _ (.sl0 _ _),by simp,by simp⟩
 simp[Value.cells] at hcs;obtain ⟨rfl,rfl,rfl⟩:=hcs;have hz:zs.length=c:=by simpa using hz
 have lt:(zs.take n).length=n:=by rw[List.length_take];omega
 rcases Xn hl (by omega) hcell with hr | h0
 ·exact ⟨zs.take n,by rw[lt];exact .d _ _ hr,fun n hn=>hwz n (List.mem_of_mem_take hn),by rw[lt];omega⟩
 subst h0;refine ⟨[],?_,by simp,by simp⟩;rcases Afq c with h1 | h1
 ·subst h1;exact .d _ _ (.sl0 _ _)
 obtain ⟨b,off,spot⟩:=x;have hs:spot=none:=by simpa[Addr.add] using World.cell?_spot (hcell 0 (by omega))
 subst hs;exact .d _ _ (.sl b off 0 c false _ (fun _=>undef) (by omega) (fun h=>by cases h) (by simp[AF]) (by simp[AF]) (by simp[AF]))
end Go.Abs
namespace Go.Abs
open Go Go.RowKit Go.ChangeShapes Go.WideShapes Go.Joins Go.Deep
end Go.Abs
namespace Go.Abs
open Go
section
variable {P:Program} {G:Ah}
def RL.plain {h:Aj} {ρ ρ':Place} {vs:Array Value} {args:List AV} (r:RL h ρ vs args) (e0:ρ' 0=ρ 0) (ha:∀ a∈args,a=.ptr 0 0\/∃ d,a=.d d):RL h ρ' vs args:=by
 refine ⟨r.1,fun i v x hv hx=>?_⟩;have:=r.2 i v x hv hx;rcases ha x (Adi hx) with rfl | ⟨d,rfl⟩
 ·cases this with
  | ptr b off g S hρ=>exact .ptr 0 0 g S (e0.trans hρ)
 cases this with
 | d _ _ hd=>exact .d _ _ hd
def Ctr.lift1 {f:FuncId} {args:List AV} {x x' res:D} {c:AV} {H:List Ae} (spec:∀ v,Ctr P G f args [.box [.d x,.d (.val v)]] (.d res) [.box [.d x',.d (.val v)]])
  (ha:∀ a∈args,a=.ptr 0 0\/∃ d,a=.d d) (hH:H[0]?=some (.box [.d x,c])):Ctr P G f args H (.d res) (H.set 0 (.box [.d x',c])):=by
 refine ⟨(spec .nilFunc).1,fun h ρ w vs hs hvs=>?_⟩;have hlen:0<H.length:=(AaZ.1 hH).1;obtain ⟨g,S,c0,E,fr,b1,b2,b3,b4,b5,b6,b7⟩:=hs.blk 0 _ hH;simp only[List.length_cons,List.length_nil] at b5;obtain ⟨v,hv⟩:∃ v,c0[1]?=some v:=⟨c0[1],AeU (by omega)⟩
 let ρc:Place:=fun k=>if k=0 then ρ 0 else none
 have ρc0:ρc 0=ρ 0:=rfl;have ρcx:∀ i y,ρc i=some y->i=0:=fun i y e=>by
  by_cases hi:i=0;·exact hi
  simp only[ρc,if_neg hi] at e;cases e
 have l0:BP (hp H) 0:=⟨_,hH,by simp⟩;have sc:Sim G h ρc (hp [.box [.d x,.d (.val v)]]) w:=by
  refine ⟨hs.prom,hs.glob,fun i b e=>?_,fun i g S e=>?_,fun i j g S S' e1 e2 _ _=>?_⟩
  ·cases i with
   | zero =>
    simp[hp] at e;subst e;refine ⟨g,S,c0,E,fr,b1,b2,b3,b4,b5,fun j y u hy hu=>?_,b7⟩;cases j with
    | zero =>
     simp at hy;subst hy;have:=b6 0 (.d x) u (by simp) hu;cases this with
     | d _ _ hd=>exact .d _ _ hd
    | succ j =>
     cases j with
     | zero =>simp at hy;subst hy;rw[hv] at hu;cases hu;exact .d _ _ (.val v)
     | succ j=>simp at hy
   | succ i=>simp[hp] at e
  ·have:=ρcx i _ e;subst this;exact ⟨(hs.dom 0 g S e).1,_,rfl⟩
  rw[ρcx i _ e1,ρcx j _ e2]
 refine ((spec v).2 h ρc w vs sc (hvs.plain ρc0 ha)).mono ?_;rintro e w' ⟨v1,h',ρ',rfl,s',r',t'⟩;have hρ':ρ' 0=some (g,S):=t'.rmono 0 _ (ρc0.trans b1);have nc:∀ k,(∀ i S,ρ i≠some (k,S))->∀ i S,ρc i≠some (k,S):=fun k hn i S' e=>by have:=ρcx i _ e;subst this;exact hn 0 S' (ρc0▸e)
 have st:Bg h ρ w h' ρ w':=⟨t'.os,t'.tape,t'.output,t'.size,fun k hk hn=>t'.keep k hk (nc k hn),t'.mono,fun k hk hn=>t'.new k hk (nc k hn),Place.le_refl _,fun i g S e=>.inl ⟨i,S,e⟩⟩;have at0:hp (H.set 0 (.box [.d x',c])) 0=some (.box [.d x',c]):=by simp[hp,hlen]
 have atn:∀ i,i≠0->hp (H.set 0 (.box [.d x',c])) i=hp H i:=fun i hi=>by simp[hp,Ne.symm hi]
 have lv:∀ i,BP (hp (H.set 0 (.box [.d x',c]))) i->BP (hp H) i:=fun i ⟨b,hb,hn⟩=>by
  by_cases hi:i=0;·subst hi;exact l0
  exact ⟨b,by rw[<-atn i hi];exact hb,hn⟩
 refine ⟨v1,h',ρ,rfl,⟨s'.prom,s'.glob,fun i b e=>?_,fun i g S e=>?_,fun i j g S S' e1 e2 l1 l2=>hs.inj i j g S S' e1 e2 (lv i l1) (lv j l2)⟩,?_,st⟩
 ·by_cases hi:i=0
  ·subst hi;rw[at0] at e;cases e;obtain ⟨g',S',c',E',fr',a1,a2,a3,a4,a5,a6,a7⟩:=s'.blk 0 _ rfl;rw[hρ'] at a1;cases a1;refine ⟨g,S,c',E',fr',b1,a2,a3,a4,a5,fun j y u hy hu=>?_,a7⟩;cases j with
   | zero =>
    simp at hy;subst hy;have:=a6 0 (.d x') u (by simp) hu;cases this with
    | d _ _ hd=>exact .d _ _ hd
   | succ j =>
    cases j with
    | zero =>
     simp at hy;subst hy;have:=a6 1 (.d (.val v)) u (by simp) hu;cases this with
     | d _ _ hd =>cases hd;exact (b6 1 c _ (by simp) hv).mono t'.mono (Place.le_refl _)
    | succ j=>simp at hy
  rw[atn i hi] at e;by_cases hd:b=.dead;·subst hd;trivial
  refine (hs.blk i b e).frame st.n s'.prom t'.mono (Place.le_refl _) (fun g2 S2 hg=>?_) id;have hnc:∀ j S',ρc j≠some (g2,S'):=fun j S' ej=>by have:=ρcx j _ ej;subst this;exact hi (hs.inj i 0 g2 S2 S' hg (ρc0▸ej) ⟨b,e,hd⟩ l0)
  exact ⟨t'.keep g2 (hs.dom i g2 S2 hg).1 hnc,t'.new g2 (hs.dom i g2 S2 hg).1 hnc⟩
 ·obtain ⟨q1,b,q2⟩:=hs.dom i g S e;refine ⟨by have:=t'.size;omega,?_⟩;by_cases hi:i=0;·subst hi;exact ⟨_,at0⟩
  exact ⟨b,by rw[atn i hi];exact q2⟩
 cases r' with
 | d _ _ hd=>exact .d _ _ hd
def Aq.by {H Hn:List Ae} {f:FuncId} {avs avs':List AV} {res:AV} {k:Eff->Prop} (h:Ctr P G f avs' H res Hn) (ea:Mr H avs avs') (hl:H.length<=Hn.length) (hk:k ⟨res,Hu 0 Hn,[Jq,Jq]⟩):Aq P G H f avs k :=
 .inl ⟨avs',res,Hn,ea,h,hl,hk⟩
def Aq.view {H:List Ae} {f:FuncId} {avs ars:List AV} {k:Eff->Prop} (L:List Nat) (HS:(Nat->Nat->Value)->List Ae) {d:D} (hL:L.Nodup) (hlen:∀ e,(HS e).length=L.length)
  (hview:∀ e (j b:Nat),L[j]?=some b->∃ B C,H[b]?=some B/\(HS e)[j]?=some C/\Gn L e j B C) (hargs:OX H L avs ars) (spec:∀ e,Ctr P G f ars (HS e) (.d d) (HS e)) (hk:k ⟨.d d,[],L⟩):Aq P G H f avs k :=
 .inr (.inr ⟨L,HS,ars,d,hL,hlen,hview,hargs,spec,hk⟩)
def Aq.list {H:List Ae} {f:FuncId} {avs:List AV} {k:Eff->Prop} (m:Bool) (L:List Nat) (hL:L.Nodup) (h:Hq P G m H L f avs k):Aq P G H f avs k:=.inr (.inl ⟨m,L,hL,h⟩)
end
section
def SX:∀ (l:List Ae) (n m:Nat),n<=m->m<=n+l.length->wOK m (Hu n l)=true
 | [],n,m,_,_=>rfl
 | b::r,n,m,h1,h2=>by
   simp only[List.length_cons] at h2;rw[Hu,wOK];by_cases h:n<m;·rw[if_pos h];exact SX r (n+1) m (by omega) (by omega)
   rw[if_neg h];obtain rfl:n=m:=by omega
   simp only[BEq.rfl,Afz];exact SX r (n+1) (n+1) (Ado _) (by omega)
def ON:∀ (l pre H:List Ae),pre.length<=H.length->H.length<=pre.length+l.length->(∀ i,i<pre.length->H[i]?=pre[i]?)->applyW H (Hu pre.length l)=pre++l
 | [],pre,H,h1,h2,h3=>by
   rw[Hu,applyW,List.append_nil];simp only[List.length_nil,AfD] at h2;refine List.ext_getElem? fun i=>?_;rcases Aff i pre.length with h | h
   ·exact h3 i h
   rw[AeI (by omega),AeI h]
 | b::r,pre,H,h1,h2,h3=>by
   simp only[List.length_cons] at h2;rw[Hu,applyW];have e:pre++b::r=(pre++[b])++r:=(by simp)
   rw[e];have hl:(pre++[b]).length=pre.length+1:=(by simp)
   rw[<-hl];refine ON r (pre++[b]) _ ?_ ?_ fun i hi=>?_;·split<;>simp<;>omega
   ·split<;>simp<;>omega
   rw[hl] at hi;by_cases hlt:pre.length<H.length
   ·rw[if_pos hlt];by_cases hi':i=pre.length;·subst hi';simp[hlt]
    rw[Afl (by omega),Ac7 (by omega)];exact h3 i (by omega)
   rw[if_neg hlt];have e2:H.length=pre.length:=(by omega)
   by_cases hi':i=pre.length;·subst hi';rw[Adf (by omega),Adf (Ado _),e2]
   rw[Ac7 (by omega),Ac7 (by omega)];exact h3 i (by omega)
variable {P:Program} {G:Ah} {M:Ci} {ops:Array Oper} {rest:List Oper} {s:List AV} {H Hn:List Ae} {tr:TR} {dst:Option Nat} {K:RK} {v:AV}
def YL (hl:H.length<=Hn.length):OpC P G M ops rest s H tr dst K ⟨v,Hu 0 Hn,[Jq,Jq]⟩=E7 P G M ops rest (putA s dst v) Hn (tr++[([Jq,Jq],(Hu 0 Hn).map (·.1))]) K:=by
 have e1:wOK H.length (Hu 0 Hn)=true:=SX Hn 0 H.length (Afu _) (by omega);have e2:applyW H (Hu 0 Hn)=Hn:=by have:=ON Hn [] H (Afu _) (by simpa using hl) (fun i hi=>by simp at hi);simpa using this
 rw[OpC_mk,e1,e2];exact propext ⟨fun h=>h.2,fun h=>⟨rfl,h⟩⟩
def Aq.go {f:FuncId} {avs avs':List AV} (h:Ctr P G f avs' H v Hn) (ea:Mr H avs avs') (hl:H.length<=Hn.length)
  (hk:E7 P G M ops rest (putA s dst v) Hn (tr++[([Jq,Jq],(Hu 0 Hn).map (·.1))]) K):Aq P G H f avs (OpC P G M ops rest s H tr dst K) :=
 .by h ea hl (by rw[YL hl];exact hk)
def Ak.frI {P:Program} {G:Ah} {M:Ci} {p:Nat} {α:Type} (keep:Nat) (μ:α->Nat) (upd:α->List (Nat × AV)) (HH:α->List Ae) (R:α->Prop) {c:Code} {Q:AC} {s:List AV} {H:List Ae} (x0:α) (h0:R x0)
  (hw:Fe p s H (B5 (upd x0) (Ap keep s)) (HH x0))
  (round:∀ x,R x->Fd P G M p c (Jk (μ x) μ (fun x=>B5 (upd x) (Ap keep s)) HH R Q) (B5 (upd x) (Ap keep s)) (HH x)):Ak P G M p c Q s H :=
 Ak.invI μ (fun x=>B5 (upd x) (Ap keep s)) HH R x0 h0 hw round
def RetI.unit {P:Program} {p:Nat} {s:List AV} {H:List Ae}:GG P #[] p (.d (.tup [])) H .normal s H:=Or.inr ⟨rfl,Or.inr ⟨_,rfl,rfl,rfl⟩⟩
def RetI.unitR {P:Program} {p:Nat} {s:List AV} {H:List Ae}:GG P #[] p (.d (.tup [])) H .ret s H:=Or.inr ⟨rfl,Or.inr ⟨_,rfl,rfl,rfl⟩⟩
def Le {σ:Type} (I:Nat->σ->Prop) (T:Nat->σ->σ->Prop) (n:Nat) (x0:σ) (h0:I 0 x0) (step:∀ k,k<n->∀ x,I k x->∃ y,T k x y/\I (k+1) y) :
  ∃ f:Nat->σ,f 0=x0/\(∀ k,k<=n->I k (f k))/\∀ k,k<n->T k (f k) (f (k+1)):=by
 have key:∀ m,m<=n->∃ f:Nat->σ,f 0=x0/\(∀ k,k<=m->I k (f k))/\∀ k,k<m->T k (f k) (f (k+1)):=by
  intro m;induction m with
  | zero =>
   intro _;refine ⟨fun _=>x0,rfl,fun k hk=>?_,fun k hk=>by omega⟩;obtain rfl:k=0:=by omega
   exact h0
  | succ m ih =>
   intro hm;obtain ⟨f,f0,f1,f2⟩:=ih (by omega);obtain ⟨y,y1,y2⟩:=step m (by omega) (f m) (f1 m (Ado _));refine ⟨fun k=>if k<=m then f k else y,by simp[f0],fun k hk=>?_,fun k hk=>?_⟩
   ·by_cases h:k<=m;·simp only[if_pos h];exact f1 k h
    simp only[if_neg h];obtain rfl:k=m+1:=by omega
    exact y2
   by_cases h:k+1<=m;·simp only[if_pos h,if_pos (show k<=m by omega)];exact f2 k (by omega)
   obtain rfl:k=m:=by omega
   simp only[if_neg h,if_pos (Ado k)];exact y1
 exact key n (Ado _)
def PY {f:Nat->Nat} {r:List Nat} (h:Dt r=false) (b:Nat) (hb:rd (r.map f) (f b)=false):rd r b=false:=by simp only[rd,Bool.or_eq_false_iff,AeL,decide_eq_false_iff_not] at hb ⊢;exact ⟨fun hm=>hb.1 (Adn hm),h⟩
def VP {ops:Array Oper} {x y:Oper} {f:Nat->Nat} {tx ty:List Nat × List Nat} (h1:Dt tx.1=false) (h3:Dt ty.1=false)
  (h:Fa ops x y (tx.1.map f,tx.2.map f) (ty.1.map f,ty.2.map f)=true):Fa ops x y tx ty=true:=by
 simp only[Fa,AeR,Adp,Afe] at h ⊢;obtain ⟨⟨⟨⟨k1,k2⟩,k3⟩,k4⟩,k5⟩:=h;refine ⟨⟨⟨⟨k1,k2⟩,k3⟩,fun b hb=>⟨PY h3 b (k4 (f b) (Adn hb)).1,?_⟩⟩,fun b hb=>PY h1 b (k5 (f b) (Adn hb))⟩;have:=(k4 (f b) (Adn hb)).2;simp only[AeL,decide_eq_false_iff_not] at this ⊢;exact fun hm=>this (Adn hm)
def V0 {ops:Array Oper} {tr:TR} (f:Nat->Nat) (hn:∀ t∈tr,Dt t.1=false) (h:Ek ops (tr.map fun t=>(t.1.map f,t.2.map f))=true):Ek ops tr=true:=by
 have gz:∀ {i:Nat} {o:Oper} {t:List Nat × List Nat},(ops.toList.zip tr).zipIdx[i]?=some ((o,t),i)->(ops.toList.zip (tr.map fun t=>(t.1.map f,t.2.map f))).zipIdx[i]?=some ((o,(t.1.map f,t.2.map f)),i)/\t∈tr:=by
  intro i o t hi;rw[AeQ] at hi;cases hz:(ops.toList.zip tr)[i]? with
  | none=>simp[hz] at hi
  | some p =>simp[hz] at hi;subst hi;rw[AeT] at hz;obtain ⟨z1,z2⟩:=hz;have e:(ops.toList.zip (tr.map fun t=>(t.1.map f,t.2.map f)))[i]?=some (o,(t.1.map f,t.2.map f)):=AeT.2 ⟨z1,by rw[Ada,z2];rfl⟩;refine ⟨?_,Adi z2⟩;rw[AeQ,e];simp
 have idx:∀ {l:List (Oper × (List Nat × List Nat))} {q:(Oper × (List Nat × List Nat)) × Nat},q∈l.zipIdx->l.zipIdx[q.2]?=some (q.1,q.2):=by intro l q hq;obtain ⟨x,j⟩:=q;rw[List.mem_zipIdx_iff_getElem?] at hq;rw[AeQ,hq];simp
 simp only[Ek,Adp] at h ⊢;rintro ⟨⟨o,t⟩,j⟩ hm;have hj:=idx hm;obtain ⟨u1,u2⟩:=gz hj;have hh:=h ((o,(t.1.map f,t.2.map f)),j) (Adi u1);simp only[AeR,Adp,decide_eq_true_eq,Bool.or_eq_true] at hh ⊢;refine ⟨hh.1,?_⟩;rintro ⟨⟨o',t'⟩,i⟩ hi;have hi2:=List.mem_take_iff_getElem.1 hi;obtain ⟨k,hk,ek⟩:=hi2;have hk2:(ops.toList.zip tr).zipIdx[k]?=some ((o',t'),i):=by rw[Aa0 (by omega),ek]
 have hik:i=k:=by
  rw[AeQ] at hk2;cases hz:(ops.toList.zip tr)[k]? with
  | none=>simp[hz] at hk2
  | some p=>simp[hz] at hk2;exact hk2.2.symm
 subst hik;obtain ⟨v1,v2⟩:=gz hk2;rcases hh.2 ((o',(t'.1.map f,t'.2.map f)),i) (by refine Adi (i:=i) ?_;rw[Afr,if_pos (by omega)];exact v1) with h1 | h1
 ·exact .inl h1
 exact .inr (VP (hn _ v2) (hn _ u2) h1)
def Z2 {a b:Nat} (h:a≠b):Dt [a,b]=false:=by
 cases h1:Dt [a,b] with
 | false=>rfl
 | true =>simp only[Dt,AeR] at h1;exact absurd ((Afj h1.1).trans (Afj h1.2).symm) h
def A8:Dt []=false:=rfl
def A7 {a:Nat}:Dt [a]=false:=rfl
def Bv {a b:Nat} (h:¬a=b):Dt [a,b]=false:=Z2 h
def Bu {a b c:Nat} {l:List Nat}:Dt (a::b::c::l)=false:=rfl
def BC:TR->Prop
 | []=>True
 | t::r=>Dt t.1=false/\BC r
def BC.mem:∀ {tr:TR},BC tr->∀ t∈tr,Dt t.1=false
 | [],_,t,h=>by cases h
 | x::r,h,t,ht=>by
   rcases Afn.1 ht with rfl | ht
   ·exact h.1
   exact BC.mem h.2 t ht
def AR {ops:Array Oper} {tr:TR} (f:Nat->Nat) (hn:BC tr) (h:Ek ops (tr.map fun t=>(t.1.map f,t.2.map f))=true):Ek ops tr=true:=V0 f hn.mem h
def DA:∀ (l:List Nat),l.Nodup->∃ f:Nat->Nat,∀ (i x:Nat),l[i]?=some x->f x=i
 | [],_=>⟨fun _=>0,fun i x h=>by simp at h⟩
 | y::r,h=>by
   obtain ⟨f,hf⟩:=DA r (Afi.1 h).2;refine ⟨fun x=>if x=y then 0 else f x+1,fun i x hx=>?_⟩;cases i with
   | zero=>simp at hx;simp[hx]
   | succ i =>simp at hx;have hne:x≠y:=fun e=>(Afi.1 h).1 (e▸Adi hx);simp[hne,hf i x hx]
def idf (n:Nat):List (Option Nat):=(AeK n).map some
def FH (n:Nat):(idf n).length=n:=by simp[idf]
def Ba {n k:Nat} {fs:List (Option Nat)} (h:k<n):(idf n++fs)[k]?=some (some k):=by rw[Ac7 (by rw[FH];exact h)];simp[idf,Afm h]
def Bh {n k:Nat} {fs:List (Option Nat)}:(idf n++fs)[n+k]?=fs[k]?:=by rw[Adf (by rw[FH];omega),FH,Ae8]
def Bj {n:Nat} {fs:List (Option Nat)}:(idf n++fs)[n]?=fs[0]?:=Bh (k:=0)
def Su (n:Nat):(idf n).filterMap id=AeK n:=by unfold idf;rw[List.filterMap_map];simp
def UR (n:Nat) (b:Ae):Prop:=∀ fs,DN (idf n++fs) b b
def Bm.app {fl:List (Option Nat)} {H:List Ae}:∀ {a:List (Option Nat)} {c:List Ae} {b:List (Option Nat)} {d:List Ae},Bm fl H a c->Bm fl H b d->Bm fl H (a++b) (c++d)
 | [],[],b,d,_,h=>h
 | some j::r,x::r2,b,d,h1,h2=>⟨h1.1,Bm.app h1.2 h2⟩
 | none::r,x::r2,b,d,h1,h2=>⟨h1.1,Bm.app h1.2 h2⟩
 | [],_::_,b,d,h1,_=>by simp[Bm] at h1
 | some _::_,[],b,d,h1,_=>by simp[Bm] at h1
 | none::_,[],b,d,h1,_=>by simp[Bm] at h1
def Bm.pre {P0 l:List Ae} {fs:List (Option Nat)} (hs:∀ b∈P0,UR P0.length b):Bm (idf P0.length++fs) (P0++l) (idf P0.length) P0:=by
 have gen:∀ (m:Nat) (c:List Ae),(∀ i,i<c.length->(P0++l)[m+i]?=c[i]?)->(∀ b∈c,DN (idf P0.length++fs) b b)->Bm (idf P0.length++fs) (P0++l) ((AeK c.length).map fun i=>some (m+i)) c:=by
  intro m c;induction c generalizing m with
  | nil=>intro _ _;trivial
  | cons x r ih =>
   intro h1 h2;rw[List.length_cons,Afh,List.map_cons,Afc];refine ⟨?_,?_⟩;·have:=h1 0 (by simp);rw[this];exact h2 x (by simp)
   have:=ih (m+1) (fun i hi=>by have:=h1 (i+1) (by simp;omega);rw[show m+1+i=m+(i+1) by omega,this];simp) (fun b hb=>h2 b (Adm _ hb));have e:(fun i=>some (m+1+i))=((fun i=>some (m+i)) ∘ Nat.succ):=(by funext i;simp only[Afy];congr 1;omega);rw[e] at this;exact this
 have:=gen 0 P0 (fun i hi=>by rw[Afs];exact Ac7 hi) (fun b hb=>hs b hb fs);simp only[Afs] at this;exact this
def XS {n:Nat} {fs:List (Option Nat)} (hn:(fs.filterMap id).Nodup) (hge:∀ j∈fs.filterMap id,n<=j):((idf n++fs).filterMap id).Nodup:=by rw[List.filterMap_append,Su];refine List.nodup_append.2 ⟨Aft,hn,fun a ha b hb=>?_⟩;have:=Afv.1 ha;have:=hge b hb;omega
def DB.pre {P0 l l2:List Ae} {s s2:List AV} (fs:List (Option Nat)) (hs:∀ b∈P0,UR P0.length b) (hn:(fs.filterMap id).Nodup) (hge:∀ j∈fs.filterMap id,P0.length<=j)
  (h1:CK (idf P0.length++fs) s s2) (h2:Bm (idf P0.length++fs) (P0++l) fs l2):DB P0.length s (P0++l) s2 (P0++l2) :=
 ⟨idf P0.length++fs,by have:=List.take_left (l₁:=idf P0.length) (l₂:=fs);rw[FH] at this;exact this,XS hn hge,h1,Bm.app (Bm.pre hs) h2⟩
def Jp.pre {P0 l:List Ae} {v:AV} {d:D} (hs:∀ b∈P0,UR P0.length b) (hd:sealA (P0++l) v=some d) (hi:∀ j∈A3 v,P0.length<=j):Jp P0.length (P0++l) v (.d (unf d)) P0:=by
 refine ⟨idf P0.length,?_,?_,?_,.inr ⟨d,hd,rfl,?_⟩⟩;·have:=FH P0.length;rw[List.take_of_length_le (by omega)];rfl
 ·rw[Su];exact Aft
 ·have:=Bm.pre (l:=l) (fs:=[]) hs;rwa[List.append_nil] at this
 rw[Su,Adp];intro j hj;have:=Afv.1 hj;simp only[Afe,AeL,decide_eq_false_iff_not];intro hm;have:=hi j hm;omega
def BS {l:List Ae} {i:Nat} {b:Ae} (h:i<l.length):(l.set i b)[i]?=some b:=by simp[h]
def As {l:List Ae} {i j:Nat} {b:Ae} (h:¬i=j):(l.set i b)[j]?=l[j]?:=Afl h
def AJ {l m:List Ae} {i:Nat} (h:i<l.length):(l++m)[i]?=l[i]?:=Ac7 h
def Ch {l m:List Ae} {i:Nat} {b:Ae} (h:i<l.length):(l++m).set i b=l.set i b++m:=List.set_append_left i b h
def CA {l m:List Ae} {i:Nat} {b:Ae} (h:l.length<=i):(l++m).set i b=l++m.set (i-l.length) b:=List.set_append_right i b h
def Bc {l m:List Ae} {i:Nat} (h:l.length<=i):(l++m)[i]?=m[i-l.length]?:=Adf h
end
end Go.Abs
namespace Go.Abs
open Go
section
variable {k k2:IntKind} {n n2:Int} {b b2:Bool} {s s2:ByteArray} {m g i j z:Nat} {c e:List D} {f:Fn} {x:D} {u v w:List AV} {y y2:AV} {h:FuncId} {H:List Ae} {α:Type} {r t:List α} {q q2:α} {vs:Array Value} {a:Option Addr} {o on:Option Nat} {fs:List (Nat×Nat×Nat)} {es:List (D×D)} {bl:List UInt8} {J:List (D×Bool)->Aj->Place->World->Prop} {td:List (D×Bool)} {L ks:List Nat} {P:Program}
def w0:B2 (.int k n)=true:=rfl
def w1:B2 (.bool b)=true:=rfl
def w2:B2 (.str s)=true:=rfl
def w3:B2 (.sl m b c)=false:=rfl
def w4:B2 (.agg c)=false:=rfl
def w12:Co (.int k n)=true:=rfl
def w13:Co (.bool b)=true:=rfl
def w14:Co (.str s)=true:=rfl
def w15:Co (.sl m b c)=false:=rfl
def w16:Co (.agg c)=c.all B2:=rfl
def w17:Co (.tup c)=c.all B2:=rfl
def w24:Cl (.d x)=Co x:=rfl
def w25:Cl (.lsl i m j z)=false:=rfl
def w26:Cl (.ptr i j)=false:=rfl
def w28:Cl (.mp i)=false:=rfl
def w31:Cl (.fn f u w)=false:=rfl
def w32:Cl .undef=false:=rfl
def w33:D.one (.int k n)=true:=rfl
def w34:D.one (.bool b)=true:=rfl
def w35:D.one (.str s)=true:=rfl
def w36:D.one (.sl m b c)=true:=rfl
def w45:AV.one (.d x)=x.one:=rfl
def w46:AV.one (.lsl i m j z)=true:=rfl
def w49:AV.one (.mp i)=true:=rfl
def w54:unfA (.d x)=.d (unf x):=rfl
def w55:unfA (.lsl i m j z)=(.lsl i m j z):=rfl
def w56:unfA (.ptr i j)=(.ptr i j):=rfl
def w61:unfA (.fn f u w)=(.fn f u w):=rfl
def w63:Ga (.d x)=[]:=rfl
def w64:Ga (.lsl i m j z)=[]:=rfl
def w65:Ga (.ptr i j)=[i]:=rfl
def w68:Ga (.agg u)=refsL u:=rfl
def w70:Ga (.fn f u w)=refsL u++refsL w:=rfl
def w72:A3 (.d x)=[]:=rfl
def w73:A3 (.lsl i m j z)=[i]:=rfl
def w74:A3 (.ptr i j)=[]:=rfl
def w77:A3 (.agg u)=idsL u:=rfl
def w79:A3 (.fn f u w)=idsL u++idsL w:=rfl
def w81:AL (.lsl i m j z)=some [(.lsl i m j z)]:=rfl
def w84:AL (.mp i)=some [(.mp i)]:=rfl
def w85:AL (.agg u)=some u:=rfl
def w89:AL (.d (.int k n))=some [.d (.int k n)]:=rfl
def w90:AL (.d (.bool b))=some [.d (.bool b)]:=rfl
def w91:AL (.d (.str s))=some [.d (.str s)]:=rfl
def w92:AL (.d (.sl m b c))=some [.d (.sl m b c)]:=rfl
def w93:AL (.d (.agg c))=some (c.map .d):=rfl
def w121:DT H g (.lsl i m j z)=(match H[i]? with|some (.row _ c)=>some (z,cut c j (z*g),[i])|_=>none):=rfl
def w132:DT H g (.d (.sl m b c))=some (m,c,[]):=rfl
def w141:EQ (.fn (.func h) u w) v=some (h,u++v++w):=rfl
def w142:EQ (.d (.fn (.func h) c e)) v=some (h,c.map .d++v++e.map .d):=rfl
def w143:Dj r i [q]=r.set i q:=rfl
def w144:Dj r i (q::q2::t)=r.take i++(q::q2::t)++r.drop (i+(q::q2::t).length):=rfl
def w146:AU []=.tup []:=rfl
def w147:AU [y]=y:=rfl
def w148:AU (y::y2::u)=.tup (y::y2::u):=rfl
def w149:Gb (.agg vs)=.agg (vs.toList.map Cp):=rfl
def w150:Gb (.bool b)=Cp (.bool b):=rfl
def w151:Gb (.int k n)=Cp (.int k n):=rfl
def w152:Gb (.string s)=Cp (.string s):=rfl
def w153:Gb (.pointer a)=Cp (.pointer a):=rfl
def w154:Gb (.slice a i j)=Cp (.slice a i j):=rfl
def w155:Gb (.map o)=Cp (.map o):=rfl
def w156:Gb .nilFunc=Cp .nilFunc:=rfl
def w158:Cp (.int k n)=.d (.int k n):=rfl
def w159:Cp (.bool b)=.d (.bool b):=rfl
def w160:Cp (.string s)=.d (.str s):=rfl
def w161:Cp (.slice none 0 0)=.d (.sl 0 true []):=rfl
def w162:Cp (.pointer none)=.d .nilp:=rfl
def w163:Cp (.map none)=.d .nilm:=rfl
def w165:Cp .nilFunc=.d .nilf:=rfl
def w166:B3 .add=false:=rfl
def w167:B3 .sub=false:=rfl
def w168:B3 .mul=false:=rfl
def w169:B3 .quo=false:=rfl
def w170:B3 .rem=false:=rfl
def w171:B3 .and=false:=rfl
def w172:B3 .or=false:=rfl
def w173:B3 .xor=false:=rfl
def w174:B3 .shl=true:=rfl
def w175:B3 .shr=true:=rfl
def w177:B3 .eql=false:=rfl
def w178:B3 .neq=false:=rfl
def w179:B3 .lss=false:=rfl
def w180:B3 .leq=false:=rfl
def w181:B3 .gtr=false:=rfl
def w182:B3 .geq=false:=rfl
def w183:Cm (.int k)=false:=rfl
def w184:Cm .bool=false:=rfl
def w185:Cm .string=false:=rfl
def w186:Cm (.slice i)=false:=rfl
def w187:Cm (.array i j)=true:=rfl
def w188:Cm (.struct fs)=true:=rfl
def w190:Cm (.map i j)=false:=rfl
def w199:IntKind.signed .u32=false:=rfl
def w202:Hw H L (.row b c)=[]:=rfl
def w203:Hw H L (.box u)=sidsL H L u:=rfl
def w206:Hw H L (.bld i b j on)=[]:=rfl
def w207:Hw H L (.buf i bl)=[]:=rfl
def w209:KB P (.int k) (.int k2 n)=decide (k=k2):=rfl
def w210:KB P .string (.str s)=true:=rfl
def w237:En (.d (.agg c))=some c:=rfl
def w255:Ce []=some []:=rfl
def w256:Ce (.d x::u)=(match x.one,Ce u with|true,some l=>some (x::l)|_,_=>none):=rfl
def w265:Dz [] c e=some true:=rfl
def w267:Dz (1::ks) (.str s::c) (.str s2::e)=(match Dz ks c e with|some q=>some ((s.toList==s2.toList)&&q)|none=>none):=by simp only[Dz];cases Dz ks c e<;>rfl
def w268:Dz (2::ks) (.bool b::c) (.bool b2::e)=(match Dz ks c e with|some q=>some ((b==b2)&&q)|none=>none):=by simp only[Dz];cases Dz ks c e<;>rfl
set_option linter.defProp false in
def awX:=(And.intro (And.intro (And.intro (And.intro (And.intro (And.intro @w0 (And.intro @w1 @w2)) (And.intro @w3 (And.intro @w4 @w12))) (And.intro (And.intro @w13 (And.intro @w14 @w15)) (And.intro (And.intro @w16 @w17) (And.intro @w24 @w25)))) (And.intro (And.intro (And.intro @w26 (And.intro @w28 @w31)) (And.intro (And.intro @w32 @w33) (And.intro @w34 @w35))) (And.intro (And.intro @w36 (And.intro @w45 @w46)) (And.intro (And.intro @w49 @w54) (And.intro @w55 @w56))))) (And.intro (And.intro (And.intro (And.intro @w61 (And.intro @w63 @w64)) (And.intro (And.intro @w65 @w68) (And.intro @w70 @w72))) (And.intro (And.intro @w73 (And.intro @w74 @w77)) (And.intro (And.intro @w79 @w81) (And.intro @w84 @w85)))) (And.intro (And.intro (And.intro @w89 (And.intro @w90 @w91)) (And.intro (And.intro @w92 @w93) (And.intro @w121 @w132))) (And.intro (And.intro @w141 (And.intro @w142 @w143)) (And.intro (And.intro @w144 @w146) (And.intro @w147 @w148)))))) (And.intro (And.intro (And.intro (And.intro (And.intro @w149 (And.intro @w150 @w151)) (And.intro @w152 (And.intro @w153 @w154))) (And.intro (And.intro @w155 (And.intro @w156 @w158)) (And.intro (And.intro @w159 @w160) (And.intro @w161 @w162)))) (And.intro (And.intro (And.intro @w163 (And.intro @w165 @w166)) (And.intro (And.intro @w167 @w168) (And.intro @w169 @w170))) (And.intro (And.intro @w171 (And.intro @w172 @w173)) (And.intro (And.intro @w174 @w175) (And.intro @w177 @w178))))) (And.intro (And.intro (And.intro (And.intro @w179 (And.intro @w180 @w181)) (And.intro (And.intro @w182 @w183) (And.intro @w184 @w185))) (And.intro (And.intro @w186 (And.intro @w187 @w188)) (And.intro (And.intro @w190 @w199) (And.intro @w202 @w203)))) (And.intro (And.intro (And.intro @w206 (And.intro @w207 @w209)) (And.intro (And.intro @w210 @w237) (And.intro @w255 @w256))) (And.intro (And.intro @w265 (And.intro @w267 @w268)) (And.intro (And.intro @implies_true.{0} @implies_true.{1}) (And.intro @forall_const.{1} @forall_const.{0})))))))
set_option linter.defProp false in
def Af:=
 (And.intro
 (And.intro
 (And.intro @Option.toList_some.{0}
 (And.intro @Option.toList_none.{0} @N5))
 (And.intro @N4
 (And.intro @ER @OJ)))
 (And.intro
 (And.intro @Rv
 (And.intro @Rw @Ru))
 (And.intro @UE
 (And.intro @BX @PO))))
end
end Go.Abs
namespace Go.Abs
set_option linter.defProp false in
def Be := And.intro @BS (And.intro @As (And.intro @AJ (And.intro @Bc (And.intro @Ch (And.intro @CA (And.intro @List.length_set.{0} (And.intro @List.length_append.{0} (And.intro @List.append_assoc.{0} (And.intro @Ae8 (And.intro @Nat.sub_self (And.intro @List.set_cons_zero.{0} @List.set_cons_succ.{0})))))))))))
end Go.Abs
