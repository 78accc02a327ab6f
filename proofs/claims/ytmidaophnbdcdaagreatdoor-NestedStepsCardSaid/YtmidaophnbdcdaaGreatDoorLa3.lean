/-
  The abstract machine, part 19: weakening; code; the contract of a function from its body.
-/
import Derived.Test.YtmidaophnbdcdaaGreatDoorLa2
import Derived.Scope
import Derived.Laws.BitsAllLaws
import Derived.Laws.Cover3
import Derived.Below
import Derived.Laws.RangeAny
import Derived.ProofKit
import Derived.OpenShut
import Derived.Lib.LaidU8
import Derived.Deep.DeepHandedRow
import Derived.Deep.DeepWitnessRowRef
import Derived.SliceStrings
import Derived.Deep.Slices
import Derived.Lib.SmallJoins
set_option linter.all false
open List renaming getElem?_eq_some_iff->AbY,getElem?_eq_getElem->AbZ,getElem?_map->Aeg,getElem?_append_left->Aen,getElem?_append_right->Aeq,mem_of_getElem?->Aer,replicate->Aet,getD_eq_getElem?_getD->Aeu,mem_cons_of_mem->Aev,mem_map_of_mem->Aew,all_eq_true->AeA,range->AeB,getElem?_eq_none->Af0,getElem?_set->Af1,contains_eq_mem->Af2,getElem?_zipIdx->Af7,getElem?_zip_eq_some->Agb,map_congr_left->Agq,mem_filterMap->Agu,map_map->Agw,mem_cons->Agx,getElem?_range->Agy,getElem?_take->Agz,range_succ_eq_map->AgE,nodup_cons->AgF,nodup_nil->AgH,getElem?_set_ne->AgI,map_take->AgJ,pairwise_cons->AgL,findIdx?_cons->AgM,nodup_range->AgP,mem_range->AgR,map_drop->AgS,mem_map->AgV,map_set->AgW
open Array renaming getElem?_eq_some_iff->Aes,getElem?_extract->AfI,getElem?_eq_getElem->Agp
open Nat renaming le_refl->Aex,lt_of_lt_of_le->AfZ,add_sub_cancel_left->Agv,lt_or_ge->AgC,le_trans->AgD,eq_of_beq_eq_true->AgG,eq_zero_or_pos->AgN,zero_add->AgO,zero_le->AgQ,zero_mod->AgX,add_zero->AgY
open Bool renaming and_eq_true->Aga,not_eq_true'->AgB,false_eq_true->AgK,true_and->AgU
open Int renaming fdiv_eq_ediv_of_nonneg->AgA
open Function renaming comp->AgT
open Or renaming inr->AgZ
namespace Go.Abs
open Go
mutual
def Ap (fl:List (Option Nat)):AV->AV->Prop
 | _,.undef=>True
 | x,.lsl k sz off n=>match fl[k]? with
   | some (some j)=>x=.lsl j sz off n
   | some none=>x=.d (.sl 0 true [])/\off=0/\n=0
   | none=>False
 | x,.ptr k off=>match fl[k]? with
   | some (some j)=>x=.ptr j off
   | _=>False
 | x,.mp k=>match fl[k]? with
   | some (some j)=>x=.mp j
   | _=>False
 | x,.ifp t k=>match fl[k]? with
   | some (some j)=>x=.ifp t j
   | _=>False
 | x,.d d=>x=.d d\/∃ n cs,d=.sl n false cs/\x=.d (.sl n true cs)
 | x,.rptr off cs=>x=.rptr off cs
 | x,.agg cs=>match x with | .agg xs=>Cx fl xs cs | _=>False
 | x,.tup cs=>match x with | .tup xs=>Cx fl xs cs | _=>False
 | x,.fn f a b=>match x with | .fn g c d=>g=f/\Cx fl c a/\Cx fl d b | _=>False
def Cx (fl:List (Option Nat)):List AV->List AV->Prop
 | [],[]=>True
 | x::r,y::r2=>Ap fl x y/\Cx fl r r2
 | _,_=>False
end
def Dt {fl:List (Option Nat)}:∀ {s s2:List AV},Cx fl s s2->s.length=s2.length/\∀ (i:Nat) x y,s[i]?=some x->s2[i]?=some y->Ap fl x y
 | [],[],_=>lC
 | x::r,y::r2,h=>by
   simp only[Cx] at h;have ih:=Dt h.2;refine ⟨jX,fun i u v hu hv=>?_⟩;cases i with
   | zero=>simp at hu hv;subst hu;subst hv;exact h.1
   | succ i=>simp at hu hv;exact ih.2 i u v hu hv
 | [],_::_,h=>by simp[Cx] at h
 | _::_,[],h=>by simp[Cx] at h
def plN (fl:List (Option Nat)) (ρ:Place):Place:=fun k=>match fl[k]? with | some (some j)=>ρ j | _=>none
def ZC {h:Held} {ρ:Place} {fl:List (Option Nat)} {v:Value} {x:AV} (r:R h ρ v x):∀ {y:AV},Ap fl x y->R h (plN fl ρ) v y:=by
 have pl:∀ {k j:Nat},fl[k]?=some (some j)->plN fl ρ k=ρ j:=fun e=>by simp[plN,e]
 induction r with
 | d v d hx =>
  intro y hy;cases y with
  | d e =>
   simp only[Ap] at hy;rcases hy with hy | ⟨n,cs,rfl,hy⟩
   ·cases hy;exact .d _ _ hx
   cases hy;exact .d _ _ hx.unf
  | undef=>exact .undef _
  | lsl k sz off n =>
   simp only[Ap] at hy;split at hy;·cases hy
   ·obtain ⟨e,rfl,rfl⟩:=hy;cases e;cases hx with
    | sl0 base=>exact .lsl0 _ _ _ _
    | sl g off n cap full cells vs hn hf=>have:=hf rfl;subst this;exact .lsl0 _ _ _ _
   exact hy.elim
  | ptr=>simp only[Ap] at hy;exact qo
  | mp=>simp only[Ap] at hy;exact qo
  | ifp=>simp only[Ap] at hy;exact qo
  | rptr=>simp[Ap] at hy
  | agg=>simp[Ap] at hy
  | tup=>simp[Ap] at hy
  | fn=>simp[Ap] at hy
 | lsl0 base b sz off =>
  intro y hy;cases y with
  | undef=>exact .undef _
  | lsl k sz off n =>
   simp only[Ap] at hy;split at hy;·cases hy;exact .lsl0 _ _ _ _
   ·obtain ⟨e,_⟩:=hy;cases e
   exact hy.elim
  | d=>simp[Ap] at hy
  | ptr=>simp only[Ap] at hy;exact qo
  | mp=>simp only[Ap] at hy;exact qo
  | ifp=>simp only[Ap] at hy;exact qo
  | rptr=>simp[Ap] at hy
  | agg=>simp[Ap] at hy
  | tup=>simp[Ap] at hy
  | fn=>simp[Ap] at hy
 | lsl b sz off n cap g S hρ hn hc =>
  intro y hy;cases y with
  | undef=>exact .undef _
  | lsl k sz off n =>
   simp only[Ap] at hy;split at hy;·rename_i j hj;cases hy;exact .lsl _ _ _ _ cap g S ((pl hj).trans hρ) hn hc
   ·obtain ⟨e,_⟩:=hy;cases e
   exact hy.elim
  | d=>simp[Ap] at hy
  | ptr=>simp only[Ap] at hy;exact qo
  | mp=>simp only[Ap] at hy;exact qo
  | ifp=>simp only[Ap] at hy;exact qo
  | rptr=>simp[Ap] at hy
  | agg=>simp[Ap] at hy
  | tup=>simp[Ap] at hy
  | fn=>simp[Ap] at hy
 | ptr b off g S hρ =>
  intro y hy;cases y with
  | undef=>exact .undef _
  | ptr k off=>simp only[Ap] at hy;split at hy;rename_i j hj;cases hy;exact .ptr _ _ g S ((pl hj).trans hρ);exact hy.elim
  | lsl=>simp only[Ap] at hy;exact pE
  | mp=>simp only[Ap] at hy;exact qo
  | ifp=>simp only[Ap] at hy;exact qo
  | d=>simp[Ap] at hy
  | rptr=>simp[Ap] at hy
  | agg=>simp[Ap] at hy
  | tup=>simp[Ap] at hy
  | fn=>simp[Ap] at hy
 | mp b g S hρ =>
  intro y hy;cases y with
  | undef=>exact .undef _
  | mp k=>simp only[Ap] at hy;split at hy;rename_i j hj;cases hy;exact .mp _ g S ((pl hj).trans hρ);exact hy.elim
  | lsl=>simp only[Ap] at hy;exact pE
  | ptr=>simp only[Ap] at hy;exact qo
  | ifp=>simp only[Ap] at hy;exact qo
  | d=>simp[Ap] at hy
  | rptr=>simp[Ap] at hy
  | agg=>simp[Ap] at hy
  | tup=>simp[Ap] at hy
  | fn=>simp[Ap] at hy
 | ifp t b g S hρ =>
  intro y hy;cases y with
  | undef=>exact .undef _
  | ifp t' k=>simp only[Ap] at hy;split at hy;rename_i j hj;cases hy;exact .ifp _ _ g S ((pl hj).trans hρ);exact hy.elim
  | lsl=>simp only[Ap] at hy;exact pE
  | ptr=>simp only[Ap] at hy;exact qo
  | mp=>simp only[Ap] at hy;exact qo
  | d=>simp[Ap] at hy
  | rptr=>simp[Ap] at hy
  | agg=>simp[Ap] at hy
  | tup=>simp[Ap] at hy
  | fn=>simp[Ap] at hy
 | rptr g base off cells vs h1 h2 =>
  intro y hy;cases y with
  | undef=>exact .undef _
  | rptr o c=>simp only[Ap] at hy;cases hy;exact .rptr g base off cells vs h1 h2
  | lsl=>simp only[Ap] at hy;exact pE
  | ptr=>simp only[Ap] at hy;exact qo
  | mp=>simp only[Ap] at hy;exact qo
  | ifp=>simp only[Ap] at hy;exact qo
  | d=>simp[Ap] at hy
  | agg=>simp[Ap] at hy
  | tup=>simp[Ap] at hy
  | fn=>simp[Ap] at hy
 | agg vs cells hl _ ih =>
  intro y hy;cases y with
  | undef=>exact .undef _
  | agg cs =>
   simp only[Ap] at hy;have hg:=Dt hy;refine .agg vs cs lA (fun i v z hv hz=>?_);have hi:i<cells.length:=fX
   have hx:=AbZ hi;exact qi
  | lsl=>simp only[Ap] at hy;exact pE
  | ptr=>simp only[Ap] at hy;exact qo
  | mp=>simp only[Ap] at hy;exact qo
  | ifp=>simp only[Ap] at hy;exact qo
  | d=>simp[Ap] at hy
  | rptr=>simp[Ap] at hy
  | tup=>simp[Ap] at hy
  | fn=>simp[Ap] at hy
 | tup vs cells hl _ ih =>
  intro y hy;cases y with
  | undef=>exact .undef _
  | tup cs =>
   simp only[Ap] at hy;have hg:=Dt hy;refine .tup vs cs lA (fun i v z hv hz=>?_);have hi:i<cells.length:=fX
   have hx:=AbZ hi;exact qi
  | lsl=>simp only[Ap] at hy;exact pE
  | ptr=>simp only[Ap] at hy;exact qo
  | mp=>simp only[Ap] at hy;exact qo
  | ifp=>simp only[Ap] at hy;exact qo
  | d=>simp[Ap] at hy
  | rptr=>simp[Ap] at hy
  | agg=>simp[Ap] at hy
  | fn=>simp[Ap] at hy
 | fn f vs us a b hl hl' _ _ ih ih' =>
  intro y hy;cases y with
  | undef=>exact .undef _
  | fn g a2 b2 =>
   simp only[Ap] at hy;obtain ⟨rfl,ha,hb⟩:=hy;have hg:=Dt ha;have hg':=Dt hb;refine .fn f vs us a2 b2 lA lA (fun i v z hv hz=>?_) (fun i v z hv hz=>?_)
   ·have hi:i<a.length:=fX;have hx:=AbZ hi;exact qi
   have hi:i<b.length:=fX;have hx:=AbZ hi;exact ih' i v _ hv hx (hg'.2 i _ z hx hz)
  | lsl=>simp only[Ap] at hy;exact pE
  | ptr=>simp only[Ap] at hy;exact qo
  | mp=>simp only[Ap] at hy;exact qo
  | ifp=>simp only[Ap] at hy;exact qo
  | d=>simp[Ap] at hy
  | rptr=>simp[Ap] at hy
  | agg=>simp[Ap] at hy
  | tup=>simp[Ap] at hy
 | undef v =>
  intro y hy;cases y with
  | undef=>exact .undef _
  | lsl=>simp only[Ap] at hy;exact pE
  | ptr=>simp only[Ap] at hy;exact qo
  | mp=>simp only[Ap] at hy;exact qo
  | ifp=>simp only[Ap] at hy;exact qo
  | d=>simp[Ap] at hy
  | rptr=>simp[Ap] at hy
  | agg=>simp[Ap] at hy
  | tup=>simp[Ap] at hy
  | fn=>simp[Ap] at hy
def Dv (fl:List (Option Nat)):Ae->Ae->Prop
 | _,.dead=>True
 | b,.row fz cells=>match b with | .row fz' cells'=>cells'=cells/\(fz'=true->fz=true) | _=>False
 | b,.box cells=>match b with | .box cs=>Cx fl cs cells | _=>False
 | b,.map l=>b=.map l
 | b,.amap l=>match b with | .amap l'=>l'.map (·.1)=l.map (·.1)/\Cx fl (l'.map (·.2)) (l.map (·.2)) | .map []=>l=[] | _=>False
 | b,.iter s pos=>b=.iter s pos
 | b,.bld T used n k=>match k with
   | none=>b=.bld T used n none
   | some k=>match fl[k]? with
     | some (some j)=>b=.bld T used n (some j)
     | some none=>n=0/\b=.bld T used 0 none
     | none=>False
 | b,.buf e l=>b=.buf e l
 | b,.ext J t=>b=.ext J t/\fl[0]?=some (some 0)
def Bc (fl:List (Option Nat)) (H:List Ae):List (Option Nat)->List Ae->Prop
 | [],[]=>True
 | some j::r,b2::r2=>(match H[j]? with | some b=>Dv fl b b2 | none=>False)/\Bc fl H r r2
 | none::r,b2::r2=>(b2=.row false []\/∃ e,b2=.buf e [])/\Bc fl H r r2
 | _,_=>False
def LI {fl:List (Option Nat)} {H:List Ae}:∀ {l:List (Option Nat)} {H2:List Ae},Bc fl H l H2->l.length=H2.length /\
  ∀ (k:Nat) b2,H2[k]?=some b2->(∃ j b,l[k]?=some (some j)/\H[j]?=some b/\Dv fl b b2)\/(l[k]?=some none/\(b2=.row false []\/∃ e,b2=.buf e []))
 | [],[],_=>lC
 | some j::r,b2::r2,h=>by
   simp only[Bc] at h;have ih:=LI h.2;refine ⟨jX,fun k b hb=>?_⟩;cases k with
   | zero =>
    simp at hb;subst hb;have h1:=h.1;split at h1;·rename_i c hc;exact .inl ⟨j,c,rfl,hc,h1⟩
    exact h1.elim
   | succ k=>simp at hb;simpa using ih.2 k b hb
 | none::r,b2::r2,h=>by
   simp only[Bc] at h;have ih:=LI h.2;refine ⟨jX,fun k b hb=>?_⟩;cases k with
   | zero=>simp at hb;subst hb;exact .inr ⟨rfl,h.1⟩
   | succ k=>simp at hb;simpa using ih.2 k b hb
 | [],_::_,h=>jr
 | some _::_,[],h=>jr
 | none::_,[],h=>jr
def DA (p:Nat) (s:List AV) (H:List Ae) (s2:List AV) (H2:List Ae):Prop :=
 ∃ fl:List (Option Nat),fl.take p=(AeB p).map some/\(fl.filterMap id).Nodup/\Cx fl s s2/\Bc fl H fl H2
def Bs:List (Option Nat)->List Ae->List Nat
 | some j::r,.row true _::r2=>j::Bs r r2
 | _::r,_::r2=>Bs r r2
 | _,_=>[]
def BQ:∀ {l:List (Option Nat)} {H2:List Ae} {j:Nat},j∈Bs l H2↔∃ (k:Nat) (cells:List D),l[k]?=some (some j)/\H2[k]?=some (Ae.row true cells)
 | [],H2,j=>by simp[Bs]
 | x::r,[],j=>by simp[Bs]
 | x::r,b::r2,j=>by
   have ih:=BQ (l:=r) (H2:=r2) (j:=j);have other:(∀ c,¬(x=some j/\b=.row true c))->((∃ (k:Nat) (cells:List D),(x::r)[k]?=some (some j)/\(b::r2)[k]?=some (Ae.row true cells))↔∃ (k:Nat) (cells:List D),r[k]?=some (some j)/\r2[k]?=some (Ae.row true cells)):=by
    intro hno;constructor
    ·rintro ⟨k,c,h1,h2⟩;cases k with
     | zero=>simp at h1 h2;exact absurd ⟨h1,h2⟩ (hno c)
     | succ k=>exact ⟨k,c,iN,iS⟩
    rintro ⟨k,c,h1,h2⟩;exact ⟨k+1,c,iN,iS⟩
   unfold Bs;split
   ·rename_i i r' cs r2' e1 e2;cases e1;cases e2;by_cases hij:j=i;·subst hij;simp;exact ⟨0,rfl,cs,rfl⟩
    rw[other (fun c ⟨e1,_⟩=>hij (Option.some.inj e1).symm),Agx];simp[hij,ih]
   ·rename_i y r' c r2' hno e1 e2;cases e1;cases e2;rw[other (fun c' ⟨e1,e2⟩=>hno j c' e1 e2),ih]
   rename_i h1 h2;exact absurd rfl (h2 x r b r2 rfl)
def II {fl:List (Option Nat)} {s s2:List AV} {H H2:List Ae} (f2:(fl.filterMap id).Nodup) (f3:Cx fl s s2) (f4:Bc fl H fl H2) {G:Ah} {h:Held} {ρ:Place} {w:World} {tmps:Array Value}
  (q1:Sim G h ρ (hp H) w) (q2:SR h ρ tmps s):∃ h1,A6 h ρ w h1 ρ w/\Sim G h1 ρ (Am (hp H) (frz H (Bs fl H2))) w/\Sim G h1 (plN fl ρ) (hp H2) w/\SR h1 (plN fl ρ) tmps s2:=by
 obtain ⟨g1,g2⟩:=LI f4;obtain ⟨h1,s1,t1,_⟩:=B0 H (Bs fl H2) h (hp H) q1 (fun b _=>.inl rfl);have uniq:∀ {k k' j:Nat},fl[k]?=some (some j)->fl[k']?=some (some j)->k=k':=by
  intro k k' j e1 e2;have hp:=List.pairwise_filterMap.1 f2;have hpw:=List.pairwise_iff_getElem.1 hp;obtain ⟨l1,m1⟩:=AbY.1 e1;obtain ⟨l2,m2⟩:=AbY.1 e2;rcases Nat.lt_trichotomy k k' with hlt | hlt | hlt
  ·exact absurd rfl (hpw k k' l1 l2 hlt j (by simp[m1]) j (by simp[m2]))
  ·exact hlt
  exact absurd rfl (hpw k' k l2 l1 hlt j (by simp[m2]) j (by simp[m1]))
 have pl:∀ {k j:Nat},fl[k]?=some (some j)->plN fl ρ k=ρ j:=fun e=>by simp[plN,e]
 have pl':∀ {k:Nat} {x:Nat × Nat},plN fl ρ k=some x->∃ j,fl[k]?=some (some j)/\ρ j=some x:=by
  intro k x e;simp only[plN] at e;split at e;·rename_i j hj;exact ⟨j,hj,e⟩
  cases e
 have hblk:∀ k b2,H2[k]?=some b2->GO h1 (plN fl ρ) w k b2/\(b2≠.dead->∀ j,fl[k]?=some (some j)->BC (Am (hp H) (frz H (Bs fl H2))) j):=by
  intro k b2 hb2;rcases g2 k b2 hb2 with ⟨j,b,e1,e2,e3⟩ | ⟨e1,rfl | ⟨e,rfl⟩⟩
  ·have hj2:∀ {j'},fl[k]?=some (some j')->j'=j:=fun e=>by rw[e1] at e;cases e;rfl
   cases b2 with
   | dead=>exact ⟨trivial,fun hn=>absurd rfl hn⟩
   | row fz cells =>
    simp only[Dv] at e3;split at e3
    ·rename_i fz' cells';obtain ⟨rfl,hfz⟩:=e3;have hj:Am (hp H) (frz H (Bs fl H2)) j=some (.row fz cells'):=by
      by_cases hjm:j∈Bs fl H2
      ·obtain ⟨k',c',u1,u2⟩:=BQ.1 hjm;have:=uniq u1 e1;subst this;rw[hb2] at u2;cases u2;have:∀ (ids:List Nat) (Hx:A9),(Hx j=some (.row fz' cells')\/Hx j=some (.row true cells'))->j∈ids->Am Hx (frz H ids) j=some (.row true cells'):=by
        intro ids;induction ids with
        | nil=>intro _ _ hm;cases hm
        | cons i r ih =>
         intro Hx hx hm;by_cases hmr:j∈r
         ·simp only[frz];split
          ·rename_i cc hcc;rw[Am];refine ih _ ?_ hmr;by_cases hji:j=i;·subst hji;rw[e2] at hcc;cases hcc;exact .inr lC
           simpa[hji] using hx
          exact ih _ hx hmr
         have hji:j=i:=(by rcases Agx.1 hm with e | e;exact e;exact absurd e hmr);subst hji;simp only[frz];split;·rename_i cc hcc;rw[e2] at hcc;cases hcc;rw[Am,AD _ _ j (fun q hq e=>hmr (e▸BV hq))];simp
         rename_i hno;rw[AD _ _ j (fun q hq e=>hmr (e▸BV hq))];cases fz' with
         | true=>rcases hx with hx | hx<;>exact hx
         | false=>exact absurd e2 (hno cells')
       exact this _ (hp H) (.inl e2) hjm
      have hfz2:fz=false:=by
       cases fz with
       | false=>rfl
       | true=>exact absurd (BQ.2 ⟨k,cells',e1,hb2⟩) hjm
      subst hfz2;have hfz':fz'=false:=(by cases fz' with | false=>rfl | true=>exact absurd (hfz rfl) lC)
      subst hfz';rw[AD _ _ j (fun q hq e=>hjm (e▸BV hq))];exact e2
     have hB:=s1.blk j _ hj;refine ⟨?_,fun _ j' hj'=>dF⟩;obtain ⟨b0,b1⟩:=hB;refine ⟨b0,?_⟩;rw[pl e1];exact b1
    exact e3.elim
   | box cells =>
    simp only[Dv] at e3;split at e3
    ·rename_i cs;have hjn:∀ q,q∈frz H (Bs fl H2)->q.1≠j:=by
      intro q hq e;exact oq
     have hj:Am (hp H) (frz H (Bs fl H2)) j=some (.box cs):=fL;obtain ⟨g,S,c,E,fr,b1,b2,b3,b4,b5,b6,b7⟩:=s1.blk j _ hj;have hg:=Dt e3;refine ⟨⟨g,S,c,E,fr,(pl e1).trans b1,b2,b3,b4,lA,fun i y v hy hv=>?_,b7⟩,fun _ j' hj'=>dF⟩;have hi:i<cs.length:=fU
     have hx:=AbZ hi;exact ZC (b6 i _ v hx hv) (hg.2 i _ y hx hy)
    exact e3.elim
   | amap l =>
    simp only[Dv] at e3;split at e3
    ·rename_i l';obtain ⟨ek,ev⟩:=e3;have hjn:∀ q,q∈frz H (Bs fl H2)->q.1≠j:=by
      intro q hq e;exact oq
     have hj:Am (hp H) (frz H (Bs fl H2)) j=some (.amap l'):=fL;obtain ⟨g,S,es,clock,b1,b2,b3,b4⟩:=s1.blk j _ hj;have hg:=Dt ev;have hll:l'.length=l.length:=(by have:=congrArg List.length ek;simpa using this)
     refine ⟨⟨g,S,es,clock,(pl e1).trans b1,b2,⟨b3.1.trans hll,fun i e p a b=>?_⟩,b4⟩,fun _ j' hj'=>dF⟩;have hi:i<l'.length:=(by have:=(AbY.1 b).1;omega)
     have hx:=AbZ hi;obtain ⟨d1,d2⟩:=b3.2 i e _ a hx;have ke:(l'.map (·.1))[i]?=(l.map (·.1))[i]?:=(by rw[ek])
     simp only[Aeg,hx,b,Option.map_some,Option.some.injEq] at ke;exact ⟨by rw[<-ke];exact d1,ZC d2 (hg.2 i _ p.2 kI (by simp[b]))⟩
    ·subst e3;have hjn:∀ q,q∈frz H (Bs fl H2)->q.1≠j:=by
      intro q hq e;exact oq
     have hj:Am (hp H) (frz H (Bs fl H2)) j=some (.map []):=fL;obtain ⟨g,S,es,clock,b1,b2,b3,b4⟩:=s1.blk j _ hj;refine ⟨⟨g,S,es,clock,(pl e1).trans b1,b2,⟨b3.1,fun i e p a b=>by simp at b⟩,b4⟩,fun _ j' hj'=>dF⟩
    exact e3.elim
   | bld T used n k =>
    have hjn:∀ q,q∈frz H (Bs fl H2)->q.1≠j:=ak;cases k with
    | none =>
     simp only[Dv] at e3;subst e3;have hj:Am (hp H) (frz H (Bs fl H2)) j=some (.bld T used n none):=fL
     obtain ⟨g,S,v,b1,b2,b3,b4⟩:=s1.blk j _ hj;exact ⟨⟨g,S,v,(pl e1).trans b1,b2,b3,b4⟩,fun _ j' hj'=>dF⟩
    | some k =>
     simp only[Dv] at e3;split at e3
     ·rename_i jj hjj;subst e3;have hj:Am (hp H) (frz H (Bs fl H2)) j=some (.bld T used n (some jj)):=fL
      obtain ⟨g,S,v,b1,b2,b3,b4⟩:=s1.blk j _ hj;rcases b3 with b3 | ⟨g2,cap,x1,x2,x3⟩
      ·exact lV
      exact ⟨⟨g,S,v,(pl e1).trans b1,b2,.inr ⟨g2,cap,x1,(pl hjj).trans x2,x3⟩,b4⟩,fun _ j' hj'=>dF⟩
     ·obtain ⟨rfl,rfl⟩:=e3;have hj:Am (hp H) (frz H (Bs fl H2)) j=some (.bld T used 0 none):=fL
      obtain ⟨g,S,v,b1,b2,b3,b4⟩:=s1.blk j _ hj;exact lV
     exact e3.elim
   | buf e l =>
    simp only[Dv] at e3;subst e3;have hjn:∀ q,q∈frz H (Bs fl H2)->q.1≠j:=ak
    have hj:Am (hp H) (frz H (Bs fl H2)) j=some (.buf e l):=fL;refine ⟨?_,fun _ j' hj'=>dF⟩;rcases s1.blk j _ hj with ⟨b1,b2⟩ | ⟨g,S,c,b1,b2⟩
    ·exact .inl ⟨(pl e1).trans b1,b2⟩
    exact .inr ⟨g,S,c,(pl e1).trans b1,b2⟩
   | map l =>
    simp only[Dv] at e3;subst e3;have hjn:∀ q,q∈frz H (Bs fl H2)->q.1≠j:=ak
    have hj:Am (hp H) (frz H (Bs fl H2)) j=some (.map l):=fL;obtain ⟨g,S,es,clock,b1,b2⟩:=s1.blk j _ hj;exact ⟨⟨g,S,es,clock,(pl e1).trans b1,b2⟩,fun _ j' hj'=>dF⟩
   | iter st pos =>
    simp only[Dv] at e3;subst e3;have hjn:∀ q,q∈frz H (Bs fl H2)->q.1≠j:=ak
    have hj:Am (hp H) (frz H (Bs fl H2)) j=some (.iter st pos):=fL;obtain ⟨g,S,b1,b2⟩:=s1.blk j _ hj;exact ⟨⟨g,S,(pl e1).trans b1,b2⟩,fun _ j' hj'=>dF⟩
   | ext J td =>
    simp only[Dv] at e3;obtain ⟨e3,hf0⟩:=e3;subst e3;have hjn:∀ q,q∈frz H (Bs fl H2)->q.1≠j:=ak
    have hj:Am (hp H) (frz H (Bs fl H2)) j=some (.ext J td):=fL;obtain ⟨b1,b2,b3⟩:=s1.blk j _ hj;subst b1;refine ⟨⟨uniq e1 hf0,b2,b2 _ _ _ _ _ _ _ b3 ⟨rfl,rfl,rfl,Aex _,fun _ _ _=>rfl,Held.le_refl _,fun _ _ _ _=>rfl,fun i g S e=>?_⟩ s1.prom⟩,fun _ j' hj'=>dF⟩;obtain ⟨j',_,hρ⟩:=pl' e;exact .inl ⟨j',S,hρ⟩
  ·refine ⟨⟨lC,.inl ⟨by simp[plN,e1],rfl⟩⟩,fun _ j hj=>by rw[e1] at hj;cases hj⟩
  refine ⟨.inl ⟨by simp[plN,e1],rfl⟩,fun _ j hj=>by rw[e1] at hj;cases hj⟩
 refine ⟨h1,t1,s1,⟨s1.prom,s1.glob,fun k b2 hb2=>(hblk k b2 hb2).1,?_,?_⟩,?_⟩
 ·intro k g S e;obtain ⟨j,hj,hρ⟩:=pl' e;refine ⟨(s1.dom j g S hρ).1,?_⟩;have:k<H2.length:=by rw[<-g1];exact (AbY.1 hj).1
  exact ⟨_,AbZ this⟩
 ·intro i k g S S' e1 e2 l1 l2;obtain ⟨j,hj,hρ⟩:=pl' e1;obtain ⟨j',hj',hρ'⟩:=pl' e2;obtain ⟨b,hb,hbn⟩:=l1;obtain ⟨b',hb',hbn'⟩:=l2;have:=s1.inj j j' g S S' hρ hρ' ((hblk i b hb).2 hbn j hj) ((hblk k b' hb').2 hbn' j' hj');subst this;exact uniq hj hj'
 have hg:=Dt f3;have q2':=q2.mono t1.mono (Place.le_refl _);refine ⟨by have:=q2'.1;omega,fun t v y hv hy=>?_⟩;have ht:t<s.length:=fU
 have hx:=AbZ ht;exact ZC (q2'.2 t v _ hv hx) (hg.2 t _ y hx hy)
def Fz {fl:List (Option Nat)} {ρ:Place} {k:Nat} {x:Nat × Nat} (e:plN fl ρ k=some x):∃ j,fl[k]?=some (some j)/\ρ j=some x:=by
 simp only[plN] at e;split at e;·rename_i j hj;exact ⟨j,hj,e⟩
 cases e
def Na {p:Nat} {s s2:List AV} {H H2:List Ae} (hw:DA p s H s2 H2) {y:Bool} {r:Option Nat} {G:Ah} {h0:Held} {ρ0:Place} {w0:World} (hp0:y=false->∀ i x,ρ0 i=some x->i<p)
  {a:Act} {w:World} (ha:At y r G h0 ρ0 w0 s (hp H) a w):At y r G h0 ρ0 w0 s2 (hp H2) a w:=by
 obtain ⟨fl,f1,f2,f3,f4⟩:=hw;obtain ⟨h,ρ,q1,q2,q4⟩:=ha;obtain ⟨h1,t1,s1,s2',r2⟩:=II f2 f3 f4 q1 q2;have q5:=q4.go t1.y;refine ⟨h1,plN fl ρ,s2',r2,q5.pl ?_ ?_⟩
 ·intro hy i x e;have hi:=hp0 hy i x e;have hfi:fl[i]?=some (some i):=by
   have h1:(fl.take p)[i]?=some (some i):=(by rw[f1,Aeg,Agy hi];rfl);rw[Agz,if_pos hi] at h1;exact h1
  have:plN fl ρ i=ρ i:=by simp[plN,hfi]
  rw[this];exact (q5.step hy).rmono i x e
 intro k x e;obtain ⟨j,hj,hρ⟩:=Fz e;exact ⟨j,hρ⟩
end Go.Abs
namespace Go.Abs
open Go
abbrev Az:=Exit->List AV->List Ae->Prop
def LD (K:List AV->List Ae->Prop) (Q:Az):Az
 | .normal,s,H=>K s H
 | e,s,H=>Q e s H
def CN (id:Nat) (Q:Az):Az
 | .exit i,s,H=>if i=id then Q .normal s H else Q (.exit i) s H
 | e,s,H=>Q e s H
def AbE (Q:Az):Az
 | .goto _,_,_=>False
 | e,s,H=>Q e s H
def Ce:List AV->List AV->Prop
 | [],[]=>True
 | x::r,y::r2=>(y=.undef\/x=y)/\Ce r r2
 | _,_=>False
def AbL (s:List AV) (H:List Ae) (s1:List AV) (H1:List Ae):Prop :=
 ∃ i v d,s[i]?=some v/\sealA H v=some d/\wOK H.length (frz H (AY v))=true/\s1=s.set i (.d (unf d))/\H1=applyW H (frz H (AY v))
def AdB (bx:Bool) (b:Nat) (H H1:List Ae):Prop :=
 ∃ cs ds,H[b]?=some (.box cs)/\sealL H cs=some ds/\cs.all AV.one=true/\b∉idsL cs/\wOK H.length (frz H (idsL cs)++[(b,if bx then .box (ds.map .d) else .row false ds)])=true /\
  H1=applyW H (frz H (idsL cs)++[(b,if bx then .box (ds.map .d) else .row false ds)])
def Jl (u:Bool) (ds:List D):List D:=if u then ds.map unf0 else ds
def Fd (u:Bool) (ds:List D):(Jl u ds).length=ds.length:=by cases u<;>simp[Jl]
def Vd (b:Nat) (H H1:List Ae):Prop :=
 ∃ pre cs post ds u,H[b]?=some (.box (pre++(cs++post)))/\sealL H cs=some ds/\b∉idsL cs/\wOK H.length (frz H (idsL cs)++[(b,.box (pre++((Jl u ds).map .d++post)))])=true /\
  H1=applyW H (frz H (idsL cs)++[(b,.box (pre++((Jl u ds).map .d++post)))])
def AdA (s:List AV) (H:List Ae) (s1:List AV) (H1:List Ae):Prop:=AbL s H s1 H1\/(s1=s/\∃ b,Vd b H H1)
def Adz (b:Bool) (p:Nat) (s:List AV) (H:List Ae) (s2:List AV) (H2:List Ae):Prop :=
 match b with
 | false=>DA p s H s2 H2
 | true=>(H2=H/\Ce s s2)\/∃ s1,AdA s H s1 H2/\Ce s1 s2
def Vh (b:Bool) (p n:Nat) (I:Nat->List AV->List Ae->Prop) (s':List AV) (H':List Ae):Prop:=∃ m s2 H2,m<n/\Adz b p s' H' s2 H2/\I m s2 H2
inductive ES (p:Nat):List AV->List Ae->List AV->List Ae->Prop
 | weak {s s2:List AV} {H H2:List Ae} (h:DA p s H s2 H2):ES p s H s2 H2
 | shut {s:List AV} {H H1:List Ae} {bx:Bool} {b:Nat} (h:AdB bx b H H1):ES p s H s H1
 | mid {s:List AV} {H H1:List Ae} {b:Nat} (h:Vd b H H1):ES p s H s H1
 | slots {s s2:List AV} {H:List Ae} (h:Ce s s2):ES p s H s2 H
 | slot {s s1:List AV} {H H1:List Ae} (h:AbL s H s1 H1):ES p s H s1 H1
 | trans {s s1 s2:List AV} {H H1 H2:List Ae} (h:ES p s H s1 H1) (h2:ES p s1 H1 s2 H2):ES p s H s2 H2
def AdC (p:Nat) (B:Az->List AV->List Ae->Prop) (Q:Az) (s:List AV) (H:List Ae):Prop :=
 ∃ (b:Bool) (Q':Az) (I:Nat->List AV->List Ae->Prop),(∀ e s H,Q' e s H->Q e s H\/∃ s2 H2,ES p s H s2 H2/\Q e s2 H2)/\(∃ n s2 H2,ES p s H s2 H2/\I n s2 H2)/\∀ n s H,I n s H->B (LD (Vh b p n I) Q') s H
def CtrY (P:Program) (G:Ah) (f:FuncId) (args:List AV) (H H':List Ae):Prop :=
 An P f=true/\∀ (h:Held) (ρ:Place) (w:World) (vs:Array Value),Sim G h ρ (hp H) w->RL h ρ vs args ->
  Calls P f vs w (fun e w'=>∃ v h' ρ',e=.returned v/\Sim G h' ρ' (hp H') w')
def Tdo:List D->List (D × Bool)->Prop
 | [],[]=>True
 | x::r,(z,true)::t=>z=x/\Tdo r t
 | x::_,(z,false)::t=>z=x/\t=[]
 | _,_=>False
def okT:List (D × Bool)->Prop
 | []=>True
 | (_,true)::t=>okT t
 | (_,false)::t=>t=[]
def Tdo.ok:∀ {xs:List D} {t:List (D × Bool)},Tdo xs t->okT t
 | [],[],_=>trivial
 | [],_::_,h=>by simp[Tdo] at h
 | _::_,[],h=>by simp[Tdo] at h
 | _::r,(_,true)::t,h=>Tdo.ok (xs:=r) (t:=t) h.2
 | _::_,(_,false)::_,h=>h.2
def OV (P:Program) (G:Ah) (g:FuncId) (caps:List AV) (HI:List Ae) (xs:List D):Prop :=
 ∀ (l:Nat) (J:List (D × Bool)->Held->Place->World->Prop) (todo:List (D × Bool)),KR P l J->Tdo xs todo->CtrY P G g (.fn (.yield l) [] []::caps) (.ext J todo::HI) [.ext J []]
def Ut:AV->Option (FuncId × List AV)
 | .fn (.func g) [] caps=>some (g,caps)
 | .d (.fn (.func g) [] caps)=>some (g,caps.map .d)
 | _=>none
def DG:List Ae->Bool
 | .ext _ _::_=>false
 | _=>true
def Vf (s2:List AV) (K:List Ae->Prop) (H:List Ae):Prop :=
 ∃ (fl:List (Option Nat)) (H2:List Ae),(fl.filterMap id).Nodup/\Cx fl s2 s2/\Bc fl H fl H2/\K H2
def AbP (b:Bool) (s2:List AV) (It:List Ae->Prop) (Ix:Code->List Ae->Prop):Az
 | .normal,_,H=>b=true/\Vf s2 It H
 | .ret,_,H=>b=false/\Vf s2 (Ix .ret) H
 | .exit i,_,H=>b=false/\Vf s2 (Ix (.exit i)) H
 | _,_,_=>False
def JmpQ (Q:Az):Code->List AV->List Ae->Prop
 | .ret,s,H=>Q .ret s H
 | .exit i,s,H=>Q (.exit i) s H
 | _,_,_=>False
def AbV (H2:List Ae) (B:List AV->List Ae->Prop):Az
 | .normal,s,H=>H=H2/\B s H
 | _,_,_=>False
def deads (n:Nat):List Ae:=Aet n .dead
def swF (a b:Nat) (i:Nat):Nat:=if i=b then a else i
def HZ (a b:Nat) (H:List Ae):List Ae:=((H.set a ((H[b]?).getD .dead)).set b .dead).map (renB (swF a b))
def YB:List (Nat × Nat)->List Ae->List Ae
 | [],H=>H
 | (a,b)::r,H=>YB r (HZ a b H)
def YA:List (Nat × Nat)->List AV->List AV
 | [],s=>s
 | (a,b)::r,s=>YA r (renL (swF a b) s)
def Pin (s:List AV) (k:Nat):Prop:=∃ t off:Nat,s[t]?=some (AV.ptr k off)
def Adi (n:Nat) (fl:List (Option Nat)) (s2:List AV) (pins:List (Nat × Nat)):Prop :=
 (pins.map (·.1)).Nodup/\∀ q,q∈pins->∃ k,q.2=n+k/\q.1<n/\fl[k]?=some (some q.1)/\Pin s2 k
def WP (P:Program) (G:Ah) (A B:Nat->Az->List AV->List Ae->Prop) (g:AV) (ps:Array Tmp) (Q:Az) (s:List AV) (H:List Ae):Prop :=
 ∃ gf caps caps' HI xs todo pt,Ut g=some (gf,caps)/\ps=#[pt]/\passL H (passIds false H caps) caps=some caps'/\passBs H (passIds false H caps) (passIds false H caps)=some HI /\
  sidsL H (passIds false H caps) caps=[]/\sidsBs H (passIds false H caps) (passIds false H caps)=[]/\OV P G gf (renL (·+1) caps') (HI.map (renB (·+1))) xs/\Tdo xs todo /\
 ∃ (fl:List (Option Nat)) (s2:List AV) (H20:List Ae) (I:List (D × Bool)->List Ae->Prop) (Ix:Code->List Ae->Prop) (pins:List (Nat × Nat)),
  Adi H.length fl s2 pins/\(fl.filterMap id).Nodup/\(∀ j,j∈fl.filterMap id->j∉passIds false H caps/\BC (hp H) j)/\Cx fl s s2/\Bc fl H fl H20/\I todo H20 /\
  (∀ t H2,I t H2->H2.length=fl.length/\DG H2=true)/\(∀ c H2,Ix c H2->DG H2=true) /\
  (∀ x b t H2,I ((x,b)::t) H2->A fl.length (AbV H2 (B fl.length (AbP b s2 (I t) Ix))) (s2.set pt (.d x)) H2) /\
  (∀ H2,I [] H2->Q .normal (YA pins (renL (H.length+·) s2)) (YB pins (deads H.length++H2.map (renB (H.length+·))))) /\
  (∀ c H2,Ix c H2->JmpQ Q c (YA pins (renL (H.length+·) s2)) (YB pins (deads H.length++H2.map (renB (H.length+·)))))
def E5 (P:Program) (G:Ah) (M:B8):Nat->Code->Az->List AV->List Ae->Prop
 | _,.skip,Q,s,H=>Q .normal s H
 | _,.region _ ops draw,Q,s,H=>Sf P G M ops draw s H (fun s H=>Q .normal s H)
 | p,.seq a b,Q,s,H=>E5 P G M p a (LD (E5 P G M p b Q) Q) s H
 | p,.cond c a b,Q,s,H=>match evalA G s c with
   | .d (.bool t)=>(t=true->E5 P G M p a Q s H)/\(t=false->E5 P G M p b Q s H)
   | _=>False
 | p,.block id c,Q,s,H=>E5 P G M p c (CN id Q) s H
 | p,.loop c,Q,s,H=>AdC p (E5 P G M p c) Q s H
 | _,.exit id,Q,s,H=>Q (.exit id) s H
 | p,.scope c,Q,s,H=>E5 P G M p c (AbE Q) s H
 | _,.label _,Q,s,H=>Q .normal s H
 | _,.ret,Q,s,H=>Q .ret s H
 | _,.rangeFunc g ps a b,Q,s,H=>M 3000000=false/\WP P G (fun n Q s H=>E5 P G M n a Q s H) (fun n Q s H=>E5 P G M n b Q s H) (evalA G s g) ps Q s H
 | _,.goto _,_,_,_=>False
 | _,.refuse _,_,_,_=>False
def Jd {F:Fence} {n:Nat} {P:Program} {Q:Exit->Act->World->Prop} {a:Act} {w:World} {c:Code} (h:c.wpIn F n P (Exit.noGoto Q) a w):(Code.scope c).wpIn F n P Q a w:=by
 intro b k cs hro hb hr;have s1:step P (lone (b.atR a (.code (.scope c)::k)) cs w)=.next (lone (b.atR a (.code c::.inScope c::k)) cs w):=step_lone_go dG;have s2:∀ a w,step P (lone (b.atR a (.inScope c::k)) cs w)=.next (lone (b.atR a k) cs w):=fun a w=>step_lone_go dG;have h0:(lone (b.atR a (.code (.scope c)::k)) cs w).fenced P F:=fenced_calm hb hr rfl;obtain ⟨e,a₁,w₁,hq,harr⟩:=h b (.inScope c::k) cs hro hb hr;cases e with
 | normal=>exact ⟨.normal,a₁,w₁,hq,.head h0 s1 (StepsIn.trans harr (.one (fenced_calm hb hr rfl) (s2 _ _)))⟩
 | exit id =>
  have hx:exitTo id (.inScope c::k)=exitTo id k:=by simp[exitTo]
  exact ⟨.exit id,a₁,w₁,hq,fun k' hk=>.head h0 s1 (harr.1 k' (by rw[hx];exact hk)),fun hr' hk=>let ⟨k₁,q1,q2⟩:=harr.2 hr' (by rw[hx];exact hk);⟨k₁,q1,.head h0 s1 q2⟩⟩
 | goto l=>exact hq.elim
 | ret=>exact ⟨_,a₁,w₁,hq,.of_steps (.one h0 s1) harr⟩
 | panic ch=>exact ⟨_,a₁,w₁,hq,.of_steps (.one h0 s1) harr⟩
 | outgrown=>exact ⟨_,a₁,w₁,hq,.of_steps (.one h0 s1) harr⟩
def Tri (y:Bool) (r:Option Nat) (P:Program) (G:Ah) (p:Nat) (c:Code) (Q:Az) (s:List AV) (H:List Ae):Prop :=
 ∀ (h0:Held) (ρ0:Place) (w0:World),(y=false->∀ i x,ρ0 i=some x->i<p)->∀ (a:Act) (w:World),At y r G h0 ρ0 w0 s (hp H) a w ->
  c.wpIn (fR r) 0 P (fun e a w=>∃ s H,Q e s H/\At y r G h0 ρ0 w0 s (hp H) a w) a w
section
variable {y:Bool} {r:Option Nat} {P:Program} {G:Ah} {M:B8} {p:Nat}
def Tri.mono {c:Code} {Q Q':Az} {s:List AV} {H:List Ae} (h:Tri y r P G p c Q s H) (hq:∀ e s H,Q e s H->Q' e s H):Tri y r P G p c Q' s H :=
 fun h0 ρ0 w0 h1 a w ha=>wpIn_mono (h h0 ρ0 w0 h1 a w ha) fun e a w ⟨s,H,q,r⟩=>⟨s,H,hq e s H q,r⟩
def Ve:∀ {s s2:List AV},Ce s s2->s.length=s2.length/\∀ (i:Nat) (x y:AV),s[i]?=some x->s2[i]?=some y->y=.undef\/x=y
 | [],[],_=>lC
 | x::r,y::r2,h=>by
   obtain ⟨h1,h2⟩:=h;have ih:=Ve h2;refine ⟨jX,fun i u v hu hv=>?_⟩;cases i with
   | zero=>simp at hu hv;subst hu;subst hv;exact h1
   | succ i=>simp at hu hv;exact ih.2 i u v hu hv
 | [],_::_,h=>by simp[Ce] at h
 | _::_,[],h=>by simp[Ce] at h
def Nb {s s2:List AV} {H:A9} (hw:Ce s s2) {h0:Held} {ρ0:Place} {w0:World} {a:Act} {w:World} (ha:At y r G h0 ρ0 w0 s H a w):At y r G h0 ρ0 w0 s2 H a w:=by
 obtain ⟨h,ρ,q1,q2,q4⟩:=ha;have hg:=Ve hw;refine ⟨h,ρ,q1,⟨by have:=q2.1;have:=hg.1;omega,fun t v z hv hz=>?_⟩,q4⟩;have ht:t<s.length:=by have:=(AbY.1 hz).1;have:=hg.1;omega
 have hx:=AbZ ht;rcases hg.2 t _ z hx hz with rfl | e
 ·exact .undef _
 rw[<-e];exact q2.2 t v _ hv hx
def Vb {s s1:List AV} {H H1:List Ae} (hw:AbL s H s1 H1) {h0:Held} {ρ0:Place} {w0:World} {a:Act} {w:World} (ha:At y r G h0 ρ0 w0 s (hp H) a w):At y r G h0 ρ0 w0 s1 (hp H1) a w:=by
 obtain ⟨i,v,d,hv,hd,kw,rfl,rfl⟩:=hw;obtain ⟨h,ρ,hs,q2,q4⟩:=ha;obtain ⟨h',s1,t1,f1⟩:=B0 H (AY v) h (hp H) hs (fun y hy=>.inl rfl);refine ⟨h',ρ,by rw[EA _ _ kw];exact s1,⟨by rw[List.length_set];exact q2.1,fun t u x hu hx=>?_⟩,q4.go t1.y⟩;rw[Af1] at hx;split at hx
 ·rename_i e;subst e;split at hx;·cases hx;exact .d _ _ (Ci ((q2.2 i u v hu hv).mono t1.mono (Place.le_refl _)) hd f1).unf
  cases hx
 exact (q2.2 t u x hu hx).mono t1.mono (Place.le_refl _)
def AbM {s:List AV} {H H1:List Ae} {bx:Bool} {b:Nat} (hw:AdB bx b H H1) {h0:Held} {ρ0:Place} {w0:World} {a:Act} {w:World} (ha:At y r G h0 ρ0 w0 s (hp H) a w):At y r G h0 ρ0 w0 s (hp H1) a w:=by
 obtain ⟨cs,ds,hb,hds,k1,k2,k4,rfl⟩:=hw;obtain ⟨h,ρ,hs,q2,q4⟩:=ha;obtain ⟨h',s1,t1,f1⟩:=B0 H (idsL cs) h (hp H) hs (fun y hy=>.inl rfl);have hbb:Am (hp H) (frz H (idsL cs)) b=some (.box cs):=bJ
 obtain ⟨g,S,c,E,fr,b1,b2,b3,b4,b5,b6,b7⟩:=s1.blk b _ hbb;have hrl:RL h' ρ (c.extract 0 cs.length) cs:=⟨jW,fun j v y hv hy=>b6 j y v hy (by
  rw[AfI] at hv;split at hv;·simpa using hv
  cases hv)⟩
 have hds':=Nw hrl hds f1;have hlen:ds.length=cs.length:=dU
 have cell:∀ (j:Nat) y v,ds[j]?=some y->c[j]?=some v->RD h' v y:=fun j y v hy hv=>by have hj:=(AbY.1 hy).1;refine hds'.2 j v y ?_ hy;rw[AfI,if_pos lA];simpa using hv
 have fin:GO h' ρ w b (if bx then .box (ds.map .d) else .row false ds):=by
  cases bx;·exact ⟨Px hds k1,.inr ⟨g,S,c,E,fr,b1,b2,b3,b4,lA,cell,(fun e=>lh),fun j _=>b7 j⟩⟩
  refine ⟨g,S,c,E,fr,b1,b2,b3,b4,by rw[List.length_map];omega,fun j y v hy hv=>?_,b7⟩;rw[Aeg] at hy;cases hj:ds[j]? with
  | none=>rw[hj] at hy;cases hy
  | some d =>rw[hj] at hy;cases hy;exact .d _ _ (cell j d v hj hv)
 have s2:=s1.reblk b ⟨_,hbb,lC⟩ _ fin;exact oK
def Vc {s:List AV} {H H1:List Ae} {b:Nat} (hw:Vd b H H1) {h0:Held} {ρ0:Place} {w0:World} {a:Act} {w:World} (ha:At y r G h0 ρ0 w0 s (hp H) a w):At y r G h0 ρ0 w0 s (hp H1) a w:=by
 obtain ⟨pre,cs,post,ds,u,hb,hds,k2,k4,rfl⟩:=hw;obtain ⟨h,ρ,hs,q2,q4⟩:=ha;obtain ⟨h',s1,t1,f1⟩:=B0 H (idsL cs) h (hp H) hs (fun y hy=>.inl rfl);have hbb:Am (hp H) (frz H (idsL cs)) b=some (.box (pre++(cs++post))):=bJ
 obtain ⟨g,S,c,E,fr,b1,b2,b3,b4,b5,b6,b7⟩:=s1.blk b _ hbb;simp only[List.length_append] at b5;have hcs:∀ (j:Nat) y,cs[j]?=some y->(pre++(cs++post))[pre.length+j]?=some y:=fun j y hy=>by have hj:=(AbY.1 hy).1;rw[Aeq lA,Agv,Aen hj];exact hy
 have hrl:RL h' ρ (c.extract pre.length (pre.length+cs.length)) cs:=⟨jW,fun j v y hv hy=>b6 (pre.length+j) y v (hcs j y hy) (by
  rw[AfI] at hv;split at hv;·exact hv
  cases hv)⟩
 have hds':=Nw hrl hds f1;have hlen:ds.length=cs.length:=dU
 have fin:GO h' ρ w b (.box (pre++((Jl u ds).map .d++post))):=by
  refine ⟨g,S,c,E,fr,b1,b2,b3,b4,by simp only[List.length_append,List.length_map,Fd];omega,fun j y v hy hv=>?_,b7⟩;rcases AgC j pre.length with h1 | h1
  ·rw[Aen h1] at hy;exact b6 j y v (by rw[Aen h1];exact hy) hv
  rw[Aeq h1] at hy;rcases AgC (j-pre.length) cs.length with h2 | h2
  ·rw[Aen eP,Aeg] at hy;have hd:∀ d,ds[j-pre.length]?=some d->RD h' v d:=fun d hj=>hds'.2 (j-pre.length) v d (by
    rw[AfI,if_pos lA,show pre.length+(j-pre.length)=j by omega];exact hv) hj
   cases u with
   | false =>
    simp only[Jl,AgK,if_false] at hy;cases hj:ds[j-pre.length]? with
    | none=>rw[hj] at hy;cases hy
    | some d=>rw[hj] at hy;cases hy;exact .d _ _ (hd d hj)
   | true =>
    simp only[Jl,if_true,Aeg] at hy;cases hj:ds[j-pre.length]? with
    | none=>rw[hj] at hy;cases hy
    | some d=>rw[hj] at hy;cases hy;exact .d _ _ (hd d hj).unf0
  rw[Aeq eP,List.length_map,Fd,hlen] at hy;refine b6 j y v ?_ hv;rw[Aeq h1,Aeq h2];exact hy
 have s2:=s1.reblk b ⟨_,hbb,lC⟩ _ fin;exact oK
def AbK {b:Bool} {s s2:List AV} {H H2:List Ae} (hw:Adz b p s H s2 H2) {h0:Held} {ρ0:Place} {w0:World} (hp0:y=false->∀ i x,ρ0 i=some x->i<p)
  {a:Act} {w:World} (ha:At y r G h0 ρ0 w0 s (hp H) a w):At y r G h0 ρ0 w0 s2 (hp H2) a w:=by
 cases b with
 | false=>exact Na hw hp0 ha
 | true =>
  rcases hw with ⟨rfl,h⟩ | ⟨s1,h1,h2⟩
  ·exact Nb h ha
  rcases h1 with h1 | ⟨rfl,b,h1⟩
  ·exact Nb h2 (Vb h1 ha)
  exact Nb h2 (Vc h1 ha)
def U9 {s s2:List AV} {H H2:List Ae} (hw:ES p s H s2 H2) {h0:Held} {ρ0:Place} {w0:World} (hp0:y=false->∀ i x,ρ0 i=some x->i<p)
  {a:Act} {w:World} (ha:At y r G h0 ρ0 w0 s (hp H) a w):At y r G h0 ρ0 w0 s2 (hp H2) a w:=by
 induction hw with
 | weak h=>exact Na h hp0 ha
 | shut h=>exact AbM h ha
 | mid h=>exact Vc h ha
 | slots h=>exact Nb h ha
 | slot h=>exact Vb h ha
 | trans _ _ ih1 ih2=>exact ih2 (ih1 ha)
def Tri.relax {c:Code} {Q Q':Az} {s:List AV} {H:List Ae} (hq:∀ e s H,Q' e s H->Q e s H\/∃ s2 H2,ES p s H s2 H2/\Q e s2 H2) (h:Tri y r P G p c Q' s H):Tri y r P G p c Q s H :=
 fun h0 ρ0 w0 h1 a w ha=>wpIn_mono (h h0 ρ0 w0 h1 a w ha) fun e a w ⟨s,H,q,r⟩=>by
  rcases hq e s H q with q | ⟨s2,H2,hw,q⟩
  ·exact ⟨s,H,q,r⟩
  exact ⟨s2,H2,q,U9 hw h1 r⟩
def Tri.seq {x z:Code} {Q:Az} {s:List AV} {H:List Ae} (h:Tri y r P G p x (LD (Tri y r P G p z Q) Q) s H):Tri y r P G p (.seq x z) Q s H:=by
 intro h0 ρ0 w0 h1 a w ha;refine wpIn_seq (wpIn_mono (h h0 ρ0 w0 h1 a w ha) ?_);rintro e a w ⟨s,H,q,r⟩;cases e with
 | normal=>exact q h0 ρ0 w0 h1 a w r
 | _=>exact ⟨s,H,q,r⟩
def Tri.region {id:Nat} {ops:Array Oper} {draw:Bool} {Q:Az} {s:List AV} {H:List Ae} (hm:P.follows .mixedOrders=true) (h:Sf P G M ops draw s H (fun s H=>Q .normal s H)):Tri (M 3000000) r P G p (.region id ops draw) Q s H :=
 fun _ _ _ _ _ _ ha=>Yu h hm ha fun s' H' hK _ _ r=>⟨s',H',hK,r⟩
def Tri.cond {c:Operand} {x z:Code} {Q:Az} {s:List AV} {H:List Ae} {t:Bool} (hc:evalA G s c=.d (.bool t)) (h1:t=true->Tri y r P G p x Q s H) (h2:t=false->Tri y r P G p z Q s H):Tri y r P G p (.cond c x z) Q s H:=by intro h0 ρ0 w0 hp0 a w ha;obtain ⟨h,ρ,q1,q2,q4⟩:=ha;have hv:=(hc▸Iq q1 q2 c).bool_inv;refine wpIn_cond_split hv (fun ht=>h1 ht h0 ρ0 w0 hp0 a w ⟨h,ρ,q1,q2,q4⟩) (fun ht=>h2 ht h0 ρ0 w0 hp0 a w ⟨h,ρ,q1,q2,q4⟩)
def Tri.block {id:Nat} {c:Code} {Q:Az} {s:List AV} {H:List Ae} (h:Tri y r P G p c (CN id Q) s H):Tri y r P G p (.block id c) Q s H:=by
 intro h0 ρ0 w0 h1 a w ha;refine wpIn_block (wpIn_mono (h h0 ρ0 w0 h1 a w ha) ?_);rintro e a w ⟨s,H,q,r⟩;cases e with
 | exit i =>
  simp only[CN] at q;simp only[Exit.inBlock];split;·rename_i hi;rw[if_pos hi] at q;exact ⟨s,H,q,r⟩
  rename_i hi;rw[if_neg hi] at q;exact ⟨s,H,q,r⟩
 | _=>exact ⟨s,H,q,r⟩
def Tri.scope {c:Code} {Q:Az} {s:List AV} {H:List Ae} (h:Tri y r P G p c (AbE Q) s H):Tri y r P G p (.scope c) Q s H:=by
 intro h0 ρ0 w0 h1 a w ha;refine Jd (wpIn_mono (h h0 ρ0 w0 h1 a w ha) ?_);rintro e a w ⟨s,H,q,r⟩;cases e with
 | goto l=>exact q.elim
 | _=>exact ⟨s,H,q,r⟩
def Tri.exit {id:Nat} {Q:Az} {s:List AV} {H:List Ae} (h:Q (.exit id) s H):Tri y r P G p (.exit id) Q s H :=
 fun _ _ _ _ _ _ ha=>wpIn_exit ⟨s,H,h,ha⟩
def Tri.ret {Q:Az} {s:List AV} {H:List Ae} (h:Q .ret s H):Tri y r P G p .ret Q s H :=
 fun _ _ _ _ _ _ ha=>wpIn_ret ⟨s,H,h,ha⟩
def Tri.skip {Q:Az} {s:List AV} {H:List Ae} (h:Q .normal s H):Tri y r P G p .skip Q s H :=
 fun _ _ _ _ _ _ ha=>wpIn_skip ⟨s,H,h,ha⟩
def Tri.label {l:Nat} {Q:Az} {s:List AV} {H:List Ae} (h:Q .normal s H):Tri y r P G p (.label l) Q s H :=
 fun _ _ _ _ _ _ ha=>wpIn_label ⟨s,H,h,ha⟩
def Tri.loop {x:Bool} {c:Code} {Q:Az} {s:List AV} {H:List Ae} (I:Nat->List AV->List Ae->Prop) (h₀:∃ n s2 H2,ES p s H s2 H2/\I n s2 H2)
  (round:∀ n s H,I n s H->Tri y r P G p c (LD (Vh x p n I) Q) s H):Tri y r P G p (.loop c) Q s H:=by
 intro h0 ρ0 w0 hp0 a w ha b k cs hro hb hr
 have key:∀ n s H a w,I n s H->At y r G h0 ρ0 w0 s (hp H) a w ->
   ∃ e a' w',(∃ s H,Q e s H/\At y r G h0 ρ0 w0 s (hp H) a' w')/\ArrivesIn (Machine.fenced P (fR r)) P (lone (b.atR a (.code c::.inLoop c::k)) cs w) b k cs e a' w':=by
  intro n;induction n using Nat.strongRecOn with
  | _ n ih =>
   intro s H a w hI ha;obtain ⟨e,a₁,w₁,⟨s₁,H₁,hq,ha₁⟩,harr⟩:=round n s H hI h0 ρ0 w0 hp0 a w ha b (.inLoop c::k) cs hro hb hr;cases e with
   | normal =>obtain ⟨m,s2,H2,hlt,hw,hI2⟩:=hq;obtain ⟨e₂,a₂,w₂,hq₂,harr₂⟩:=ih m hlt s2 H2 a₁ w₁ hI2 (AbK hw hp0 ha₁);exact ⟨e₂,a₂,w₂,hq₂,.of_steps (StepsIn.trans harr (.one (fenced_calm hb hr rfl) stepR_inLoop)) harr₂⟩
   | exit id=>exact lQ
   | goto l=>exact lQ
   | ret=>exact lQ
   | panic ch=>exact lQ
   | outgrown=>exact lQ
 obtain ⟨n,s2,H2,hw,hI⟩:=h₀;obtain ⟨e,a',w',hq,harr⟩:=key n s2 H2 a w hI (U9 hw hp0 ha);exact ⟨e,a',w',hq,.of_steps (.one (fenced_calm hb hr rfl) stepR_loop) harr⟩
end
section
variable {P:Program} {G:Ah}
def Sim.shut {h:Held} {ρ:Place} {H:List Ae} {w w2:World} (s:Sim G h ρ (hp H) w) (hx:DG H=true) (hsz:w2.heap.size=w.heap.size) (hc:∀ (k:Nat) c E fr,w.heap[k]?=some (.cells c E fr)->w2.heap[k]?=w.heap[k]?)
  (hk:∀ i g S,ρ i=some (g,S)->w2.heap[g]?=w.heap[g]?):Sim G h ρ (hp H) w2:=by
 refine ⟨fun b o v e=>?_,s.glob,fun i b e=>?_,fun i g S e=>⟨by rw[hsz];exact (s.dom i g S e).1,(s.dom i g S e).2⟩,s.inj⟩
 ·have h1:=s.prom b o v e;have h2:w2.heap[b]?=w.heap[b]?:=by
   unfold World.cell? at h1;simp only at h1;cases hb:w.heap[b]? with
   | none=>simp[hb] at h1
   | some x =>
    cases x with
    | cells c E fr=>rw[hc b c E fr hb,hb]
    | _=>simp[hb] at h1
  rw[<-h1];simp[World.cell?,h2]
 have r:=s.blk i b e;cases b with
 | dead=>trivial
 | row fz cells =>
  obtain ⟨h0,r⟩:=r;refine ⟨h0,?_⟩;rcases r with h1 | ⟨g,S,c,E,fr,h1,h2,h3⟩
  ·exact .inl h1
  exact .inr ⟨g,S,c,E,fr,h1,(hk _ _ _ h1).trans h2,h3⟩
 | box cells =>obtain ⟨g,S,c,E,fr,h1,h2,h3⟩:=r;exact ⟨g,S,c,E,fr,h1,(hk _ _ _ h1).trans h2,h3⟩
 | map l =>obtain ⟨g,S,es,clock,h1,h2,h3⟩:=r;exact pO
 | amap l =>obtain ⟨g,S,es,clock,h1,h2,h3⟩:=r;exact pO
 | iter st pos =>obtain ⟨g,S,h1,h2,h3⟩:=r;exact ⟨g,S,h1,(hk _ _ _ h1).trans h2,h3⟩
 | bld T used n k =>obtain ⟨g,S,c,h1,h2,h3⟩:=r;exact ⟨g,S,c,h1,(hk _ _ _ h1).trans h2,h3⟩
 | buf e l =>
  rcases r with h1 | ⟨g,S,c,h1,h2,h3⟩
  ·exact .inl h1
  exact .inr ⟨g,S,c,h1,(hk _ _ _ h1).trans h2,h3⟩
 | ext J t =>
  obtain ⟨rfl,_⟩:=r;cases H with
  | nil=>simp[hp] at e
  | cons x _=>simp[hp] at e;subst e;simp[DG] at hx
def Gf (w:World) (o:Obj) (k:Nat) (h:k<w.heap.size):(w.alloc o).heap[k]?=w.heap[k]?:=by
 show (w.heap.push o)[k]?=_
 rw[Array.getElem?_push];split;·omega
 rfl
def Sim.allocU {h:Held} {ρ:Place} {H:A9} {w:World} (s:Sim G h ρ H w) (o:Obj):Sim G h ρ H (w.alloc o)/\A6 h ρ w h ρ (w.alloc o):=by
 have st:A6 h ρ w h ρ (w.alloc o):=⟨rfl,rfl,rfl,lC,fun k hk _=>Gf w o k hk,Held.le_refl _,fun _ _ _ _=>rfl,Place.le_refl _,fun i g S e=>.inl ⟨i,S,e⟩⟩;have hpr:∀ b off v,h b off=some v->(w.alloc o).cell? ⟨b,off,none⟩=some v:=au
 refine ⟨⟨hpr,s.glob,fun i b e=>(s.blk i b e).frame st.n hpr (Held.le_refl _) (Place.le_refl _) (fun g S hg=>⟨Gf w o g (s.dom i g S hg).1,fun _=>rfl⟩) id,fun i g S e=>⟨by have:=(s.dom i g S e).1;simp;omega,(s.dom i g S e).2⟩,s.inj⟩,st⟩
def GO.other {h h':Held} {ρ:Place} {w w':World} {i:Nat} {b:Ae} (r:GO h ρ w i b) (hb:∀ J t,b≠.ext J t) (hh:h.le h')
  (hk:∀ g S,ρ i=some (g,S)->w'.heap[g]?=w.heap[g]?/\∀ o,h' g o=h g o):GO h' ρ w' i b:=by
 cases b with
 | dead=>trivial
 | row fz cells =>
  obtain ⟨h0,r⟩:=r;rcases r with ⟨h1,h2⟩ | ⟨g,S,c,E,fr,h1,h2,h3,h4,h5,h6,h7,h8⟩
  ·exact ⟨h0,.inl ⟨h1,h2⟩⟩
  obtain ⟨k1,k2⟩:=hk g S h1;exact ⟨h0,.inr ⟨g,S,c,E,fr,h1,k1.trans h2,h3,h4,h5,fun j x v a b=>(h6 j x v a b).mono hh,fun f j hj=>(k2 j).trans (h7 f j hj),fun j hj=>(k2 j).trans (h8 j hj)⟩⟩
 | box cells =>obtain ⟨g,S,c,E,fr,h1,h2,h3,h4,h5,h6,h7⟩:=r;obtain ⟨k1,k2⟩:=hk g S h1;exact ⟨g,S,c,E,fr,h1,k1.trans h2,h3,h4,h5,fun j x v a b=>(h6 j x v a b).mono hh (Place.le_refl _),fun j=>(k2 j).trans (h7 j)⟩
 | map l =>obtain ⟨g,S,es,clock,h1,h2,h3,h4,h5⟩:=r;obtain ⟨k1,k2⟩:=hk g S h1;exact ⟨g,S,es,clock,h1,k1.trans h2,h3.mono hh,fun j=>(k2 j).trans (h4 j),h5⟩
 | amap l =>obtain ⟨g,S,es,clock,h1,h2,h3,h4,h5⟩:=r;obtain ⟨k1,k2⟩:=hk g S h1;exact ⟨g,S,es,clock,h1,k1.trans h2,h3.mono hh (Place.le_refl _),fun j=>(k2 j).trans (h4 j),h5⟩
 | iter s pos =>obtain ⟨g,S,h1,h2,h4⟩:=r;obtain ⟨k1,k2⟩:=hk g S h1;exact ⟨g,S,h1,k1.trans h2,fun j=>(k2 j).trans (h4 j)⟩
 | bld T used n k =>obtain ⟨g,S,v,h1,h2,h3,h4⟩:=r;obtain ⟨k1,k2⟩:=hk g S h1;exact ⟨g,S,v,h1,k1.trans h2,h3,fun j=>(k2 j).trans (h4 j)⟩
 | buf e l =>
  rcases r with h1 | ⟨g,S,c,h1,h2,h3,h4,h5,h6,h7⟩
  ·exact .inl h1
  obtain ⟨k1,k2⟩:=hk g S h1;exact .inr ⟨g,S,c,h1,k1.trans h2,h3,h4,h5,h6,fun j=>(k2 j).trans (h7 j)⟩
 | ext J t=>exact absurd rfl (hb J t)
def Sim.other {h h':Held} {ρ:Place} {H:A9} {w w':World} (s:Sim G h ρ H w) (hx:∀ i b,H i=some b->∀ J t,b≠.ext J t) (hh:h.le h') (hpr:∀ b o v,h' b o=some v->w'.cell? ⟨b,o,none⟩=some v) (hsz:w.heap.size<=w'.heap.size)
  (hk:∀ i g S,ρ i=some (g,S)->w'.heap[g]?=w.heap[g]?/\∀ o,h' g o=h g o):Sim G h' ρ H w':=by
 refine ⟨hpr,fun k ds e=>?_,fun i b e=>(s.blk i b e).other (hx i b e) hh (hk i),fun i g S e=>⟨eD,(s.dom i g S e).2⟩,s.inj⟩;obtain ⟨vs,h1,h2⟩:=s.glob k ds e;exact ⟨vs,fun j x e=>hh _ _ _ (h1 j x e),fun j x e=>(h2 j x e).mono hh⟩
def Uf {H:List Ae} {h:Held} {ρ:Place} {w:World} (s:Sim G h ρ (hp H) w) (hx:DG H=true):∀ i b,hp H i=some b->∀ J t,b≠.ext J t:=by
 rintro i b e J t rfl;obtain ⟨rfl,_⟩:=s.blk i _ e;cases H with
 | nil=>simp[hp] at e
 | cons x _=>simp[hp] at e;subst e;simp[DG] at hx
def Aao {H:List Ae} {L:List Nat} {HC:List Ae} (hL:L.Nodup) (hpb:passBs H L L=some HC) (hs2:sidsBs H L L=[])
  {h:Held} {ρ:Place} {Hx:A9} {w:World} (s:Sim G h ρ Hx w) (hHx:∀ b,b∈L->Hx b=H[b]?):Sim G h (fun k=>(L[k]?).bind ρ) (hp HC) w:=by
 have hρc:∀ (k b:Nat),L[k]?=some b->(fun k=>(L[k]?).bind ρ) k=ρ b:=fun k b e=>by simp[e]
 have hρc':∀ (k:Nat) (x:Nat × Nat),(L[k]?).bind ρ=some x->∃ b,L[k]?=some b/\ρ b=some x:=by
  intro k x e;cases hk:L[k]? with
  | none=>simp[hk] at e
  | some b=>simp[hk] at e;exact ⟨b,rfl,e⟩
 have hHClen:L.length=HC.length:=(Cz hpb).1;have liveL:∀ (k b:Nat),L[k]?=some b->BC Hx b:=by intro k b hk;obtain ⟨blk,y,q1,q2,q3,_⟩:=(Cz hpb).2 k b hk;refine ⟨blk,by rw[hHx b (Aer hk)];exact q1,?_⟩;rintro rfl;simp[passB] at q3
 refine ⟨s.prom,s.glob,?_,?_,?_⟩
 ·intro k y hy;have hk:k<L.length:=by
   have:=(AbY.1 hy).1;omega
  have hLk:=AbZ hk;obtain ⟨blk,y',q1,q2,q3,q4⟩:=(Cz hpb).2 k _ hLk;have:some y=some y':=hy.symm.trans q2;cases this;have hb:=s.blk L[k] blk (by rw[hHx _ (List.getElem_mem hk)];exact q1);have hρk:=hρc k _ hLk;cases blk with
  | dead=>simp[passB] at q3
  | row fz cs =>simp[passB] at q3;exact pC
  | box cs =>
   simp only[passB] at q3;split at q3
   ·rename_i l hl;cases q3;obtain ⟨g,S,c,E,fr,b1,b2,b3,b4,b5,b6,b7⟩:=hb;have hg:=Ct hl;refine ⟨g,S,c,E,fr,hρk.trans b1,b2,b3,b4,lA,fun j x v hx hv=>?_,b7⟩;have hj:j<cs.length:=(by have:=(AbY.1 hx).1;omega)
    have hcj:=AbZ hj;refine G0 hρc (b6 j _ v hcj hv) (hg.2 j _ x hcj hx) (fun b hb=>?_);exact pP
   cases q3
  | map l =>simp[passB] at q3;exact oX
  | amap l =>
   simp only[passB] at q3;split at q3
   ·rename_i m hm;cases q3;obtain ⟨g,S,es,clock,b1,b2,b3,b4⟩:=hb;have hg:=Ct hm;have hml:m.length=l.length:=eC
    refine ⟨g,S,es,clock,hρk.trans b1,b2,⟨by simp[hml];exact b3.1,fun i e p a b=>?_⟩,b4⟩;rw[Agb] at b;obtain ⟨c1,c2⟩:=b;rw[Aeg] at c1;cases hc:l[i]? with
    | none=>simp[hc] at c1
    | some q =>
     simp[hc] at c1;have hcj:(l.map (·.2))[i]?=some q.2:=(by simp[hc])
     obtain ⟨d1,d2⟩:=b3.2 i e q a hc;refine ⟨by rw[<-c1];exact d1,G0 hρc d2 (hg.2 i _ p.2 hcj c2) (fun b hb=>?_)⟩;exact pP
   cases q3
  | iter s pos =>simp[passB] at q3;exact pD
  | bld T used n k =>
   obtain ⟨g,S,v,b1,b2,b3,b4⟩:=hb;cases k with
   | none =>simp[passB] at q3;exact pW
   | some kb =>
    simp only[passB] at q3;split at q3
    ·rename_i j hj;cases q3;rcases b3 with b3 | ⟨g2,cap,e1,e2,e3⟩
     ·exact qe
     exact ⟨g,S,v,hρk.trans b1,b2,.inr ⟨g2,cap,e1,(hρc j _ (GE hj)).trans e2,e3⟩,b4⟩
    cases q3
  | buf e l =>
   simp[passB] at q3;subst q3;rcases hb with ⟨b1,b2⟩ | ⟨g,S,c,b1,b2⟩
   ·exact .inl ⟨hρk.trans b1,b2⟩
   exact .inr ⟨g,S,c,hρk.trans b1,b2⟩
  | ext J t=>simp[passB] at q3
 ·intro k g S e;obtain ⟨b,hb,hρ⟩:=hρc' k _ e;refine ⟨(s.dom b g S hρ).1,?_⟩;have hk:k<HC.length:=by have:=(AbY.1 hb).1;omega
  exact ⟨HC[k],AbZ hk⟩
 intro i j g S S' e1 e2 l1 l2;obtain ⟨b,hb,hρ⟩:=hρc' i _ e1;obtain ⟨c,hc,hρ'⟩:=hρc' j _ e2;have hbc:=s.inj b c g S S' hρ hρ' (liveL i b hb) (liveL j c hc);exact qv
def shP (n:Nat) (ρ:Place):Place:=fun i=>if i<n then none else ρ (i-n)
def R0 (n:Nat) (ρ:Place) (i:Nat):shP n ρ (i+n)=ρ i:=by simp[shP,show ¬i+n<n by omega]
def Ka {n:Nat} {ρ:Place} {i:Nat} {x:Nat × Nat} (e:shP n ρ i=some x):∃ j,i=j+n/\ρ j=some x:=by
 simp only[shP] at e;split at e;·cases e
 exact ⟨i-n,lA,e⟩
def Sim.cons {H:List Ae} {h:Held} {ρ:Place} {w:World} (s:Sim G h ρ (hp H) w) (hx:DG H=true) {J:List (D × Bool)->Held->Place->World->Prop} {t:List (D × Bool)} (hJ:Ti J) (hj:J t h (shP 1 ρ) w) :
  Sim G h (shP 1 ρ) (hp (.ext J t::H.map (renB (·+1)))) w:=by
 have hne:=Uf s hx;refine ⟨s.prom,s.glob,?_,?_,?_⟩
 ·intro i b e;cases i with
  | zero=>simp[hp] at e;subst e;exact ⟨rfl,hJ,hj⟩
  | succ i =>
   simp only[hp,List.getElem?_cons_succ,Aeg] at e;cases hi:H[i]? with
   | none=>simp[hi] at e
   | some b0 =>simp[hi] at e;subst e;have:=(s.blk i b0 hi).ren (ρ':=shP 1 ρ) (f:=(·+1)) (fun b x e=>iT) (fun e=>iT);exact this
 ·intro i g S e;obtain ⟨j,rfl,hj⟩:=Ka e;obtain ⟨q1,b,q2⟩:=s.dom j g S hj;refine ⟨q1,renB (·+1) b,?_⟩;have:H[j]?=some b:=q2;simp[hp,this]
 intro i k g S S' e1 e2 l1 l2;obtain ⟨j,rfl,hj⟩:=Ka e1;obtain ⟨j',rfl,hj'⟩:=Ka e2;have lv:∀ j,BC (hp (.ext J t::H.map (renB (·+1)))) (j+1)->BC (hp H) j:=by
  rintro j ⟨b,q1,q2⟩;simp only[hp,List.getElem?_cons_succ,Aeg] at q1;cases hi:H[j]? with
  | none=>simp[hi] at q1
  | some b0 =>simp[hi] at q1;subst q1;exact ⟨b0,hi,fun e=>q2 kB⟩
 rw[s.inj j j' g S S' hj hj' (lv j l1) (lv j' l2)]
def Sim.behind {H H2:List Ae} {h h':Held} {ρ ρ2:Place} {w w':World} (s:Sim G h ρ (hp H) w) (hsz:w.heap.size<=w'.heap.size) (s2:Sim G h' ρ2 (hp H2) w') :
  Sim G h' (fun i=>if i<H.length then ρ i else ρ2 (i-H.length)) (hp (deads H.length++H2.map (renB (H.length+·)))) w':=by
 have hlen:(deads H.length).length=H.length:=by simp[deads]
 have get1:∀ i,i<H.length->(deads H.length++H2.map (renB (H.length+·)))[i]?=some .dead:=fun i hi=>by rw[Aen lA];simp[deads,hi]
 have get2:∀ i,(deads H.length++H2.map (renB (H.length+·)))[H.length+i]?=(H2[i]?).map (renB (H.length+·)):=fun i=>by rw[Aeq lA,hlen];simp
 refine ⟨s2.prom,s2.glob,?_,?_,?_⟩
 ·intro i b e;by_cases hi:i<H.length;·have e':(deads H.length++H2.map (renB (H.length+·)))[i]?=some b:=e;rw[get1 i hi] at e';cases e';trivial
  obtain ⟨j,rfl⟩:∃ j,i=H.length+j:=⟨i-H.length,lA⟩;have e':(deads H.length++H2.map (renB (H.length+·)))[H.length+j]?=some b:=e;rw[get2] at e';cases hj:H2[j]? with
  | none=>simp[hj] at e'
  | some b0 =>simp[hj] at e';subst e';exact (s2.blk j b0 hj).ren (f:=(H.length+·)) (fun b x e=>by simp[show ¬H.length+b<H.length by omega];exact e) (fun e=>by simp[show ¬H.length+j<H.length by omega];exact e)
 ·intro i g S e;by_cases hi:i<H.length;·simp only[hi,if_true] at e;exact ⟨eD,.dead,get1 i hi⟩
  simp only[hi,if_false] at e;obtain ⟨q1,b,q2⟩:=s2.dom _ g S e;refine ⟨q1,renB (H.length+·) b,?_⟩;have:=get2 (i-H.length);rw[show H.length+(i-H.length)=i by omega] at this;have q3:H2[i-H.length]?=some b:=q2;rw[q3] at this;exact this
 intro i k g S S' e1 e2 l1 l2;have nl:∀ i,BC (hp (deads H.length++H2.map (renB (H.length+·)))) i->¬i<H.length:=by rintro i ⟨b,q1,q2⟩ hi;have q3:(deads H.length++H2.map (renB (H.length+·)))[i]?=some b:=q1;rw[get1 i hi] at q3;cases q3;exact q2 rfl
 have h1:=nl i l1;have h2:=nl k l2;simp only[h1,h2,if_false] at e1 e2;have lv:∀ i,¬i<H.length->BC (hp (deads H.length++H2.map (renB (H.length+·)))) i->BC (hp H2) (i-H.length):=by
  rintro i hi ⟨b,q1,q2⟩;obtain ⟨j,rfl⟩:∃ j,i=H.length+j:=⟨i-H.length,lA⟩;have q3:(deads H.length++H2.map (renB (H.length+·)))[H.length+j]?=some b:=q1;rw[get2] at q3;cases hj:H2[j]? with
  | none=>simp[hj] at q3
  | some b0 =>simp[hj] at q3;subst q3;exact ⟨b0,by rw[show H.length+j-H.length=j by omega];exact hj,fun e=>q2 kB⟩
 have:=s2.inj _ _ g S S' e1 e2 (lv i h1 l1) (lv k h2 l2);omega
def SR.ren {h:Held} {ρ ρ':Place} {tmps:Array Value} {s:List AV} {f:Nat->Nat} (hf:∀ b x,ρ b=some x->ρ' (f b)=some x) (r:SR h ρ tmps s):SR h ρ' tmps (renL f s):=by
 rw[Dp];refine ⟨by simpa using r.1,fun t v x hv hx=>?_⟩;simp only[Aeg] at hx;cases hc:s[t]? with
 | none=>simp[hc] at hx
 | some y=>simp[hc] at hx;subst hx;exact (r.2 t v y hv hc).ren hf
def RU {ρ:Place} {a b:Nat} (e:ρ a=ρ b):∀ i x,ρ i=some x->ρ (swF a b i)=some x:=fun i x h=>by
 unfold swF;split;·rename_i hi;subst hi;rw[e];exact h
 exact h
def Sim.swap {h:Held} {ρ:Place} {H:List Ae} {w:World} (s:Sim G h ρ (hp H) w) {a b:Nat} (hab:a≠b) (ha:H[a]?=some .dead) (e:ρ a=ρ b):Sim G h ρ (hp (HZ a b H)) w:=by
 have hal:a<H.length:=(AbY.1 ha).1;have get:∀ i,(HZ a b H)[i]?=if i=b then (if b<H.length then some .dead else none) else if i=a then some (renB (swF a b) ((H[b]?).getD .dead)) else (H[i]?).map (renB (swF a b)):=fun i=>by
  rw[HZ,Aeg,Af1];by_cases hb:b=i
  ·subst hb;simp only[if_true,List.length_set];by_cases hl:b<H.length;·simp[hl];rfl
   simp[hl]
  rw[if_neg hb,if_neg (fun q=>hb q.symm),Af1];by_cases hi:a=i;·subst hi;simp[hal]
  rw[if_neg hi,if_neg (fun q=>hi q.symm)]
 have lv:∀ i,BC (hp (HZ a b H)) i->i≠b/\BC (hp H) (if i=a then b else i):=by
  rintro i ⟨blk,q1,q2⟩;have q3:(HZ a b H)[i]?=some blk:=q1;rw[get] at q3;by_cases hb:i=b
  ·rw[if_pos hb] at q3;split at q3;·cases q3;exact absurd rfl q2
   cases q3
  refine ⟨hb,?_⟩;rw[if_neg hb] at q3;by_cases hi:i=a
  ·rw[if_pos hi] at q3 ⊢;cases hc:H[b]? with
   | none=>rw[hc] at q3;cases q3;exact absurd rfl q2
   | some b0=>rw[hc] at q3;cases q3;exact ⟨b0,hc,fun e=>q2 kB⟩
  rw[if_neg hi] at q3 ⊢;cases hc:H[i]? with
  | none=>rw[hc] at q3;cases q3
  | some b0=>rw[hc] at q3;cases q3;exact ⟨b0,hc,fun e=>q2 kB⟩
 refine ⟨s.prom,s.glob,?_,?_,?_⟩
 ·intro i blk q;have q3:(HZ a b H)[i]?=some blk:=q;rw[get] at q3;by_cases hb:i=b
  ·rw[if_pos hb] at q3;split at q3;·cases q3;trivial
   cases q3
  rw[if_neg hb] at q3;by_cases hi:i=a
  ·rw[if_pos hi] at q3;subst hi;cases hc:H[b]? with
   | none=>rw[hc] at q3;cases q3;trivial
   | some b0 =>rw[hc] at q3;cases q3;have:=(s.blk b b0 hc).ren (f:=swF i b) (RU e) (fun q=>by simp only[swF,if_true];rw[e];exact q);simpa[swF] using this
  rw[if_neg hi] at q3;cases hc:H[i]? with
  | none=>rw[hc] at q3;cases q3
  | some b0 =>rw[hc] at q3;cases q3;have:=(s.blk i b0 hc).ren (f:=swF a b) (RU e) (fun q=>by simp only[swF,if_neg hb];exact q);simpa[swF,hb] using this
 ·intro i g S q;obtain ⟨h1,b0,h2⟩:=s.dom i g S q;refine ⟨h1,?_⟩;have hil:i<H.length:=(AbY.1 h2).1;have:i<(HZ a b H).length:=by simp[HZ];exact hil
  exact ⟨_,AbZ this⟩
 intro i j g S S' q1 q2 l1 l2;obtain ⟨n1,l1⟩:=lv i l1;obtain ⟨n2,l2⟩:=lv j l2;have back:∀ i x,ρ i=some x->ρ (if i=a then b else i)=some x:=fun i x q=>by
  split;·rename_i hi;subst hi;rw[<-e];exact q
  exact q
 have:=s.inj _ _ g S S' (back _ _ q1) (back _ _ q2) l1 l2;split at this<;>split at this<;>simp_all
def Sim.pins {h:Held} {ρ:Place} {w:World}:∀ {pins:List (Nat × Nat)} {H:List Ae},Sim G h ρ (hp H) w->(pins.map (·.1)).Nodup->(∀ q,q∈pins->H[q.1]?=some .dead/\q.1<q.2/\ρ q.1=ρ q.2/\∀ q',q'∈pins->q'.1<q.2)->Sim G h ρ (hp (YB pins H)) w
 | [],H,s,_,_=>s
 | (a,b)::r,H,s,hn,hq=>by
   obtain ⟨h1,h2,h3,h4⟩:=hq (a,b) lC;simp only at h1 h2 h3 h4;simp only[List.map_cons,AgF,AgV,not_exists,not_and] at hn;refine Sim.pins (pins:=r) (H:=HZ a b H) (s.swap lA h1 h3) hn.2 fun q hm=>?_;obtain ⟨k1,k2,k3,k4⟩:=hq q (Aev _ hm);refine ⟨?_,k2,k3,fun q' hq'=>k4 q' (Aev _ hq')⟩;have na:a≠q.1:=fun e=>hn.1 q hm e.symm;have nb:b≠q.1:=fun e=>by have:=h4 q (Aev _ hm);omega
   rw[HZ,Aeg,Af1,if_neg nb,Af1,if_neg na,k1];rfl
def SR.pins {h:Held} {ρ:Place} {tmps:Array Value}:∀ {pins:List (Nat × Nat)} {s:List AV},SR h ρ tmps s->(∀ q,q∈pins->ρ q.1=ρ q.2)->SR h ρ tmps (YA pins s)
 | [],_,r,_=>r
 | (a,b)::r,s,h1,hq=>SR.pins (pins:=r) (s:=renL (swF a b) s) (h1.ren (RU (hq (a,b) lC))) fun q hm=>hq q (Aev _ hm)
def Pin.keep {fl:List (Option Nat)} {s:List AV} {k:Nat} (h:Pin s k) (hs:Cx fl s s):fl[k]?=some (some k):=by
 obtain ⟨t,off,ht⟩:=h;have:=(Dt hs).2 t _ _ ht ht;simp only[Ap] at this;split at this
 ·rename_i j hj;cases this;exact hj
 exact this.elim
def Pin.place {h:Held} {ρ:Place} {tmps:Array Value} {s:List AV} {k:Nat} (hk:Pin s k) (r:SR h ρ tmps s):∃ x,ρ k=some x:=by
 obtain ⟨t,off,ht⟩:=hk;have hl:t<s.length:=(AbY.1 ht).1;have hlt:t<tmps.size:=im
 have hv:tmps[t]?=some tmps[t]:=Agp hlt;have hr:=r.2 t _ _ hv ht;generalize tmps[t]=v at hr;cases hr with
 | ptr _ _ g S hρ=>exact ⟨_,hρ⟩
end
section
variable {P:Program} {G:Ah}
def nt (ρ:Place) (k:Nat):Prop:=∀ i S,ρ i≠some (k,S)
def R8 {g:FuncId} (hg:An P g=true) (args:Array Value) (w:World):(callFunc g args).run P w=.ok (.enter g args) w:=by
 unfold An at hg;split at hg
 ·rename_i fn hfn;simp only[Aga,bne_iff_ne,ne_eq] at hg;have hb:¬fn.body=none:=by
   intro e;simp[e] at hg
  simp[callFunc,program,Sem.run,hfn,hg.1,hb]
 cases hg
def YR {h:Held} {ρ:Place} {v:Value} {x:AV} {gf:FuncId} {caps:List AV} (r:R h ρ v x) (e:Ut x=some (gf,caps)):∃ lb,v=.func (.func gf) #[] lb/\RL h ρ lb caps:=by
 unfold Ut at e;split at e
 ·cases e;cases r with
  | fn _ us ws _ _ hl hl' hra hrb =>
   have:us=#[]:=iI
   subst this;exact ⟨ws,rfl,hl',hrb⟩
 ·cases e;cases r with
  | d _ _ hd=>cases hd with
    | fn _ us ws _ _ hl hl' hra hrb =>
     have:us=#[]:=iI
     subst this;refine ⟨ws,rfl,iy,fun i v x hv hx=>?_⟩;simp only[Aeg] at hx;rename_i capt;cases hc:capt[i]? with
     | none=>simp[hc] at hx
     | some y=>simp[hc] at hx;subst hx;exact .d _ _ (hrb i v y hv hc)
 cases e
def A6.apart {h h':Held} {ρ ρ':Place} {w w':World} (s:A6 h ρ w h' ρ' w') {g:Nat} (hg:g<w.heap.size) (hn:nt ρ g):w'.heap[g]?=w.heap[g]?/\(∀ o,h' g o=h g o)/\nt ρ' g/\g<w'.heap.size :=
 ⟨s.keep g hg hn,s.new g hg hn,fun i S e=>by
  rcases s.rnew i g S e with ⟨j,S',hj⟩ | hge
  ·exact qG
  omega,AfZ hg s.size⟩
def RG.apart {h h':Held} {ρ ρ':Place} {w w':World} (s:RG h ρ w h' ρ' w') {g:Nat} (hg:g<w.heap.size) (hn:nt ρ g):w'.heap[g]?=w.heap[g]?/\(∀ o,h' g o=h g o)/\nt ρ' g/\g<w'.heap.size :=
 ⟨s.keep g hg hn,s.new g hg hn,fun i S e=>by
  rcases s.rnew i g S e with ⟨j,S',hj⟩ | hge
  ·exact qG
  omega,AfZ hg s.size⟩
def Sim.putU {h:Held} {ρ:Place} {H:List Ae} {w:World} (s:Sim G h ρ (hp H) w) (hx:DG H=true) {l:Nat} {r:Loop} (hl:w.heap[l]?=some (.loop r)) (hn:nt ρ l) (o:Obj):Sim G h ρ (hp H) (w.putObj l o) :=
 s.shut hx lC (fun k c E fr e=>World.putObj_heap_other (fun ek=>by subst ek;rw[hl] at e;cases e)) (fun i g S e=>World.putObj_heap_other (fun ek=>hn i S (ek▸e)))
structure RB (w:World) (h:Held) (ρ:Place) (h':Held) (ρ':Place) (w':World):Prop where
 os:w'.os=w.os
 tape:w'.tape=w.tape
 output:w'.output=w.output
 size:w.heap.size<=w'.heap.size
 keep:∀ k,k<w.heap.size->nt ρ k->w'.heap[k]?=w.heap[k]?
 mono:h.le h'
 new:∀ k,k<w.heap.size->nt ρ k->∀ o,h' k o=h k o
 pl:∀ i g S,ρ' i=some (g,S)->(∃ j S',ρ j=some (g,S'))\/w.heap.size<=g
def RB.nt {w w':World} {h h':Held} {ρ ρ':Place} (b:RB w h ρ h' ρ' w') {k:Nat} (hk:k<w.heap.size) (hn:nt ρ k):nt ρ' k:=fun i S e=>by
 rcases b.pl i k S e with ⟨j,S',hj⟩ | hge
 ·exact qG
 omega
def RB.go {w w' w'':World} {h h' h'':Held} {ρ ρ' ρ'':Place} (b:RB w h ρ h' ρ' w') (s:RG h' ρ' w' h'' ρ'' w''):RB w h ρ h'' ρ'' w'':=by
 refine ⟨s.os.trans b.os,s.tape.trans b.tape,s.output.trans b.output,AgD b.size s.size,fun k hk hn=>?_,Held.le_trans b.mono s.mono,fun k hk hn o=>?_,fun i g S e=>?_⟩;·exact (s.keep k (AfZ hk b.size) (b.nt hk hn)).trans (b.keep k hk hn)
 ·exact (s.new k (AfZ hk b.size) (b.nt hk hn) o).trans (b.new k hk hn o)
 rcases s.rnew i g S e with ⟨j,S',hj⟩ | hge
 ·exact b.pl j g S' hj
 exact .inr (AgD b.size hge)
def RB.put {w w':World} {h h':Held} {ρ ρ':Place} (b:RB w h ρ h' ρ' w') {l:Nat} (hl:w.heap.size<=l) (o:Obj):RB w h ρ h' ρ' (w'.putObj l o) :=
 ⟨b.os,b.tape,b.output,by simpa using b.size,fun k hk hn=>(World.putObj_heap_other lA).trans (b.keep k hk hn),b.mono,b.new,b.pl⟩
def RB.fewer {w w':World} {h h':Held} {ρ ρ' ρ'':Place} (b:RB w h ρ h' ρ' w') (hf:∀ i x,ρ'' i=some x->∃ j,ρ' j=some x):RB w h ρ h' ρ'' w' :=
 ⟨b.os,b.tape,b.output,b.size,b.keep,b.mono,b.new,fun i g S e=>by obtain ⟨j,hj⟩:=hf i _ e;exact b.pl j g S hj⟩
set_option maxHeartbeats 400000 in
def Tri.range {r:Option Nat} {p:Nat} {g:Operand} {ps:Array Tmp} {assign body:Code} {Q:Az} {s:List AV} {H:List Ae}
  (h:WP P G (fun n Q s H=>∀ l,Tri false (some l) P G n assign Q s H) (fun n Q s H=>∀ l,Tri false (some l) P G n body Q s H) (evalA G s g) ps Q s H):Tri false r P G p (.rangeFunc g ps assign body) Q s H:=by
 intro h0 ρ0 w0 hp0 a w ha;obtain ⟨gf,caps,caps',HI,xs,todo,pt,e1,rfl,e2,e3,e4,e5,hC,hT,fl,s2,H20,I,Ix,pins,hpin,f2,f3,f4,f5,hI0,hIl,hIx,hrnd,hend,hjmp⟩:=h;obtain ⟨h,ρ,q1,q2,q4⟩:=ha;generalize hL:passIds false H caps=L at e2 e3 e4 e5 f3;have hLn:L.Nodup:=by rw[<-hL];exact F5 _
 obtain ⟨lb,hgv,hlb⟩:=YR (Iq (a:=a) q1 q2 g) e1;refine wpIn_rangeFunc ?_;intro fn hfn
 let rec_:Nat->LoopState->Option Code->Loop:=fun d0 st pe=>{state:=st,pending:=pe,fn,tmps:=a.tmps,params:=#[pt],assign,body,defers:=d0}
 obtain ⟨d0,l,mark,W1,hent,hl1,hWl,hsim1,hst1,hmk⟩:∃ (d0 l:Nat) (mark:List Deferred) (W1:World),(Instr.enterLoop fn a.tmps #[pt] assign body (fR r).round).run P w=.ok (l,mark) W1/\w.heap.size<=l/\W1.heap[l]?=some (.loop (rec_ d0 .ready none)) /\
   Sim G h ρ (hp H) W1/\A6 h ρ w h ρ W1/\(mark=[]\/(mark=[{target:=.collected w.heap.size,args:=#[]}]/\r=none/\W1.heap[w.heap.size]?=some (.deferred (some []))/\w.heap.size≠l)):=by
  cases r with
  | none =>
   obtain ⟨k1,k2⟩:=q1.allocU (.deferred (some []));obtain ⟨k3,k4⟩:=k1.allocU (.loop (rec_ w.heap.size .ready none));refine ⟨w.heap.size,w.heap.size+1,_,_,run_enterLoop_outer _ _ _ _ _,lA,?_,k3,k2.trans k4,.inr ⟨rfl,rfl,?_,lA⟩⟩;·have:=World.alloc_heap_new (w.alloc (.deferred (some []))) (.loop (rec_ w.heap.size .ready none));rwa[World.size_alloc] at this
   exact (Gf _ _ _ lC).trans (World.alloc_heap_new w _)
  | some l0 =>
   obtain ⟨r0,hr0,_⟩:=q4.record l0 rfl;obtain ⟨k1,k2⟩:=q1.allocU (.loop (rec_ r0.defers .ready none));refine ⟨r0.defers,w.heap.size,[],_,?_,Aex _,World.alloc_heap_new _ _,k1,k2,.inl rfl⟩;show (Instr.enterLoop fn a.tmps #[pt] assign body (some l0)).run P w=_
   unfold Instr.enterLoop;simp only[Sem.run_bind,run_getLoop hr0,run_newObj_alloc,Result.andThen,Sem.run_pure];rfl
 have hl2:l<W1.heap.size:=(Aes.1 hWl).1;obtain ⟨h1,t1,sF,sv,rv⟩:=II f2 f4 f5 hsim1 q2;have hfree:∀ b,b∈L->Am (hp H) (frz H (Bs fl H20)) b=H[b]?:=fun b hb=>by refine AD _ _ b (fun q hq e=>?_);have:=BV hq;rw[e] at this;obtain ⟨k,c,u1,_⟩:=BQ.1 this;exact (f3 b (Agu.2 ⟨some b,Aer u1,rfl⟩)).1 hb
 have sI:=Aao hLn e3 e5 sF hfree;have hHIx:DG HI=true:=by
  cases HI with
  | nil=>rfl
  | cons x rest =>
   cases x with
   | ext J t =>
    exfalso;obtain ⟨k1,k2⟩:=Cz e3;have hlen:0<L.length:=(by rw[k1];simp)
    obtain ⟨blk,y,u1,u2,u3,_⟩:=k2 0 L[0] (AbZ hlen);simp at u2;subst u2;cases blk<;>simp[passB] at u3;all_goals (split at u3<;>first | cases u3 | (split at u3<;>cases u3))
   | _=>rfl
 have hga:=Ct e2;have rI:RL h1 (fun k=>(L[k]?).bind ρ) lb caps':=by
  refine ⟨by have:=hlb.1;omega,fun i v y hv hy=>?_⟩;have hi:i<caps.length:=fU
  have hx:=AbZ hi;refine G0 (ρ:=ρ) (L:=L) (fun k b e=>by simp[e]) ((hlb.2 i v _ hv hx).mono t1.mono (Place.le_refl _)) (hga.2 i _ y hx hy) (fun b hb=>?_);have:=Cr hx hb;rw[e4] at this;cases this
 have hplI:∀ i g S,shP 1 (fun k=>(L[k]?).bind ρ) i=some (g,S)->∃ j b,i=j+1/\L[j]?=some b/\ρ b=some (g,S):=by
  intro i g S e;obtain ⟨j,rfl,hj⟩:=Ka e;cases hk:L[j]? with
  | none=>simp[hk] at hj
  | some b=>simp[hk] at hj;exact ⟨j,b,rfl,hk,hj⟩
 have liveF:∀ b,BC (hp H) b->BC (Am (hp H) (frz H (Bs fl H20))) b:=by
  intro b hb;have gen:∀ (ids:List Nat) (Hx:A9),BC Hx b->BC (Am Hx (frz H ids)) b:=by
   intro ids;induction ids with
   | nil=>intro Hx hx;exact hx
   | cons i rr ih =>
    intro Hx hx;simp only[frz];split
    ·rw[Am];refine ih _ ?_;by_cases hbi:b=i;·exact ⟨_,by simp[hbi];rfl,lC⟩
     obtain ⟨x,hx1,hx2⟩:=hx;exact ⟨x,by simp[hbi,hx1],hx2⟩
    exact ih _ hx
  exact gen _ _ hb
 have liveL:∀ b,b∈L->BC (Am (hp H) (frz H (Bs fl H20))) b:=by intro b hb;obtain ⟨k,hk,rfl⟩:=List.getElem_of_mem hb;obtain ⟨blk,y,u1,_,u3,_⟩:=(Cz e3).2 k _ (AbZ hk);refine ⟨blk,by rw[hfree _ hb];exact u1,?_⟩;rintro rfl;simp[passB] at u3
 let J:List (D × Bool)->Held->Place->World->Prop:=fun t h' ρI w'=>∃ ρ2 H2 st pe,Sim G h' ρ2 (hp H2) w'/\DG H2=true/\SR h' ρ2 a.tmps s2/\okT t/\(∀ i g S,ρI i=some (g,S)->nt ρ2 g) /\
  w'.heap[l]?=some (.loop (rec_ d0 st pe))/\nt ρ2 l/\nt ρI l/\((st=.ready/\pe=none/\I t H2)\/(t=[]/\∃ c,st=.done/\pe=some c/\Ix c H2)) /\
  RB w h ρ h' ρ2 w'/\(∀ i g S,ρI i=some (g,S)->(∃ j S',ρ j=some (g,S'))\/w.heap.size<=g) /\
  (mark=[]\/(w'.heap[w.heap.size]?=some (.deferred (some []))/\nt ρ2 w.heap.size/\nt ρI w.heap.size))/\(∀ k,Pin s2 k->∃ x,ρ2 k=some x/\plN fl ρ k=some x)
 have hJc:Ti J:=by
  intro t hA ρI wA hB ρI' wB hj st hpr;obtain ⟨ρ2,H2,sta,pe,j1,j2,j3,j4,j5,j6,j7,j8,j9,j10,j11,j12,j13⟩:=hj;have key:∀ k,k<wA.heap.size->nt ρI k->wB.heap[k]?=wA.heap[k]?/\(∀ o,hB k o=hA k o)/\nt ρI' k/\k<wB.heap.size:=fun k hk hn=>st.apart hk hn;have dj:∀ i g S,ρ2 i=some (g,S)->nt ρI g:=fun i g S e i' S' e'=>j5 i' g S' e' i S e;have hlA:=(Aes.1 j6).1;obtain ⟨l1,_,l3,_⟩:=key l hlA j8;refine ⟨ρ2,H2,sta,pe,j1.other (Uf j1 j2) st.mono hpr st.size (fun i g S e=>?_),j2,j3.mono st.mono (Place.le_refl _),j4,fun i g S e=>?_,l1.trans j6,j7,l3,j9,?_,fun i g S e=>?_,?_,j13⟩
  ·obtain ⟨k1,k2,_⟩:=key g (j1.dom i g S e).1 (dj i g S e);exact ⟨k1,k2⟩
  ·rcases st.rnew i g S e with ⟨j,S',hj⟩ | hge
   ·exact j5 j g S' hj
   intro i' S' e';have:=(j1.dom i' g S' e').1;omega
  ·refine ⟨st.os.trans j10.os,st.tape.trans j10.tape,st.output.trans j10.output,AgD j10.size st.size,fun k hk hn=>?_,Held.le_trans j10.mono st.mono,fun k hk hn o=>?_,j10.pl⟩;all_goals
    have hnI:nt ρI k:=fun i S e=>by
     rcases j11 i k S e with ⟨j,S',hj⟩ | hge
     ·exact qG
     omega
    obtain ⟨k1,k2,_⟩:=key k (AfZ hk j10.size) hnI
   ·exact k1.trans (j10.keep k hk hn)
   exact (k2 o).trans (j10.new k hk hn o)
  ·rcases st.rnew i g S e with ⟨j,S',hj⟩ | hge
   ·exact j11 j g S' hj
   exact .inr (AgD j10.size hge)
  rcases j12 with j12 | ⟨m1,m2,m3⟩
  ·exact .inl j12
  obtain ⟨k1,_,k3,_⟩:=key w.heap.size (Aes.1 m1).1 m3;exact .inr ⟨k1.trans m1,m2,k3⟩
 have hY:KR P l J:=by
  intro x b rest G' hA ρI Hy wA v sA hy0 hv;obtain ⟨_,_,hj⟩:=sA.blk 0 _ hy0;obtain ⟨ρ2,H2,sta,pe,j1,j2,j3,j4,j5,j6,j7,j8,j9,j10,j11,j12,j13⟩:=hj;obtain ⟨rfl,rfl,hI⟩:sta=.ready/\pe=none/\I ((x,b)::rest) H2:=by
   rcases j9 with j9 | ⟨ht,_⟩
   ·exact j9
   cases ht
  have hlen:=(hIl _ _ hI).1;have hp2:∀ i x,ρ2 i=some x->i<fl.length:=fun i x e=>by obtain ⟨_,b',hb'⟩:=j1.dom i x.1 x.2 e;have:=(AbY.1 hb').1;omega
  have hlA:=(Aes.1 j6).1;refine ⟨fn,_,assign,body,run_yield j6 (by simp[rec_]),?_⟩;refine roundIn_of_wpIn (F:=fR none) trivial ?_;show assign.wpIn (fR (some l)) 0 P _ _ wA
  have hatA:At false (some l) G hA ρ2 wA (s2.set pt (.d x)) (hp H2) {tmps:=(#[pt].zip #[v]).foldl (fun t (p,v)=>t.setIfInBounds p v) a.tmps,defers:=[]} wA:=by refine ⟨hA,ρ2,j1,?_,⟨fun _=>A6.refl _ _ _,fun e=>lh,List.Pairwise.nil,fun d hd=>jZ,fun _ _=>rfl,fun l' e=>by cases e;exact ⟨_,j6,j7⟩⟩⟩;have:=SR.put (a:={tmps:=a.tmps,defers:=[]}) j3 pt (R.d (ρ:=ρ2) v x hv);simpa[Act.put] using this
  refine wpIn_mono (hrnd x b rest H2 hI l hA ρ2 wA (fun _=>hp2) _ wA hatA) ?_;rintro e a1 w1 ⟨s',H',hq,hat⟩;cases e with
  | normal =>
   obtain ⟨rfl,hq⟩:=hq;obtain ⟨hB,ρB,b1,b2,b4⟩:=hat;have stB:=b4.step rfl;obtain ⟨l1,_,l3,l4⟩:=stB.apart hlA j7;have hlB:w1.heap[l]?=some (.loop (rec_ d0 .ready none)):=l1.trans j6;refine ⟨_,run_beginRound hlB rfl,?_⟩;have hl5:(w1.putObj l (.loop {rec_ d0 .ready none with state:=.busy})).heap[l]?=some (.loop {rec_ d0 .ready none with state:=.busy}):=World.putObj_heap_same l4;have hdfs:a1.defers=[]:=b4.rnd l rfl;have sB:Sim G hB ρB (hp H') (w1.putObj l (.loop {rec_ d0 .ready none with state:=.busy})):=b1.putU j2 hlB l3 _;have hpB:∀ i x,ρB i=some x->i<fl.length:=fun i x e=>by obtain ⟨_,b',hb'⟩:=b1.dom i x.1 x.2 e;have:=(AbY.1 hb').1;omega
   have hatB:At false (some l) G hB ρB (w1.putObj l (.loop {rec_ d0 .ready none with state:=.busy})) s' (hp H') a1 (w1.putObj l (.loop {rec_ d0 .ready none with state:=.busy})) :=
    ⟨hB,ρB,sB,b2,⟨fun _=>A6.refl _ _ _,fun e=>lh,by rw[hdfs];exact List.Pairwise.nil,fun d hd=>(by rw[hdfs] at hd;simp at hd),fun _ _=>hdfs,fun l' e=>by cases e;exact ⟨_,hl5,l3⟩⟩⟩
   refine wpIn_mono (hq l hB ρB _ (fun _=>hpB) a1 _ hatB) ?_;rintro e a2 w2 ⟨s'',Hn,hq2,⟨hD,ρD,c1,c2,c4⟩⟩;have stC:=c4.step rfl;obtain ⟨l6,_,l7,l8⟩:=stC.apart (Aes.1 hl5).1 l3;have hl6:w2.heap[l]?=some (.loop {rec_ d0 .ready none with state:=.busy}):=l6.trans hl5
   have finish:∀ (jump:Option Code) (K:List Ae->Prop),Vf s2 K Hn->(∀ H3,K H3->DG H3=true)->jump.isNone=b ->
     (∀ H3,K H3->(((if jump.isNone then LoopState.ready else .done)=.ready/\jump=none/\I rest H3)\/(rest=[]/\∃ c,(if jump.isNone then LoopState.ready else .done)=.done/\jump=some c/\Ix c H3))) ->
     ∃ v w',(Instr.endRound l jump).run P w2=.ok v w'/\(Ending.returned v=.returned (.bool b)/\∃ h',hA.le h'/\Sim G' h' ρI (Am Hy [(0,.ext J rest)]) w'):=by
    rintro jump K ⟨fl',H3,g2,g4,g5,hK⟩ hKx hjb hKa;have hs2:SR hD ρD a.tmps s2:=(j3.mono stB.mono stB.rmono).mono stC.mono stC.rmono;obtain ⟨hE,tE,_,sE,rE⟩:=II g2 g4 g5 c1 hs2;have hrun:=run_endRound (P:=P) jump hl6;refine ⟨_,_,hrun,by rw[hjb],hE,Held.le_trans stB.mono (Held.le_trans stC.mono tE.mono),?_⟩;generalize hW3:w2.putObj l (.loop {state:=if jump.isNone=true then LoopState.ready else LoopState.done,pending:=jump,fn:=fn,tmps:=a.tmps,params:=#[pt],assign:=assign,body:=body,defers:=d0})=W3;have hW3':w2.putObj l (.loop (rec_ d0 (if jump.isNone then LoopState.ready else .done) jump))=W3:=hW3;have ntE:∀ k,nt ρD k->nt (plN fl' ρD) k:=fun k hk i S e=>by obtain ⟨j,_,hj⟩:=Fz e;exact hk j S hj
    have sE3:Sim G hE (plN fl' ρD) (hp H3) W3:=(by rw[<-hW3'];exact sE.putU (hKx _ hK) hl6 (ntE l l7) _);have far:∀ k,k<wA.heap.size->nt ρ2 k->k≠l->W3.heap[k]?=wA.heap[k]?/\(∀ o,hE k o=hA k o)/\nt (plN fl' ρD) k:=(by intro k hk hn hkl;obtain ⟨k1,k2,k3,k4⟩:=stB.apart hk hn;obtain ⟨k5,k6,k7,k8⟩:=stC.apart (g:=k) (by simpa using k4) k3;refine ⟨?_,fun o=>(tE.new k k8 k7 o).trans ((k6 o).trans (k2 o)),ntE k k7⟩;rw[<-hW3',World.putObj_heap_other hkl,k5,World.putObj_heap_other hkl,k1]);have hsz:wA.heap.size<=W3.heap.size:=(by rw[<-hW3'];have h1:=stB.size;have h2:=stC.size;simp at h2 ⊢;omega);have hjn:J rest hE ρI W3:=by
     refine ⟨plN fl' ρD,H3,if jump.isNone then LoopState.ready else .done,jump,sE3,hKx _ hK,rE,?_,fun i g S e=>?_,by rw[<-hW3'];exact World.putObj_heap_same l8,ntE l l7,j8,hKa H3 hK,?_,j11,?_,fun k hk=>?_⟩
     ·cases b with
      | true=>exact j4
      | false=>simp only[okT] at j4;rw[j4];trivial
     ·exact (far g (sA.dom i g S e).1 (j5 i g S e) (fun ek=>j8 i S (ek▸e))).2.2
     ·rw[<-hW3'];exact ((((j10.go stB.n).put hl1 _).go stC.n).go tE.n |>.fewer (fun i x e=>cY)).put hl1 _
     ·rcases j12 with j12 | ⟨m1,m2,m3⟩
      ·exact .inl j12
      rcases hmk with hmk | ⟨_,_,_,hne⟩
      ·exact .inl hmk
      obtain ⟨k1,_,k3⟩:=far w.heap.size (Aes.1 m1).1 m2 hne;exact .inr ⟨k1.trans m1,k3,m3⟩
     obtain ⟨x,x1,x2⟩:=j13 k hk;refine ⟨x,?_,x2⟩;have hfk:=hk.keep g4;have:plN fl' ρD k=ρD k:=by simp[plN,hfk]
     rw[this];exact stC.rmono k x (stB.rmono k x x1)
    refine ⟨sE3.prom,fun k ds e=>?_,fun i b' e=>?_,fun i g S e=>⟨by have:=(sA.dom i g S e).1;omega,?_⟩,?_⟩;·obtain ⟨vs,p1,p2⟩:=sA.glob k ds e;have hle:hA.le hE:=Held.le_trans stB.mono (Held.le_trans stC.mono tE.mono);exact ⟨vs,fun j x e=>hle _ _ _ (p1 j x e),fun j x e=>(p2 j x e).mono hle⟩
    ·by_cases hi:i=0;·subst hi;simp[Am] at e;subst e;exact ⟨rfl,hJc,hjn⟩
     simp[Am,hi] at e;have hb:=sA.blk i b' e;refine hb.other (fun J' t' e'=>by subst e';exact hi hb.1) (Held.le_trans stB.mono (Held.le_trans stC.mono tE.mono)) (fun g S e2=>?_);obtain ⟨k1,k2,_⟩:=far g (sA.dom i g S e2).1 (j5 i g S e2) (fun ek=>j8 i S (ek▸e2));exact ⟨k1,k2⟩
    ·obtain ⟨_,b',hb'⟩:=sA.dom i g S e;by_cases hi:i=0;·subst hi;exact ⟨_,by simp[Am];rfl⟩
     exact ⟨b',by simp[Am,hi,hb']⟩
    intro i k g S S' u1 u2 v1 v2;have lv:∀ i,BC (Am Hy [(0,.ext J rest)]) i->BC Hy i:=by
     rintro i ⟨b',p1,p2⟩;by_cases hi:i=0;·subst hi;exact ⟨_,hy0,lC⟩
     exact ⟨b',by simpa[Am,hi] using p1,p2⟩
    exact sA.inj i k g S S' u1 u2 (lv i v1) (lv k v2)
   have hrest:b=false->rest=[]:=fun hb=>by subst hb;simpa[okT] using j4
   cases e with
   | normal =>obtain ⟨hb,hq2⟩:=hq2;exact finish none (I rest) hq2 (fun H3 hK=>(hIl _ _ hK).2) (by rw[hb];rfl) (fun H3 hK=>.inl ⟨rfl,rfl,hK⟩)
   | ret =>obtain ⟨hb,hq2⟩:=hq2;exact finish (some .ret) (Ix .ret) hq2 (hIx _) (by rw[hb];rfl) (fun H3 hK=>.inr ⟨hrest hb,_,rfl,rfl,hK⟩)
   | exit id =>obtain ⟨hb,hq2⟩:=hq2;exact finish (some (.exit id)) (Ix (.exit id)) hq2 (hIx _) (by rw[hb];rfl) (fun H3 hK=>.inr ⟨hrest hb,_,rfl,rfl,hK⟩)
   | _=>exact hq2.elim
  | _=>exact hq.elim
 have nl:nt (plN fl ρ) l:=fun i S e=>by obtain ⟨j,_,hj⟩:=Fz e;have:=(q1.dom j l S hj).1;omega
 have nl':nt (shP 1 (fun k=>(L[k]?).bind ρ)) l:=fun i S e=>by obtain ⟨j,b,_,_,hb⟩:=hplI i l S e;have:=(q1.dom b l S hb).1;omega
 have hj0:J todo h1 (shP 1 (fun k=>(L[k]?).bind ρ)) W1:=by
  refine ⟨plN fl ρ,H20,.ready,none,sv,(hIl _ _ hI0).2,rv,hT.ok,fun i g S e i' S' e'=>?_,hWl,nl,nl',.inl ⟨rfl,rfl,hI0⟩,?_,fun i g S e=>?_,?_,fun k hk=>?_⟩;·obtain ⟨j,b,_,hb,hρ⟩:=hplI i g S e;obtain ⟨j',hj',hρ'⟩:=Fz e';have hm:=f3 j' (Agu.2 ⟨some j',Aer hj',rfl⟩);have:=sF.inj b j' g S S' hρ hρ' (liveL b (Aer hb)) (liveF j' hm.2);subst this;exact hm.1 (Aer hb)
  ·have r0:RB w h ρ h ρ w:=⟨rfl,rfl,rfl,Aex _,fun _ _ _=>rfl,Held.le_refl _,fun _ _ _ _=>rfl,fun i g S e=>.inl ⟨i,S,e⟩⟩;exact ((r0.go hst1.n).go t1.n).fewer (fun i x e=>cY)
  ·obtain ⟨j,b,_,_,hρ⟩:=hplI i g S e;exact .inl ⟨b,S,hρ⟩
  ·rcases hmk with hmk | ⟨_,_,hm,_⟩
   ·exact .inl hmk
   refine .inr ⟨hm,fun i S e=>?_,fun i S e=>?_⟩;·obtain ⟨j,_,hj⟩:=Fz e;have:=(q1.dom j _ S hj).1;omega
   obtain ⟨j,b,_,_,hb⟩:=hplI i _ S e;have:=(q1.dom b _ S hb).1;omega
  obtain ⟨x,hx⟩:=hk.place rv;exact ⟨x,hx,hx⟩
 refine ⟨l,mark,W1,{target:=.fn (.func gf) lb,args:=#[.func (.yield l) #[] #[]]},W1,gf,#[.func (.yield l) #[] #[]]++lb,W1,hent,?_,fun _ _=>trivial,?_,fun h=>jq,?_⟩;·simp only[resolve,hgv];simp[go_sem]
 ·simp only[invoke];simpa using R8 (P:=P) (hC l J todo hY hT).1 (#[.func (.yield l) #[] #[]]++lb) W1
 have behind:∀ (h':Held) (ρ2:Place) (w2:World) (H2:List Ae),Sim G h' ρ2 (hp H2) w2->DG H2=true->SR h' ρ2 a.tmps s2->RB w h ρ h' ρ2 w2->(∃ rc,w2.heap[l]?=some (.loop rc))->nt ρ2 l ->
   (mark=[]\/(w2.heap[w.heap.size]?=some (.deferred (some []))/\nt ρ2 w.heap.size))->(∀ k,Pin s2 k->∃ x,ρ2 k=some x/\plN fl ρ k=some x)->∀ o,At false r G h0 ρ0 w0 (YA pins (renL (H.length+·) s2)) (hp (YB pins (deads H.length++H2.map (renB (H.length+·))))) {a with defers:=mark++a.defers} (w2.putObj l o):=by
  rintro h' ρ2 w2 H2 k1 k2 k3 k4 ⟨rc,k5⟩ k6 k7 kp o;have k8:=k1.putU k2 k5 k6 o;have k9:=k4.put hl1 o;have hpk:∀ q,q∈pins->(deads H.length++H2.map (renB (H.length+·)))[q.1]?=some .dead/\q.1<q.2/\(fun i=>if i<H.length then ρ i else ρ2 (i-H.length)) q.1=(fun i=>if i<H.length then ρ i else ρ2 (i-H.length)) q.2/\∀ q',q'∈pins->q'.1<q.2:=fun q hq=>by
   obtain ⟨k,e1,e2,e3,e4⟩:=hpin.2 q hq;obtain ⟨x,x1,x2⟩:=kp k e4;refine ⟨?_,lA,?_,fun q' hq'=>?_⟩;·rw[Aen (by simp[deads];exact e2)];simp[deads,e2]
   ·simp only[e1,e2,if_true,show ¬H.length+k<H.length by omega,if_false,show H.length+k-H.length=k by omega];rw[x1,<-x2];simp[plN,e3]
   obtain ⟨k',_,e2',_⟩:=hpin.2 q' hq';omega
  refine ⟨h',_,(q1.behind k9.size k8).pins hpin.1 hpk,SR.pins (k3.ren (fun b x e=>?_)) (fun q hq=>(hpk q hq).2.2.1),?_⟩;·simp only[show ¬H.length+b<H.length by omega,if_false,show H.length+b-H.length=b by omega];exact e
  have st:A6 h ρ w h' (fun i=>if i<H.length then ρ i else ρ2 (i-H.length)) (w2.putObj l o):=by
   refine ⟨k9.os,k9.tape,k9.output,k9.size,k9.keep,k9.mono,k9.new,fun i x e=>?_,fun i g S e=>?_⟩;·obtain ⟨_,b,hb⟩:=q1.dom i x.1 x.2 e;have:i<H.length:=(AbY.1 hb).1;simp only[this,if_true];exact e
   by_cases hi:i<H.length;·simp only[hi,if_true] at e;exact .inl ⟨i,S,e⟩
   simp only[hi,if_false] at e;exact k9.pl _ g S e
  have f0:=q4.go st.y;rcases hmk with rfl | ⟨rfl,rfl,_,hne⟩
  ·exact f0
  rcases k7 with k7 | ⟨m1,m2⟩
  ·cases k7
  refine ⟨f0.step,fun e=>lh,?_,?_,fun l' e=>lh,f0.record⟩;·simp only[List.cons_append,List.nil_append,List.map_cons,AgL];refine ⟨fun t ht=>?_,f0.nodup⟩;obtain ⟨d,hd,rfl⟩:=AgV.1 ht;obtain ⟨D',e,e1,_⟩:=q4.mark d hd;have:=(Aes.1 e1).1;rw[e];intro ek;cases ek;omega
  intro d hd;rcases Agx.1 hd with rfl | hd
  ·refine ⟨w.heap.size,rfl,(World.putObj_heap_other hne).trans m1,(q4.step rfl).size,fun i S e=>?_⟩;by_cases hi:i<H.length;·simp only[hi,if_true] at e;have:=(q1.dom i _ S e).1;omega
   simp only[hi,if_false] at e;exact m2 _ S e
  exact f0.mark d hd
 have rl:RL h1 (shP 1 (fun k=>(L[k]?).bind ρ)) (#[.func (.yield l) #[] #[]]++lb) (.fn (.yield l) [] []::renL (·+1) caps'):=by
  refine RL.append (x:=[.fn (.yield l) [] []]) ⟨rfl,fun i v x hv hx=>?_⟩ ?_
  ·cases i with
   | zero=>simp at hv hx;subst hv;subst hx;exact .fn _ #[] #[] [] [] rfl rfl lC lC
   | succ i=>simp at hx
  rw[Dp];refine ⟨by simpa using rI.1,fun i v x hv hx=>?_⟩;simp only[Aeg] at hx;cases hc:caps'[i]? with
  | none=>simp[hc] at hx
  | some y=>simp[hc] at hx;subst hx;exact (rI.2 i v y hv hc).ren (fun b x e=>iT)
 have cc:=(hC l J todo hY hT).2 h1 (shP 1 (fun k=>(L[k]?).bind ρ)) W1 (#[.func (.yield l) #[] #[]]++lb) (sI.cons hHIx hJc hj0) rl;refine JK.2 (Calls.mono cc ?_);rintro e w2 ⟨v,h',ρ',rfl,sE⟩;have hjj:J [] h' ρ' w2:=(sE.blk 0 (.ext J []) rfl).2.2;clear cc;obtain ⟨ρ2,H2,sta,pe,j1,j2,j3,j4,j5,j6,j7,j8,j9,j10,j11,j12,j13⟩:=hjj;have hm:mark=[]\/(w2.heap[w.heap.size]?=some (.deferred (some []))/\nt ρ2 w.heap.size):=j12.imp id (fun ⟨m1,m2,_⟩=>⟨m1,m2⟩);have hb:=behind h' ρ2 w2 H2 j1 j2 j3 j10 ⟨_,j6⟩ j7 hm j13;rcases j9 with ⟨e1,e2,hI⟩ | ⟨_,c,e1,e2,hI⟩
 ·have:=run_endLoop (P:=P) j6 (by rw[e1];simp[rec_]);refine ⟨pe,_,this,?_⟩;rw[e2];exact ⟨_,_,hend H2 hI,hb _⟩
 have:=run_endLoop (P:=P) j6 (by rw[e1];simp[rec_]);refine ⟨pe,_,this,?_⟩;rw[e2];have hq:=hjmp c H2 hI;cases c with
 | ret=>exact wpIn_ret ⟨_,_,hq,hb _⟩
 | exit i=>exact wpIn_exit ⟨_,_,hq,hb _⟩
 | _=>exact hq.elim
end
section
variable {y:Bool} {r:Option Nat} {P:Program} {G:Ah} {M:B8} {p:Nat}
def Tri.of_awp' (hm:P.follows .mixedOrders=true):∀ (c:Code) (r:Option Nat) (p:Nat) (Q:Az) (s:List AV) (H:List Ae),E5 P G M p c Q s H->Tri (M 3000000) r P G p c Q s H
 | .skip,r,p,Q,s,H,h=>.skip h
 | .region id ops draw,r,p,Q,s,H,h=>.region hm h
 | .seq a b,r,p,Q,s,H,h=>.seq ((Tri.of_awp' hm a r p _ s H h).mono fun e s H q=>by
   cases e with
   | normal=>exact Tri.of_awp' hm b r p Q s H q
   | _=>exact q)
 | .cond c a b,r,p,Q,s,H,h=>by
   simp only[E5] at h;split at h;·rename_i t hc;exact .cond hc (fun ht=>Tri.of_awp' hm a r p Q s H (h.1 ht)) (fun ht=>Tri.of_awp' hm b r p Q s H (h.2 ht))
   exact h.elim
 | .block id c,r,p,Q,s,H,h=>.block (Tri.of_awp' hm c r p _ s H h)
 | .loop c,r,p,Q,s,H,h=>by obtain ⟨bb,Q',I,h0,h1,h2⟩:=h;exact Tri.relax h0 (.loop I h1 fun n s H hI=>Tri.of_awp' hm c r p _ s H (h2 n s H hI))
 | .exit id,r,p,Q,s,H,h=>.exit h
 | .scope c,r,p,Q,s,H,h=>.scope (Tri.of_awp' hm c r p _ s H h)
 | .label l,r,p,Q,s,H,h=>.label h
 | .ret,r,p,Q,s,H,h=>.ret h
 | .goto _,_,_,_,_,_,h=>h.elim
 | .rangeFunc g ps a b,r,p,Q,s,H,h=>by
   obtain ⟨hM,h⟩:=h;rw[hM];have tA:∀ (n:Nat) (Q:Az) (s:List AV) (H:List Ae),E5 P G M n a Q s H->∀ l,Tri false (some l) P G n a Q s H:=fun n Q s H q l=>by have:=Tri.of_awp' hm a (some l) n Q s H q;rwa[hM] at this
   have tB:∀ (n:Nat) (Q:Az) (s:List AV) (H:List Ae),E5 P G M n b Q s H->∀ l,Tri false (some l) P G n b Q s H:=fun n Q s H q l=>by have:=Tri.of_awp' hm b (some l) n Q s H q;rwa[hM] at this
   refine Tri.range ?_;obtain ⟨gf,caps,caps',HI,xs,todo,pt,e1,e0,e2,e3,e4,e5,hC,hT,fl,s2,H20,I,Ix,pins,hpin,f2,f3,f4,f5,hI0,hIl,hIx,hrnd,hend,hjmp⟩:=h;refine ⟨gf,caps,caps',HI,xs,todo,pt,e1,e0,e2,e3,e4,e5,hC,hT,fl,s2,H20,I,Ix,pins,hpin,f2,f3,f4,f5,hI0,hIl,hIx,fun x b t H2 hI l=>?_,hend,hjmp⟩;refine (tA _ _ _ _ (hrnd x b t H2 hI) l).mono fun e s H q=>?_;cases e with
   | normal=>exact ⟨q.1,fun l=>tB _ _ _ _ q.2 l⟩
   | _=>exact q
 | .refuse _,_,_,_,_,_,h=>h.elim
def Tri.of_awp (hm:P.follows .mixedOrders=true) (c:Code) (Q:Az) (s:List AV) (H:List Ae) (h:E5 P G M p c Q s H):Tri (M 3000000) r P G p c Q s H:=Tri.of_awp' hm c r p Q s H h
def resV (P:Program) (s:List AV) (H:List Ae):ResultVar->Option AV
 | .tmp t=>some (s.getD t .undef)
 | .cell a t=>match s.getD a .undef with
   | .ptr b off=>match H[b]?,AZ P t with
     | some (.box cs),some ti=>if off+(if Cg ti.k then ti.size else 1)<=cs.length then some (mkA ti off cs) else none
     | _,_=>none
   | _=>none
def resVs (P:Program) (s:List AV) (H:List Ae):List ResultVar->Option (List AV)
 | []=>some []
 | x::r=>match resV P s H x,resVs P s H r with
   | some y,some l=>some (y::l)
   | _,_=>none
def AP:List AV->AV
 | [x]=>x
 | l=>.tup l
def WO (P:Program) (rs:Array ResultVar) (p:Nat) (s:List AV) (H:List Ae) (res:AV) (H':List Ae):Prop :=
 match resVs P s H rs.toList with
 | some vs=>∃ fl:List (Option Nat),fl.take p=(AeB p).map some/\(fl.filterMap id).Nodup/\Bc fl H fl H' /\
   (Ap fl (AP vs) res\/∃ d,sealA H (AP vs)=some d/\res=.d (unf d)/\(fl.filterMap id).all (fun j=>!(AY (AP vs)).contains j)=true)
 | none=>False
def Vg (P:Program) (rs:Array ResultVar) (p:Nat) (s:List AV) (H:List Ae) (res:AV) (H':List Ae):Prop :=
 (WO P rs p s H res H'\/match resVs P s H rs.toList with
 | some vs=>∃ d,sealA H (AP vs)=some d/\wOK H.length (frz H (AY (AP vs)))=true/\res=.d (unf d)/\H'=applyW H (frz H (AY (AP vs)))
 | none=>False)\/match resVs P s H rs.toList with
 | some vs=>H'=H/\(res=AP vs\/∃ d,sealA H (AP vs)=some d/\AY (AP vs)=[]/\res=.d (unf d))
 | none=>False
def IW (P:Program) (rs:Array ResultVar) (p:Nat) (res:AV) (H':List Ae):Az
 | .ret,s,H=>WO P rs p s H res H'
 | .normal,s,H=>WO P rs p s H res H'
 | _,_,_=>False
def Gu (P:Program) (rs:Array ResultVar) (p:Nat) (res:AV) (H':List Ae):Az
 | .ret,s,H=>Vg P rs p s H res H'
 | .normal,s,H=>Vg P rs p s H res H'
 | _,_,_=>False
def Acq (tmps:Array Value):ResultVar->Sem Value
 | .tmp t=>pure (tmps.getD t undef)
 | .cell a t=>do loadVar t (<-asAddr (tmps.getD a undef))
def VR (fn:Func) (tmps:Array Value):results fn tmps=(fn.results.mapM (Acq tmps) >>= fun vs=>pure (if h:vs.size=1 then vs[0] else .tuple vs)):=rfl
def TH {fn:Func} {a:Act} {w w2:World} {h:Held} {ρ:Place} {s:List AV} {H:List Ae} (hs:Sim G h ρ (hp H) w) (hr:SR h ρ a.tmps s) (hw2:∀ i g S,ρ i=some (g,S)->w2.heap[g]?=w.heap[g]?) {vs:List AV} (hv:resVs P s H fn.results.toList=some vs) :
  ∃ v,(results fn a.tmps).run P w2=.ok v w2/\R h ρ v (AP vs):=by
 have slot:∀ t,R h ρ (a.tmps.getD t undef) (s.getD t .undef):=fun t=>Iq (a:=a) hs hr (.tmp t)
 have key:∀ (rs:List ResultVar) (vs:List AV),resVs P s H rs=some vs->∃ us:List Value,(rs.mapM (Acq a.tmps)).run P w2=.ok us w2/\us.length=vs.length /\
   ∀ (i:Nat) u y,us[i]?=some u->vs[i]?=some y->R h ρ u y:=by
  intro rs;induction rs with
  | nil=>intro vs e;simp[resVs] at e;subst e;exact ⟨[],lC,rfl,lC⟩
  | cons x r ih =>
   intro vs e;simp only[resVs] at e;split at e
   ·rename_i y l hy hl;cases e;obtain ⟨us,q1,q2,q3⟩:=ih l hl;have hone:∃ u,(Acq a.tmps x).run P w2=.ok u w2/\R h ρ u y:=by
     cases x with
     | tmp t=>simp only[resV,Option.some.injEq] at hy;subst hy;exact ⟨_,rfl,slot t⟩
     | cell c t =>
      simp only[resV] at hy;split at hy
      ·rename_i b off hc;split at hy
       ·rename_i cs ti hb ht;by_cases hlen:off+(if Cg ti.k then ti.size else 1)<=cs.length
        ·rw[if_pos hlen] at hy;simp only[Option.some.injEq] at hy;subst hy;obtain ⟨g,S,e1,e2⟩:=(hc▸slot c).ptr_inv;obtain ⟨g',S',cc,E,fr,b1,b2,b3,b4,b5,b6,b7⟩:=hs.blk b (.box cs) hb;rw[e2] at b1;cases b1;have hlen':∀ j,j<cs.length->cc[j]?=some (cc.getD j undef):=fun j hj=>by
          have:j<cc.size:=lA
          simp[Agp this]
         have hrun:=LQ ht w2 g off (fun j=>cc.getD (off+j) undef) (fun j hj=>by rw[EI ((hw2 _ _ _ e2).trans b2)];exact hlen' _ lA);refine ⟨_,by simp only[Acq,e1,asAddr,Sem.run_bind,Sem.run_pure,Result.andThen_ok];exact hrun,AaM (c:=fun j=>cc.getD j undef) hlen (fun j y hy=>?_)⟩;exact b6 j y _ hy (hlen' j (AbY.1 hy).1)
        rw[if_neg hlen] at hy;cases hy
       cases hy
      cases hy
    obtain ⟨u,hu,hR⟩:=hone;refine ⟨u::us,?_,kM,fun i u' y' hu' hy'=>?_⟩;·simp only[List.mapM_cons,Sem.run_bind,hu,Result.andThen_ok,q1,Sem.run_pure]
    cases i with
    | zero=>simp at hu' hy';subst hu';subst hy';exact hR
    | succ i=>exact q3 i u' y' (by simpa using hu') (by simpa using hy')
   cases e
 obtain ⟨us,q1,q2,q3⟩:=key _ vs hv;refine ⟨if hs:us.toArray.size=1 then us.toArray[0] else .tuple us.toArray,?_,?_⟩;·rw[VR,Array.mapM_eq_mapM_toList,Sem.run_bind,Sem.run_map,q1];rfl
 match us,vs,q2,q3 with
 | [u],[y],_,q3=>exact q3 0 u y rfl rfl
 | [],[],_,_=>exact .tup #[] [] rfl lC
 | u::u'::us,y::y'::vs,q2,q3 =>
  have:¬((u::u'::us).toArray.size=1):=lC
  simp only[this,dite_false,AP];exact .tup _ _ (by simpa using q2) (fun i v x hv hx=>q3 i v x iG hx)
def shut:List Deferred->World->World
 | [],w=>w
 | d::ds,w=>shut ds (match d.target with | .collected D=>w.putObj D (.deferred none) | _=>w)
def Nt:∀ (ds:List Deferred) (w:World),(shut ds w).os=w.os/\(shut ds w).tape=w.tape/\(shut ds w).output=w.output/\(shut ds w).heap.size=w.heap.size /\
  ∀ k,(∀ d,d∈ds->d.target≠.collected k)->(shut ds w).heap[k]?=w.heap[k]?
 | [],w=>⟨rfl,rfl,rfl,rfl,fun _ _=>rfl⟩
 | d::ds,w=>by
   obtain ⟨q1,q2,q3,q4,q5⟩:=Nt ds (match d.target with | .collected D=>w.putObj D (.deferred none) | _=>w);unfold shut;refine ⟨q1.trans ?_,q2.trans ?_,q3.trans ?_,q4.trans ?_,fun k hk=>(q5 k (fun d hd=>hk d (Aev _ hd))).trans ?_⟩;·split<;>rfl
   ·split<;>rfl
   ·split<;>rfl
   ·split<;>simp
   split;·rename_i D e;exact World.putObj_heap_other (fun e'=>hk d lC (by rw[e,e']))
   rfl
def Ks {F:Fence} {n:Nat} {fn:Func} {tmps:Array Value} {R:Ending->World->Prop}:∀ (ds:List Deferred) (w:World),(ds.map (·.target)).Pairwise (·≠·) ->
  (∀ d,d∈ds->∃ D,d={target:=.collected D,args:=#[]}/\w.heap[D]?=some (.deferred (some [])))->LeavesInM F n P fn tmps R [] .returning (shut ds w)->LeavesInM F n P fn tmps R ds .returning w
 | [],w,_,_,h=>h
 | d::ds,w,hn,hm,h=>by obtain ⟨D,rfl,hD⟩:=hm d lC;simp only[List.map_cons,AgL] at hn;refine ⟨lC,.inl ⟨D,_,rfl,run_takeDeferred hD,?_⟩⟩;refine Ks ds _ hn.2 (fun d' hd'=>?_) h;obtain ⟨D',e,h'⟩:=hm d' (by simp[hd']);refine ⟨D',e,(World.putObj_heap_other (fun e'=>?_)).trans h'⟩;have:=hn.1 d'.target (Aew hd');rw[e,e'] at this;exact this rfl
def Mg {f:FuncId} {fn:Func} {c:Code} (hf:P.funcs[f]?=some fn) (hb:fn.body=some c) {args:List AV} {H:List Ae} {res:AV} {H':List Ae} (hx:y=false->DG H'=true) (hpp:y=false->p=H.length)
  (h:Tri y none P G p c (Gu P fn.results p res H') (args++Aet (fn.ntmps-args.length) .undef) H)
  (hh:Held) (ρ:Place) (w:World) (vs:Array Value) (hs:Sim G hh ρ (hp H) w) (hvs:RL hh ρ vs args):Calls P f vs w (fun e w'=>∃ v h' ρ',e=.returned v/\Sim G h' ρ' (hp H') w'/\R h' ρ' v res/\(y=false->A6 hh ρ w h' ρ' w')):=by
 refine (JK (r:=none) (n:=0)).1 (callsIn_of_wp_marks hf hb trivial ?_);have hp0:y=false->∀ i x,ρ i=some x->i<p:=fun hy i x e=>by rw[hpp hy];obtain ⟨_,b,hb⟩:=hs.dom i x.1 x.2 e;exact (AbY.1 hb).1
 have hfrm:Frm y none hh ρ w [] hh ρ w:=by
  cases y with
  | true=>exact Frm.startY _ _ _
  | false=>exact Frm.start _ _ _
 have hat:At y none G hh ρ w (args++Aet (fn.ntmps-args.length) .undef) (hp H) {tmps:=vs++Array.replicate (fn.ntmps-vs.size) undef,defers:=[]} w:=by
  refine ⟨hh,ρ,hs,?_,hfrm⟩;have hl:=hvs.1;rw[hl];exact RL.append (x:=args) hvs ⟨lC,fun i v x hv hx=>by
   simp only[List.getElem?_replicate] at hx;split at hx;·cases hx;exact .undef _
   cases hx⟩
 refine wpIn_mono (h hh ρ w hp0 _ w hat) ?_;have fin:∀ s H1 a w',Vg P fn.results p s H1 res H'->At y none G hh ρ w s (hp H1) a w'->LeavesInM (fR none) 0 P fn a.tmps (fun e w'=>∃ v h' ρ',e=.returned v/\Sim G h' ρ' (hp H') w'/\R h' ρ' v res/\(y=false->A6 hh ρ w h' ρ' w')) a.defers .returning w':=by
  intro s H1 a w' hk hat;have hvs:∃ vs,resVs P s H1 fn.results.toList=some vs/\((∃ fl:List (Option Nat),fl.take p=(AeB p).map some/\(fl.filterMap id).Nodup/\Bc fl H1 fl H' /\
   (Ap fl (AP vs) res\/∃ d,sealA H1 (AP vs)=some d/\res=.d (unf d)/\(fl.filterMap id).all (fun j=>!(AY (AP vs)).contains j)=true)) \/
    (H'=H1/\(res=AP vs\/∃ d,sealA H1 (AP vs)=some d/\AY (AP vs)=[]/\res=.d (unf d))) \/
     ∃ d,sealA H1 (AP vs)=some d/\wOK H1.length (frz H1 (AY (AP vs)))=true/\res=.d (unf d)/\H'=applyW H1 (frz H1 (AY (AP vs)))):=by
   rcases hk with (hk | hk) | hk
   ·unfold WO at hk;split at hk;·rename_i vs hvs;exact ⟨vs,hvs,.inl hk⟩
    exact hk.elim
   ·split at hk;·rename_i vs hvs;exact ⟨vs,hvs,.inr (.inr hk)⟩
    exact hk.elim
   split at hk;·rename_i vs hvs;exact ⟨vs,hvs,.inr (.inl hk)⟩
   exact hk.elim
  obtain ⟨vs,hvs,hk⟩:=hvs;obtain ⟨h1,ρ1,q1,q2,q4⟩:=hat;obtain ⟨z1,z2,z3,z4,z5⟩:=Nt a.defers w'
  have notmark:∀ (ρ1:Place),(∀ d,d∈a.defers->∃ D,d={target:=.collected D,args:=#[]}/\w'.heap[D]?=some (.deferred (some []))/\w.heap.size<=D/\∀ i S,ρ1 i≠some (D,S)) ->
    ∀ i g S,ρ1 i=some (g,S)->(Abs.shut a.defers w').heap[g]?=w'.heap[g]?:=by
   intro ρ1 hm i g S e;refine z5 g (fun d hd ht=>?_);obtain ⟨D,e1,_,_,e2⟩:=hm d hd;rw[e1] at ht;cases ht;exact e2 i S e
  refine Ks a.defers w' q4.nodup (fun d hd=>by obtain ⟨D,e1,e2,_⟩:=q4.mark d hd;exact ⟨D,e1,e2⟩) ?_;obtain ⟨v,r1,r2⟩:=TH (P:=P) (fn:=fn) (a:=a) q1 q2 (notmark ρ1 q4.mark) hvs;refine ⟨v,r1,v,?_⟩
  have last:∀ h3 ρ3,Sim G h3 ρ3 (hp H') w'->R h3 ρ3 v res->Frm y none hh ρ w a.defers h3 ρ3 w' ->
    ∃ h' ρ',Ending.returned v=.returned v/\Sim G h' ρ' (hp H') (Abs.shut a.defers w')/\R h' ρ' v res/\(y=false->A6 hh ρ w h' ρ' (Abs.shut a.defers w')):=by
   intro h3 ρ3 t1 t2 t3;refine ⟨h3,ρ3,rfl,?_,t2,fun hy=>?_⟩
   ·cases y with
    | true =>rw[(t3.nots rfl).1];exact t1
    | false =>refine t1.shut (hx rfl) z4 (fun k c E fr e=>z5 k (fun d hd ht=>?_)) (notmark ρ3 t3.mark);obtain ⟨D,e1,e2,_⟩:=t3.mark d hd;rw[e1] at ht;cases ht;rw[e2] at e;cases e
   have st:=t3.step hy;refine ⟨z1.trans st.os,z2.trans st.tape,z3.trans st.output,by rw[z4];exact st.size,fun k hk hn=>(z5 k (fun d hd ht=>?_)).trans (st.keep k hk hn),st.mono,st.new,st.rmono,st.rnew⟩;obtain ⟨D,e1,_,e2,_⟩:=t3.mark d hd;rw[e1] at ht;cases ht;omega
  rcases hk with ⟨fl,k1,k2,k3,k4⟩ | ⟨rfl,hk⟩ | ⟨d,k4,kw,rfl,rfl⟩
  rotate_left
  rotate_left
  ·obtain ⟨h2,s2,t2,f2⟩:=B0 H1 (AY (AP vs)) h1 (hp H1) q1 (fun b _=>.inl rfl);have hd:=Ci (r2.mono t2.mono (Place.le_refl _)) k4 f2;exact last h2 ρ1 (by rw[EA _ _ kw];exact s2) (.d _ _ hd.unf) (q4.go t2.y)
  rotate_left
  ·rcases hk with rfl | ⟨d,k4,k5,rfl⟩
   ·exact last h1 ρ1 q1 r2 q4
   have hd:=Ci r2 k4 (fun b hb=>by rw[k5] at hb;cases hb);exact last h1 ρ1 q1 (.d _ _ hd.unf) q4
  rcases k4 with k4 | ⟨d,k4,k5,k6⟩
  ·have:=Na (p:=p) (s:=[AP vs]) (s2:=[res]) (H:=H1) (H2:=H') ⟨fl,k1,k2,⟨k4,trivial⟩,k3⟩ (y:=y) (r:=none) (h0:=hh) (ρ0:=ρ) (w0:=w) hp0 (a:={tmps:=#[v],defers:=a.defers}) (w:=w')
    ⟨h1,ρ1,q1,⟨rfl,fun t v' x hv hx=>by
     cases t with
     | zero=>simp at hv hx;subst hv;subst hx;exact r2
     | succ t=>simp at hx⟩,q4⟩
   obtain ⟨h2,ρ2,u1,u2,u4⟩:=this;exact last h2 ρ2 u1 (u2.2 0 v res rfl rfl) u4
  subst k5;obtain ⟨h2,s2,t2,f2⟩:=B0 H1 (AY (AP vs)) h1 (hp H1) q1 (fun b _=>.inl rfl);have hd:=Ci (r2.mono t2.mono (Place.le_refl _)) k4 f2;have hkeep:∀ j,some j∈fl->Am (hp H1) (frz H1 (AY (AP vs))) j=H1[j]?:=by intro j hj;refine AD _ _ j (fun q hq e=>?_);have hm:=BV hq;rw[e] at hm;have:=AeA.1 k6 j (Agu.2 ⟨some j,hj,rfl⟩);simp[hm] at this
  have hkill:∀ (l:List Nat) (Hx:A9),Sim G h2 ρ1 Hx w'->∃ Hy:A9,Sim G h2 ρ1 Hy w'/\∀ j,j∉l->Hy j=Hx j:=fun l Hx hs=>⟨Hx,hs,fun _ _=>rfl⟩
  let H3:List Ae:=(AeB H1.length).map fun j=>(Am (hp H1) (frz H1 (AY (AP vs))) j).getD .dead
  have hH3:hp H3=Am (hp H1) (frz H1 (AY (AP vs))):=by
   funext j;by_cases hj:j<H1.length
   ·have hex:∃ b,Am (hp H1) (frz H1 (AY (AP vs))) j=some b:=by
     have gen:∀ (l:List Nat) (Hx:A9),(∃ b,Hx j=some b)->∃ b,Am Hx (frz H1 l) j=some b:=by
      intro l;induction l with
      | nil=>intro Hx hx;exact hx
      | cons i r ih =>
       intro Hx hx;simp only[frz];split
       ·rw[Am];refine ih _ ?_;by_cases hji:j=i;·exact ⟨_,by simp[hji];rfl⟩
        simpa[hji] using hx
       exact ih _ hx
     exact gen _ _ ⟨H1[j],AbZ hj⟩
    obtain ⟨b,hb⟩:=hex;rw[hb];simp only[hp,H3,Aeg,Agy hj,Option.map_some,hb,Option.getD_some]
   have h1:Am (hp H1) (frz H1 (AY (AP vs))) j=hp H1 j:=by
    refine AD _ _ j (fun q hq e=>?_);obtain ⟨y,hy⟩:∃ y,H1[q.1]?=some y:=by
     have gen:∀ (l:List Nat),q∈frz H1 l->∃ y,H1[q.1]?=some y:=by
      intro l;induction l with
      | nil=>intro h;simp[frz] at h
      | cons i r ih =>
       intro h;simp only[frz] at h;split at h
       ·rename_i cs hcs;rcases Agx.1 h with rfl | h
        ·exact ⟨_,hcs⟩
        exact ih h
       exact ih h
     exact gen _ hq
    have:=(AbY.1 hy).1;omega
   rw[h1];simp only[hp,H3];rw[Af0 jW,Af0 lA]
  have hw3:Bc fl H3 fl H':=by
   have gen:∀ (l:List (Option Nat)) (l2:List Ae),(∀ j,some j∈l->some j∈fl)->Bc fl H1 l l2->Bc fl H3 l l2:=by
    intro l;induction l with
    | nil=>intro l2 _ h;cases l2 with | nil=>trivial | cons _ _=>simp[Bc] at h
    | cons x r ih =>
     intro l2 hm h;cases l2 with
     | nil=>cases x<;>simp[Bc] at h
     | cons b r2 =>
      cases x with
      | none =>simp only[Bc] at h ⊢;exact ⟨h.1,ih r2 (fun j hj=>hm j kL) h.2⟩
      | some j =>simp only[Bc] at h ⊢;refine ⟨?_,ih r2 (fun j hj=>hm j kL) h.2⟩;have e:H3[j]?=H1[j]?:=(congrFun hH3 j).trans (hkeep j (hm j lC));rw[e];exact h.1
   exact gen fl H' (fun _ h=>h) k3
  have:=Na (p:=p) (s:=[.d d]) (s2:=[.d d]) (H:=H3) (H2:=H') ⟨fl,k1,k2,nC,hw3⟩ (y:=y) (r:=none) (h0:=hh) (ρ0:=ρ) (w0:=w) hp0 (a:={tmps:=#[v],defers:=a.defers}) (w:=w')
   ⟨h2,ρ1,by rw[hH3];exact s2,⟨rfl,fun t v' x hv hx=>by
    cases t with
    | zero=>simp at hv hx;subst hv;subst hx;exact .d _ _ hd
    | succ t=>simp at hx⟩,q4.go t2.y⟩
  obtain ⟨h3,ρ3,u1,u2,u4⟩:=this;exact last h3 ρ3 u1 (by have:=u2.2 0 v _ rfl rfl;cases this with | d _ _ hx=>exact .d _ _ hx.unf) u4
 rintro e a w' ⟨s,H1,q,r⟩;cases e with
 | normal=>exact fin s H1 a w' q r
 | ret=>exact fin s H1 a w' q r
 | _=>exact q.elim
def OC {f:FuncId} {fn:Func} {c:Code} (hf:P.funcs[f]?=some fn) (hb:fn.body=some c) {args:List AV} {H:List Ae} {res:AV} {H':List Ae} (hx:y=false->DG H'=true) (hpp:y=false->p=H.length)
  (h:Tri y none P G p c (IW P fn.results p res H') (args++Aet (fn.ntmps-args.length) .undef) H)
  (hh:Held) (ρ:Place) (w:World) (vs:Array Value) (hs:Sim G hh ρ (hp H) w) (hvs:RL hh ρ vs args):Calls P f vs w (fun e w'=>∃ v h' ρ',e=.returned v/\Sim G h' ρ' (hp H') w'/\R h' ρ' v res/\(y=false->A6 hh ρ w h' ρ' w')) :=
 Mg hf hb hx hpp (h.mono fun e s H q=>by
  cases e with
  | ret=>exact .inl (.inl q)
  | normal=>exact .inl (.inl q)
  | _=>exact q) hh ρ w vs hs hvs
def Ctr.of_body {f:FuncId} {fn:Func} {c:Code} (hf:P.funcs[f]?=some fn) (hb:fn.body=some c) (hg:An P f=true) {args:List AV} {H:List Ae} {res:AV} {H':List Ae} (hx:DG H'=true)
  (h:Tri false none P G H.length c (IW P fn.results H.length res H') (args++Aet (fn.ntmps-args.length) .undef) H):Ctr P G f args H res H' :=
 ⟨hg,fun hh ρ w vs hs hvs=>Calls.mono (OC hf hb (fun _=>hx) (fun _=>rfl) h hh ρ w vs hs hvs) (fun e w' ⟨v,h',ρ',e1,e2,e3,e4⟩=>⟨v,h',ρ',e1,e2,e3,e4 rfl⟩)⟩
def OV.body {f:FuncId} {fn:Func} {c:Code} (hm:P.follows .mixedOrders=true) (hf:P.funcs[f]?=some fn) (hb:fn.body=some c) (hg:An P f=true) {caps:List AV} {HI:List Ae} {xs:List D}
  (h:∀ (l:Nat) (J:List (D × Bool)->Held->Place->World->Prop) (todo:List (D × Bool)),KR P l J->Tdo xs todo ->
   E5 P G M 1 c (IW P fn.results 1 .undef [.ext J []]) (.fn (.yield l) [] []::caps++Aet (fn.ntmps-(caps.length+1)) .undef) (.ext J todo::HI)) (hM:M 3000000=true:=by rfl):OV P G f caps HI xs:=by
 intro l J todo hJ hT;refine ⟨hg,fun hh ρ w vs hs hvs=>?_⟩;have ht:=Tri.of_awp (r:=none) hm c _ _ _ (h l J todo hJ hT);rw[hM] at ht;exact Calls.mono (OC (y:=true) hf hb (fun e=>lh) (fun e=>lh) ht hh ρ w vs hs hvs) (fun e w' ⟨v,h',ρ',e1,e2,_,_⟩=>⟨v,h',ρ',e1,e2⟩)
def PureRet (P:Program) (rs:Array ResultVar) (s:List AV) (H:List Ae) (d:D):Prop :=
 match resVs P s H rs.toList with
 | some vs=>match sealA H (AP vs) with
   | some d'=>unf d'=d
   | none=>False
 | none=>False
def DD (P:Program) (rs:Array ResultVar) (d:D):Az
 | .ret,s,H=>PureRet P rs s H d
 | .normal,s,H=>PureRet P rs s H d
 | _,_,_=>False
def Ctr.pure {f:FuncId} {fn:Func} {c:Code} (hm:P.follows .mixedOrders=true) (hf:P.funcs[f]?=some fn) (hb:fn.body=some c) (hg:An P f=true) {args:List AV} {d:D}
  (h:E5 P G M 0 c (DD P fn.results d) (args++Aet (fn.ntmps-args.length) .undef) []) (hM:M 3000000=false:=by rfl):Ctr P G f args [] (.d d) []:=by
 refine Ctr.of_body hf hb hg rfl (Tri.mono (y:=false) bn ?_);intro e s H q;have fin:PureRet P fn.results s H d->WO P fn.results 0 s H (.d d) []:=by
  intro q;unfold PureRet at q;split at q
  ·rename_i vs hvs;split at q
   ·rename_i d' hd';unfold WO;split;·rename_i vs2 hvs2;rw[hvs] at hvs2;cases hvs2;exact ⟨[],rfl,AgH,trivial,.inr ⟨d',hd',by rw[q],rfl⟩⟩
    rename_i hno;rw[hvs] at hno;cases hno
   exact q.elim
  exact q.elim
 cases e with
 | normal=>exact fin q
 | ret=>exact fin q
 | _=>exact q.elim
def Ctr.body {f:FuncId} {fn:Func} {c:Code} (hm:P.follows .mixedOrders=true) (hf:P.funcs[f]?=some fn) (hb:fn.body=some c) (hg:An P f=true) {args:List AV} {H:List Ae} {res:AV} {H':List Ae}
  (h:E5 P G M H.length c (IW P fn.results H.length res H') (args++Aet (fn.ntmps-args.length) .undef) H) (hM:M 3000000=false:=by rfl) (hx:DG H'=true:=by rfl):Ctr P G f args H res H' :=
 Ctr.of_body hf hb hg hx bn
def Ctr.bodyI {f:FuncId} {fn:Func} {c:Code} (hm:P.follows .mixedOrders=true) (hf:P.funcs[f]?=some fn) (hb:fn.body=some c) (hg:An P f=true) {args:List AV} {H:List Ae} {res:AV} {H':List Ae} (hx:DG H'=true)
  (h:E5 P G M H.length c (Gu P fn.results H.length res H') (args++Aet (fn.ntmps-args.length) .undef) H) (hM:M 3000000=false:=by rfl):Ctr P G f args H res H' :=
 ⟨hg,fun hh ρ w vs hs hvs=>Calls.mono (Mg (y:=false) (p:=H.length) hf hb (fun _=>hx) (fun _=>rfl) bn hh ρ w vs hs hvs) (fun e w' ⟨v,h',ρ',e1,e2,e3,e4⟩=>⟨v,h',ρ',e1,e2,e3,e4 rfl⟩)⟩
def mkS (n:Nat) (l:List (Nat × AV)):List AV:=l.foldl (fun s p=>s.set p.1 p.2) (Aet n .undef)
end
end Go.Abs
namespace Go.Abs
open Go
section
variable {P:Program} {G:Ah} {M:B8} {p:Nat}
def Al (P:Program) (G:Ah) (M:B8) (p:Nat) (c:Code) (Q:Az) (s:List AV) (H:List Ae):Prop:=AdC p (E5 P G M p c) Q s H
def XY (P:Program) (G:Ah) (M:B8) (p:Nat) (c:Code) (Q:Az):Az:=LD (E5 P G M p c Q) Q
def AbO {α:Type} (p:Nat) (n:Nat) (μ:α->Nat) (S:α->List AV) (HH:α->List Ae) (R:α->Prop) (s:List AV) (H:List Ae):Prop :=
 ∃ x,R x/\μ x<n/\DA p s H (S x) (HH x)
def Hm {α:Type} (p:Nat) (n:Nat) (μ:α->Nat) (S:α->List AV) (HH:α->List Ae) (R:α->Prop) (Q:Az):Az:=LD (AbO p n μ S HH R) Q
def awp_skip {Q:Az} {s:List AV} {H:List Ae}:E5 P G M p .skip Q s H=Q .normal s H:=rfl
def awp_seq {a b:Code} {Q:Az} {s:List AV} {H:List Ae}:E5 P G M p (.seq a b) Q s H=E5 P G M p a (XY P G M p b Q) s H:=rfl
def awp_block {i:Nat} {c:Code} {Q:Az} {s:List AV} {H:List Ae}:E5 P G M p (.block i c) Q s H=E5 P G M p c (CN i Q) s H:=rfl
def awp_loop {c:Code} {Q:Az} {s:List AV} {H:List Ae}:E5 P G M p (.loop c) Q s H=Al P G M p c Q s H:=rfl
def awp_exit {i:Nat} {Q:Az} {s:List AV} {H:List Ae}:E5 P G M p (.exit i) Q s H=Q (.exit i) s H:=rfl
def awp_ret {Q:Az} {s:List AV} {H:List Ae}:E5 P G M p .ret Q s H=Q .ret s H:=rfl
def ThenC_normal {c:Code} {Q:Az} {s:List AV} {H:List Ae}:XY P G M p c Q .normal s H=E5 P G M p c Q s H:=rfl
def ThenC_exit {c:Code} {Q:Az} {i:Nat} {s:List AV} {H:List Ae}:XY P G M p c Q (.exit i) s H=Q (.exit i) s H:=rfl
def ThenC_ret {c:Code} {Q:Az} {s:List AV} {H:List Ae}:XY P G M p c Q .ret s H=Q .ret s H:=rfl
def RoundQ_normal {α:Type} {n:Nat} {μ:α->Nat} {S:α->List AV} {HH:α->List Ae} {R:α->Prop} {Q:Az} {s:List AV} {H:List Ae}:Hm p n μ S HH R Q .normal s H=AbO p n μ S HH R s H:=rfl
def RoundQ_exit {α:Type} {n:Nat} {μ:α->Nat} {S:α->List AV} {HH:α->List Ae} {R:α->Prop} {Q:Az} {i:Nat} {s:List AV} {H:List Ae}:Hm p n μ S HH R Q (.exit i) s H=Q (.exit i) s H:=rfl
def RoundQ_ret {α:Type} {n:Nat} {μ:α->Nat} {S:α->List AV} {HH:α->List Ae} {R:α->Prop} {Q:Az} {s:List AV} {H:List Ae}:Hm p n μ S HH R Q .ret s H=Q .ret s H:=rfl
def ablock_normal {i:Nat} {Q:Az} {s:List AV} {H:List Ae}:CN i Q .normal s H=Q .normal s H:=rfl
def ablock_ret {i:Nat} {Q:Az} {s:List AV} {H:List Ae}:CN i Q .ret s H=Q .ret s H:=rfl
def Al.inv {α:Type} (μ:α->Nat) (S:α->List AV) (HH:α->List Ae) (R:α->Prop) {c:Code} {Q:Az} {s:List AV} {H:List Ae} (x0:α) (h0:R x0) (hw:DA p s H (S x0) (HH x0))
  (round:∀ x,R x->E5 P G M p c (Hm p (μ x) μ S HH R Q) (S x) (HH x)):Al P G M p c Q s H:=by
 refine ⟨false,Q,fun n s H=>∃ x,R x/\n=μ x/\s=S x/\H=HH x,fun _ _ _ q=>.inl q,mI,?_⟩;rintro n s H ⟨x,hx,rfl,rfl,rfl⟩;have:=round x hx;have e:Hm p (μ x) μ S HH R Q=LD (Vh false p (μ x) fun n s H=>∃ x,R x/\n=μ x/\s=S x/\H=HH x) Q:=by
  funext e s H;cases e with
  | normal =>
   refine propext ⟨?_,?_⟩;·rintro ⟨y,h1,h2,h3⟩;exact mo
   rintro ⟨_,_,_,h2,h3,y,h1,rfl,rfl,rfl⟩;exact ⟨y,h1,h2,h3⟩
  | _=>rfl
 rw[e] at this;exact this
def AbN {α:Type} (n:Nat) (μ:α->Nat) (S:α->List AV) (HH:α->List Ae) (R:α->Prop) (s:List AV) (H:List Ae):Prop :=
 ∃ x,R x/\μ x<n/\((HH x=H/\Ce s (S x))\/∃ s1,AdA s H s1 (HH x)/\Ce s1 (S x))
def Jc {α:Type} (n:Nat) (μ:α->Nat) (S:α->List AV) (HH:α->List Ae) (R:α->Prop) (Q:Az):Az:=LD (AbN n μ S HH R) Q
def RoundIQ_normal {α:Type} {n:Nat} {μ:α->Nat} {S:α->List AV} {HH:α->List Ae} {R:α->Prop} {Q:Az} {s:List AV} {H:List Ae}:Jc n μ S HH R Q .normal s H=AbN n μ S HH R s H:=rfl
def RoundIQ_exit {α:Type} {n:Nat} {μ:α->Nat} {S:α->List AV} {HH:α->List Ae} {R:α->Prop} {Q:Az} {i:Nat} {s:List AV} {H:List Ae}:Jc n μ S HH R Q (.exit i) s H=Q (.exit i) s H:=rfl
def RoundIQ_ret {α:Type} {n:Nat} {μ:α->Nat} {S:α->List AV} {HH:α->List Ae} {R:α->Prop} {Q:Az} {s:List AV} {H:List Ae}:Jc n μ S HH R Q .ret s H=Q .ret s H:=rfl
def Al.invI {α:Type} (μ:α->Nat) (S:α->List AV) (HH:α->List Ae) (R:α->Prop) {c:Code} {Q:Az} {s:List AV} {H:List Ae} (x0:α) (h0:R x0) (hw:ES p s H (S x0) (HH x0))
  (round:∀ x,R x->E5 P G M p c (Jc (μ x) μ S HH R Q) (S x) (HH x)):Al P G M p c Q s H:=by
 refine ⟨true,Q,fun n s H=>∃ x,R x/\n=μ x/\s=S x/\H=HH x,fun _ _ _ q=>.inl q,⟨_,_,_,hw,x0,h0,rfl,rfl,rfl⟩,?_⟩;rintro n s H ⟨x,hx,rfl,rfl,rfl⟩;have:=round x hx;have e:Jc (μ x) μ S HH R Q=LD (Vh true p (μ x) fun n s H=>∃ x,R x/\n=μ x/\s=S x/\H=HH x) Q:=by
  funext e s H;cases e with
  | normal =>
   refine propext ⟨?_,?_⟩;·rintro ⟨y,h1,h2,h3⟩;exact mo
   rintro ⟨_,_,_,h2,h3,y,h1,rfl,rfl,rfl⟩;exact ⟨y,h1,h2,h3⟩
  | _=>rfl
 rw[e] at this;exact this
def CutC {β:Type} (p:Nat) (SE:β->List AV) (HE:β->List Ae) (E:β->Prop) (s:List AV) (H:List Ae):Prop:=∃ y,E y/\DA p s H (SE y) (HE y)
def WT {β:Type} (p:Nat) (SE:β->List AV) (HE:β->List Ae) (E:β->Prop) (Q:Az):Az:=LD (CutC p SE HE E) Q
def CutQ_normal {β:Type} {SE:β->List AV} {HE:β->List Ae} {E:β->Prop} {Q:Az} {s:List AV} {H:List Ae}:WT p SE HE E Q .normal s H=CutC p SE HE E s H:=rfl
def Al.cut {α β:Type} (μ:α->Nat) (S:α->List AV) (HH:α->List Ae) (R:α->Prop) (SE:β->List AV) (HE:β->List Ae) (E:β->Prop) {c:Code} {id:Nat} {Q:Az} {s:List AV} {H:List Ae} (x0:α) (h0:R x0) (hw:DA p s H (S x0) (HH x0))
  (round:∀ x,R x->E5 P G M p c (Hm p (μ x) μ S HH R (CN id (WT p SE HE E Q))) (S x) (HH x)) (rest:∀ y,E y->Q .normal (SE y) (HE y)):Al P G M p c (CN id Q) s H:=by
 have key:∀ s H,WT p SE HE E Q .normal s H->∃ s2 H2,ES p s H s2 H2/\Q .normal s2 H2:=fun s H ⟨y,e1,e2⟩=>⟨_,_,.weak e2,rest y e1⟩;refine ⟨false,CN id (WT p SE HE E Q),fun n s H=>∃ x,R x/\n=μ x/\s=S x/\H=HH x,fun e s H q=>?_,mI,?_⟩
 ·cases e with
  | normal=>exact .inr (key s H q)
  | exit i =>
   by_cases hi:i=id;·simp only[CN,if_pos hi] at q ⊢;exact .inr (key s H q)
   simp only[CN,if_neg hi] at q ⊢;exact .inl q
  | _=>exact .inl q
 rintro n s H ⟨x,hx,rfl,rfl,rfl⟩;have:=round x hx;have e:Hm p (μ x) μ S HH R (CN id (WT p SE HE E Q))=LD (Vh false p (μ x) fun n s H=>∃ x,R x/\n=μ x/\s=S x/\H=HH x) (CN id (WT p SE HE E Q)):=by
  funext e s H;cases e with
  | normal =>
   refine propext ⟨?_,?_⟩;·rintro ⟨y,h1,h2,h3⟩;exact mo
   rintro ⟨_,_,_,h2,h3,y,h1,rfl,rfl,rfl⟩;exact ⟨y,h1,h2,h3⟩
  | _=>rfl
 rw[e] at this;exact this
def DA.pure {s s2:List AV} {H:List Ae} (h:Cx [] s s2):DA 0 s H s2 []:=⟨[],rfl,AgH,h,trivial⟩
section
variable {k:Eff->Prop} {H:List Ae} {x y c:AV} {ev:Operand->AV}
abbrev TR:=List (List Nat × List Nat)
abbrev RK:=List AV->List Ae->TR->Prop
def DK (k:Eff->Prop) (d:D):Prop:=k ⟨.d d,[],[]⟩
def DK_eq {d:D}:DK k d=k ⟨.d d,[],[]⟩:=rfl
def AbC (op:BinOp) (ka:IntKind) (a:Int) (kb:IntKind) (b:Int) (K:D->Prop) (c:Bool):Prop:=if c then K9 op ka a b K else ka=kb/\YS op ka a b K
def binC_t {op:BinOp} {ka kb:IntKind} {a b:Int} {K:D->Prop}:AbC op ka a kb b K true=K9 op ka a b K:=by simp[AbC]
def binC_f {op:BinOp} {ka kb:IntKind} {a b:Int} {K:D->Prop}:AbC op ka a kb b K false=(ka=kb/\YS op ka a b K):=by simp[AbC]
def binK_eq {op:BinOp} {t:Nat}:Ac6 P op t x y k=match x,y with
 | .d (.int ka a),.d (.int kb b)=>AbC op ka a kb b (DK k) (BU op)
 | .d (.str a),.d (.str b)=>Z2 op a b (DK k)
 | .d (.bool a),.d (.bool b)=>M3 P t=true/\match op with
   | .eql=>k ⟨.d (.bool (a == b)),[],[]⟩
   | .neq=>k ⟨.d (.bool (!(a == b))),[],[]⟩
   | _=>False
 | x,y=>WN P op t x y k:=rfl
def OpC (P:Program) (G:Ah) (M:B8) (ops:Array Oper) (rest:List Oper) (s:List AV) (H:List Ae) (tr:TR) (dst:Option Nat) (K:RK) (e:Eff):Prop :=
 wOK H.length e.w=true/\EU P G M ops rest (putA s dst e.res) (applyW H e.w) (tr++[(e.r,e.w.map (·.1))]) K
def OpC_mk {ops:Array Oper} {rest:List Oper} {s:List AV} {tr:TR} {dst:Option Nat} {K:RK} {v:AV} {w:List (Nat × Ae)} {r:List Nat} :
  OpC P G M ops rest s H tr dst K ⟨v,w,r⟩=(wOK H.length w=true/\EU P G M ops rest (putA s dst v) (applyW H w) (tr++[(r,w.map (·.1))]) K):=rfl
def RegE (ops:Array Oper) (d:Bool) (Q:Az):RK:=fun s H tr=>(d=true->Ea ops tr=true)/\Q .normal s H
def awp_region {i:Nat} {l:List Oper} {d:Bool} {Q:Az} {s:List AV}:E5 P G M p (.region i l.toArray d) Q s H=EU P G M l.toArray l s H [] (RegE l.toArray d Q):=rfl
def regK_nil {ops ops':Array Oper} {s:List AV} {tr:TR} {d:Bool} {Q:Az}:EU P G M ops [] s H tr (RegE ops' d Q)=((d=true->Ea ops' tr=true)/\Q .normal s H):=rfl
def L7 (P:Program) (G:Ah) (M:B8) (ops:Array Oper) (o:Oper) (g:Option (Nat × Bool)) (rest:List Oper) (s:List AV) (H:List Ae) (tr:TR) (K:RK):Prop :=
 match g with
 | none=>opK P G M o (evalA G s) H (OpC P G M ops rest s H tr o.dst K)
 | some (j,want)=>match C0 ops j with
   | some t=>match s.getD t .undef with
     | .d (.bool c) =>
      (c=want->opK P G M o (evalA G (s.set t (.d (.bool want)))) H (OpC P G M ops rest (s.set t (.d (.bool want))) H tr o.dst K)) /\
      (c=(!want)->EU P G M ops rest (putA (s.set t (.d (.bool (!want)))) o.dst (.tup [])) H (tr++[([],[])]) K)
     | .tup []=>EU P G M ops rest (putA s o.dst (.tup [])) H (tr++[([],[])]) K
     | _=>False
   | none=>False
def Ed (P:Program) (G:Ah) (M:B8) (ops:Array Oper) (o:Oper) (t:Nat) (want:Bool) (rest:List Oper) (s:List AV) (H:List Ae) (tr:TR) (K:RK) (g:AV):Prop :=
 match g with
 | .d (.bool c) =>
       (c=want->L7 P G M ops o none rest (s.set t (.d (.bool want))) H tr K) /\
       (c=(!want)->EU P G M ops rest (putA (s.set t (.d (.bool (!want)))) o.dst (.tup [])) H (tr++[([],[])]) K)
 | .tup []=>EU P G M ops rest (putA s o.dst (.tup [])) H (tr++[([],[])]) K
 | _=>False
def regK_cons {ops:Array Oper} {o:Oper} {rest:List Oper} {s:List AV} {tr:TR} {K:RK}:EU P G M ops (o::rest) s H tr K=L7 P G M ops o o.guard rest s H tr K:=rfl
def operC_none {ops:Array Oper} {o:Oper} {rest:List Oper} {s:List AV} {tr:TR} {K:RK}:L7 P G M ops o none rest s H tr K=opK P G M o (evalA G s) H (OpC P G M ops rest s H tr o.dst K):=rfl
def operC_some {ops:Array Oper} {o:Oper} {j:Nat} {want:Bool} {rest:List Oper} {s:List AV} {tr:TR} {K:RK}:L7 P G M ops o (some (j,want)) rest s H tr K=match C0 ops j with
  | some t=>Ed P G M ops o t want rest s H tr K (s.getD t .undef)
  | none=>False:=rfl
def GuardC_dead {ops:Array Oper} {o:Oper} {t:Nat} {want:Bool} {rest:List Oper} {s:List AV} {tr:TR} {K:RK}:Ed P G M ops o t want rest s H tr K (.tup [])=EU P G M ops rest (putA s o.dst (.tup [])) H (tr++[([],[])]) K:=rfl
def guardSlot_list {l:List Oper} {j:Nat}:C0 l.toArray j=match l[j]? with
  | some o=>o.dst
  | none=>none:=by simp only[C0,List.getElem?_toArray];cases l[j]?<;>rfl
def mmK_2 {b:Bool} {kk k2:IntKind} {n m:Int}:mmK b [.d (.int kk n),.d (.int k2 m)] k=k ⟨.d (.int kk (if b then (if m > n then m else n) else (if m<n then m else n))),[],[]⟩:=rfl
def Aa (P:Program) (G:Ah) (H:List Ae) (f:FuncId) (ars:List AV) (L ids:List Nat) (HC:List Ae) (k:Eff->Prop):Prop :=
 ∃ res Hn ks,Ctr P G f ars HC res Hn/\L.length<=Hn.length/\Wd H ks (callEff H L ids res Hn)/\k (Q9 ks (callEff H L ids res Hn))
def AdD (P:Program) (G:Ah) (M:B8) (H:List Ae) (f:FuncId) (avs:List AV) (L:List Nat) (k:Eff->Prop):Prop :=
 match passL H L avs,passBs H L L with
 | some ars,some HC=>((sidsL H L avs++sidsBs H L L).all fun b=>!L.contains b)=true/\Aa P G H f (if M f then ars else ars.map unfA) L (sidsL H L avs++sidsBs H L L) HC k
 | _,_=>False
def callK_list {f:FuncId} {avs:List AV}:Aby P G M H f avs k=AdD P G M H f avs (passIds (M f) H avs) k:=rfl
def Aa.pure {f:FuncId} {ars:List AV} {d:D} (h:Ctr P G f ars [] (.d d) []) (hk:k ⟨.d d,[],[]⟩):Aa P G H f ars [] [] [] k:=by
 refine ⟨.d d,[],[],h,Aex _,.inl rfl,?_⟩;rw[I8];unfold callEff;split;·exact hk
 exact hk
def Aa.of {f:FuncId} {ars ars':List AV} {d:D} (h:Ctr P G f ars' [] (.d d) []) (e:ars=ars') (hk:k ⟨.d d,[],[]⟩):Aa P G H f ars [] [] [] k:=.pure (e▸h) hk
def Aa.frozen {f:FuncId} {ars:List AV} {ids:List Nat} {d:D} (h:Ctr P G f ars [] (.d d) []) (hk:k ⟨.d d,if Cb (.d d) then [] else frz H ids,ids⟩):Aa P G H f ars [] ids [] k:=by refine ⟨.d d,[],[],h,Aex _,.inl rfl,?_⟩;rw[I8];unfold callEff;cases e:Cb (.d d)<;>simp[e,outW,renA] at hk ⊢<;>exact hk
end
end
end Go.Abs
namespace Go.Abs
open Go
def wr_i64 {x:Int} (h1:-9223372036854775808<=x) (h2:x<=9223372036854775807):IntKind.i64.wrap x=x:=bt
def wr_u64 {x:Int} (h1:0<=x) (h2:x<=18446744073709551615):IntKind.u64.wrap x=x:=bt
def wr_u32 {x:Int} (h1:0<=x) (h2:x<=4294967295):IntKind.u32.wrap x=x:=bt
def wr_u8 {x:Int} (h1:0<=x) (h2:x<=255):IntKind.u8.wrap x=x:=bt
def c_lt {a b:Int} (h:a<b):(a<b)=True:=eq_true h
def c_le {a b:Int} (h:a<=b):(a<=b)=True:=eq_true h
def c_nlt {a b:Int} (h:¬a<b):(a<b)=False:=eq_false h
def c_nle {a b:Int} (h:¬a<=b):(a<=b)=False:=eq_false h
def n_eq {a b:Nat} (h:a=b):(a=b)=True:=eq_true h
def n_ne {a b:Nat} (h:¬a=b):(a=b)=False:=eq_false h
def c_eqt {a b:Int} (h:a=b):(a=b)=True:=eq_true h
def c_eq {a b:Int} (h:¬a=b):(a=b)=False:=eq_false h
def n_lt {a b:Nat} (h:a<b):(a<b)=True:=eq_true h
def n_le {a b:Nat} (h:a<=b):(a<=b)=True:=eq_true h
def n_nlt {a b:Nat} (h:¬a<b):(a<b)=False:=eq_false h
def UH {a b:Nat}:Int.fdiv (a:Int) (b:Int)=((a / b:Nat):Int):=by rw[AgA _ lA];rfl
def fdiv_pos {a b:Int} (h:0<=b):Int.fdiv a b=a / b:=AgA _ h
def Zn {a b:Int} (h1:0<=a) (h2:a<18446744073709551616) (h3:0<=b) (h4:b<18446744073709551616):CH .or .u64 a b=((a.toNat ||| b.toNat:Nat):Int):=u64_or a b h1 h2 h3 h4
def Ec {a b:Nat} (h2:a<4294967296) (h4:b<4294967296):CH .and .u32 (a:Int) (b:Int)=((a &&& b:Nat):Int):=u32_and_nat a b h2 h4
def DM {a b:Nat} (h2:a<4294967296) (h4:b<4294967296):CH .or .u32 (a:Int) (b:Int)=((a ||| b:Nat):Int):=u32_or_nat a b h2 h4
def IB {a b:Nat} (h2:a<4294967296) (h4:b<4294967296):CH .xor .u32 (a:Int) (b:Int)=((a ^^^ b:Nat):Int):=u32_xor_nat a b h2 h4
def Ar (k:IntKind) (l:List Int):List D:=l.map (.int k)
def ints_take {k:IntKind} {l:List Int} {n:Nat}:(Ar k l).take n=Ar k (l.take n):=by simp[Ar,AgJ]
def ints_set {k:IntKind} {l:List Int} {n:Nat} {v:Int}:(Ar k l).set n (.int k v)=Ar k (l.set n v):=by simp[Ar,AgW]
def ints_length {k:IntKind} {l:List Int}:(Ar k l).length=l.length:=kN
def ints_getD {k:IntKind} {l:List Int} {i:Nat} {d:D} (h:i<l.length):(Ar k l).getD i d=.int k (l.getD i 0):=by simp[Ar,Aeu,Aeg,AbZ h]
def cut_ints {k:IntKind} {l:List Int} {a n:Nat}:cut (Ar k l) a n=Ar k ((l.drop a).take n):=by simp[cut,Ar,AgJ,AgS]
def toNat_cast {n:Nat}:((n:Int)).toNat=n:=Int.toNat_natCast n
def AR (k:IntKind) (l:List Nat):List D:=l.map fun (n:Nat)=>D.int k (n:Int)
def nats_length {k:IntKind} {l:List Nat}:(AR k l).length=l.length:=by simp[AR]
def nats_getD {k:IntKind} {l:List Nat} {i:Nat} {d:D} (h:i<l.length):(AR k l).getD i d=.int k (l.getD i 0:Nat):=by simp[AR,Aeu,Aeg,AbZ h]
def cut_nats {k:IntKind} {l:List Nat} {a n:Nat}:cut (AR k l) a n=AR k ((l.drop a).take n):=by simp[cut,AR,AgJ,AgS]
def nats_set {k:IntKind} {l:List Nat} {n:Nat} {v:Nat}:(AR k l).set n (.int k (v:Int))=AR k (l.set n v):=by simp[AR,AgW]
def nats_push {k:IntKind} {l:List Nat} {v:Nat}:AR k l++[D.int k (v:Int)]=AR k (l++[v]):=by simp[AR]
def zeros_nats {k:IntKind} {n:Nat}:AQ [.int k 0] n=AR k (Aet n 0):=by rw[Nc];simp[AR]
def mx_nat {n m:Nat}:(if ((m:Nat):Int) > ((n:Nat):Int) then (m:Int) else (n:Int))=((max n m:Nat):Int):=by
 by_cases h:m > n;·rw[if_pos lA];omega
 rw[if_neg lA];omega
def cast_add {a b:Nat}:((a:Nat):Int)+((b:Nat):Int)=((a+b:Nat):Int):=rfl
def cast_add1 {a:Nat}:((a:Nat):Int)+1=((a+1:Nat):Int):=rfl
def cast_mul {a b:Nat}:((a:Nat):Int)*((b:Nat):Int)=((a*b:Nat):Int):=rfl
def getD_8 {a0 a1 a2 a3 a4 a5 a6 a7 d:AV} {l:List AV} {i:Nat}:(a0::a1::a2::a3::a4::a5::a6::a7::l).getD (i+8) d=l.getD i d:=rfl
def set_8 {a0 a1 a2 a3 a4 a5 a6 a7 v:AV} {l:List AV} {i:Nat}:(a0::a1::a2::a3::a4::a5::a6::a7::l).set (i+8) v=a0::a1::a2::a3::a4::a5::a6::a7::(l.set i v):=rfl
section
variable {P:Program} {H:List Ae} {x i l c:AV} {k:Eff->Prop}
@[reducible] def Ob (q A:Prop):Prop:=q/\(q->A)
@[congr] theorem Age {q A q' A':Prop} (h1:q=q') (h2:q'->A=A'):Ob q A=Ob q' A':=by subst h1;exact propext ⟨fun h=>⟨h.1,fun x=>h2 x▸h.2 x⟩,fun h=>⟨h.1,fun x=>(h2 x).symm▸h.2 x⟩⟩
def Ob_triv {A:Prop}:Ob A True=A:=by simp[Ob]
def imp3 {A B C:Prop}:(A/\(A->B/\(B->C)))=(A/\B/\C):=propext ⟨fun h=>⟨h.1,(h.2 h.1).1,(h.2 h.1).2 (h.2 h.1).1⟩,fun h=>⟨h.1,fun _=>⟨h.2.1,fun _=>h.2.2⟩⟩⟩
def imp4 {A B C D:Prop}:(A/\(A->B/\(B->C/\(C->D))))=(A/\B/\C/\D) :=
 propext ⟨fun h=>⟨h.1,(h.2 h.1).1,((h.2 h.1).2 (h.2 h.1).1).1,((h.2 h.1).2 (h.2 h.1).1).2 ((h.2 h.1).2 (h.2 h.1).1).1⟩,fun h=>⟨h.1,fun _=>⟨h.2.1,fun _=>⟨h.2.2.1,fun _=>h.2.2.2⟩⟩⟩⟩
def indexAddrK_eq {t:Nat}:G9 P t x i k=match i with
 | .d (.int _ i)=>match Aq P t with
   | some (_,te)=>match x with
     | .lsl b sz off n=>sz=te.size/\Ob (0<=i) (Ob (i<n) (k ⟨.ptr b (off+i.toNat*sz),[],[]⟩))
     | .d (.sl n _ cs)=>Ob (0<=i) (Ob (i<n) (k ⟨.rptr (i.toNat*te.size) cs,[],[]⟩))
     | _=>False
   | none=>match EY P t with
     | some (n,_,sz)=>Ob (0<=i) (Ob (i<n) (match x with
       | .ptr b off=>k ⟨.ptr b (off+i.toNat*sz),[],[]⟩
       | .rptr off cs=>k ⟨.rptr (off+i.toNat*sz) cs,[],[]⟩
       | _=>False))
     | none=>False
 | _=>False:=by
 simp only[Ob,imp3];rfl
def sliceK_eq {ev:Operand->AV} {t:Nat} {x:AV} {lo hi mx:Option Operand}:RZ P H ev t x lo hi mx k=match x with
 | .d (.str s)=>match bnd ev 0 lo,bnd ev s.size hi with
   | some l,some h=>Dy P t=true/\mx.isNone=true/\Ob (0<=l) (Ob (l<=h) (Ob (h<=s.size) (k ⟨.d (.str (s.extract l.toNat h.toNat)),[],[]⟩)))
   | _,_=>False
 | .d (.sl n full cs)=>match Aq P t with
   | some (_,te)=>match mx with
     | none=>match bnd ev 0 lo,bnd ev n hi with
       | some l,some h=>Ob (0<=l) (Ob (l<=h) (Ob (h<=n) (k ⟨.d (.sl (h.toNat-l.toNat) (full && hi.isNone) (cut cs (l.toNat*te.size) ((h.toNat-l.toNat)*te.size))),[],[]⟩)))
       | _,_=>False
     | some m=>match bnd ev 0 lo,bnd ev n hi,bnd ev 0 (some m) with
       | some l,some h,some m=>hi.isSome=true/\0<=l/\l<=h/\h<=m/\m<=n /\
         k ⟨.d (.sl (h.toNat-l.toNat) (decide (h=m)) (cut cs (l.toNat*te.size) ((h.toNat-l.toNat)*te.size))),[],[]⟩
       | _,_,_=>False
   | none=>False
 | .lsl b sz off n=>match Aq P t with
   | some (_,te)=>sz=te.size/\match mx with
     | none=>match bnd ev 0 lo,bnd ev n hi with
       | some l,some h=>Ob (0<=l) (Ob (l<=h) (Ob (h<=n) (k ⟨.lsl b sz (off+l.toNat*sz) (h.toNat-l.toNat),[],[]⟩)))
       | _,_=>False
     | some m=>match H[b]? with
       | some (.row _ cs)=>match bnd ev 0 lo,bnd ev n hi,bnd ev 0 (some m) with
         | some l,some h,some m=>hi.isSome=true/\0<=l/\l<=h/\h<=m/\m<=n /\
           k ⟨.d (.sl (h.toNat-l.toNat) (decide (h=m)) (cut cs (off+l.toNat*sz) ((h.toNat-l.toNat)*sz))),frz H [b],[b]⟩
         | _,_,_=>False
       | _=>False
   | none=>False
 | _=>False:=by
 simp only[Ob,imp4];rfl
def zerosF (z:List D):Nat->Nat->List AV
 | 0,_=>[]
 | n+1,i=>.d (z.getD (i % z.length) .nilp)::zerosF z n (i+1)
def IG (z:List D):∀ (n i:Nat),zerosF z n i=(AeB n).map fun j=>AV.d (z.getD ((i+j) % z.length) .nilp)
 | 0,i=>rfl
 | n+1,i=>by rw[zerosF,IG z n (i+1),AgE,List.map_cons,Agw];congr 1;apply Agq;intro j _;simp only[AgT];rw[show i+1+j=i+(j+1) by omega]
def buildBoxK_eq {ev:Operand->AV} {t len:Nat} {parts:Array (Nat × Operand)}:Ja P ev H t len parts k=match Aq P t with
 | some (_,te)=>match partsA ev parts.toList with
   | some ps=>match fillA (fun i=>some (i*te.size,te.size)) (zerosF te.zero (len*te.size) 0) ps with
     | some cs=>len*te.size<=16777216/\0<te.zero.length/\k ⟨.lsl H.length te.size 0 len,[(H.length,.box cs)],[H.length]⟩
     | none=>False
   | none=>False
 | none=>False:=by
 have e:∀ (z:List D) (n:Nat),zerosF z n 0=(AQ z n).map AV.d:=fun z n=>cF
 simp only[e];rfl
def makeBoxK_eq {t:Nat} {l c:AV}:Kr P H t l c k=match Aq P t,l,c with
 | some (_,te),.d (.int _ l),.d (.int _ c)=>0<=l/\l<=c/\(te.bytes:Int)*c<=281474976710656/\c<=9223372036854775807/\0<te.zero.length /\
   k ⟨.lsl H.length te.size 0 l.toNat,[(H.length,.box (zerosF te.zero (l.toNat*te.size) 0))],[H.length]⟩
 | _,_,_=>False:=by
 have e:∀ (z:List D) (n:Nat),zerosF z n 0=(AQ z n).map AV.d:=fun z n=>cF
 simp only[e];rfl
def buildSliceK_eq {ev:Operand->AV} {t len:Nat} {parts:Array (Nat × Operand)}:F8 P ev H t len parts k=match Aq P t with
 | some (_,te)=>match partsA ev parts.toList with
   | some ps=>match fillA (fun i=>some (i*te.size,te.size)) (zerosF te.zero (len*te.size) 0) ps with
     | some cs=>match sealR H cs with
       | some ds=>len*te.size<=16777216/\0<te.zero.length/\cs.all AV.one=true/\k ⟨.lsl H.length te.size 0 len,frz H (idsL cs)++[(H.length,.row false ds)],H.length::idsL cs⟩
       | none=>False
     | none=>False
   | none=>False
 | none=>False:=by
 have e:∀ (z:List D) (n:Nat),zerosF z n 0=(AQ z n).map AV.d:=fun z n=>cF
 simp only[e];rfl
def cut_all {l:List D} {n:Nat} (h:n=l.length):cut l 0 n=l:=by subst h;simp[cut]
def cut_one {x:D}:cut [x] 0 1=[x]:=rfl
def idx_nil {n:Nat}:idx [] n=none:=rfl
end
end Go.Abs
namespace Go.Abs
open Go
def Bw:Nat->List AV->List AV
 | _,[]=>[]
 | m,x::s=>(if m % 2=1 then x else .undef)::Bw (m / 2) s
def keepA_nil {m:Nat}:Bw m []=[]:=rfl
def AcG {x:AV} {s:List AV}:Bw 0 (x::s)=.undef::Bw 0 s:=rfl
def AaX {a b c d e f g h:AV} {s:List AV}:Bw 0 (a::b::c::d::e::f::g::h::s)=.undef::.undef::.undef::.undef::.undef::.undef::.undef::.undef::Bw 0 s:=rfl
def keepA_cons {m:Nat} {x:AV} {s:List AV}:Bw m (x::s)=(if m % 2=1 then x else .undef)::Bw (m / 2) s:=rfl
def BP:List (Nat × AV)->List AV->List AV
 | [],s=>s
 | (t,v)::r,s=>BP r (s.set t v)
def setsA_nil {s:List AV}:BP [] s=s:=rfl
def setsA_cons {t:Nat} {v:AV} {r:List (Nat × AV)} {s:List AV}:BP ((t,v)::r) s=BP r (s.set t v):=rfl
def Al.fr {P:Program} {G:Ah} {M:B8} {p:Nat} {α:Type} (keep:Nat) (μ:α->Nat) (upd:α->List (Nat × AV)) (HH:α->List Ae) (R:α->Prop) {c:Code} {Q:Az} {s:List AV} {H:List Ae} (x0:α) (h0:R x0)
  (hw:DA p s H (BP (upd x0) (Bw keep s)) (HH x0))
  (round:∀ x,R x->E5 P G M p c (Hm p (μ x) μ (fun x=>BP (upd x) (Bw keep s)) HH R Q) (BP (upd x) (Bw keep s)) (HH x)):Al P G M p c Q s H :=
 Al.inv μ (fun x=>BP (upd x) (Bw keep s)) HH R x0 h0 hw round
def Al.fx {P:Program} {G:Ah} {M:B8} {p:Nat} {α β:Type} (keep:Nat) (μ:α->Nat) (upd:α->List (Nat × AV)) (HH:α->List Ae) (R:α->Prop) (keepE:Nat) (B9:β->List (Nat × AV)) (HE:β->List Ae) (E:β->Prop) {c:Code} {id:Nat} {Q:Az}
  {s:List AV} {H:List Ae} (x0:α) (h0:R x0)
  (hw:DA p s H (BP (upd x0) (Bw keep s)) (HH x0))
  (round:∀ x,R x->E5 P G M p c (Hm p (μ x) μ (fun x=>BP (upd x) (Bw keep s)) HH R (CN id (WT p (fun y=>BP (B9 y) (Bw keepE s)) HE E Q))) (BP (upd x) (Bw keep s)) (HH x))
  (rest:∀ y,E y->Q .normal (BP (B9 y) (Bw keepE s)) (HE y)):Al P G M p c (CN id Q) s H :=
 Al.cut μ (fun x=>BP (upd x) (Bw keep s)) HH R (fun y=>BP (B9 y) (Bw keepE s)) HE E x0 h0 hw round rest
def Jg (p:Nat) (H:List Ae) (v res:AV) (H':List Ae):Prop :=
 ∃ fl:List (Option Nat),fl.take p=(AeB p).map some/\(fl.filterMap id).Nodup/\Bc fl H fl H' /\
   (Ap fl v res\/∃ d,sealA H v=some d/\res=.d (unf d)/\(fl.filterMap id).all (fun j=>!(AY v).contains j)=true)
def retPost_ret {P:Program} {rs:Array ResultVar} {p:Nat} {res:AV} {H':List Ae} {s:List AV} {H:List Ae} :
  IW P rs p res H' .ret s H=match resVs P s H rs.toList with | some vs=>Jg p H (AP vs) res H' | none=>False:=rfl
def retPost_normal {P:Program} {rs:Array ResultVar} {p:Nat} {res:AV} {H':List Ae} {s:List AV} {H:List Ae} :
  IW P rs p res H' .normal s H=match resVs P s H rs.toList with | some vs=>Jg p H (AP vs) res H' | none=>False:=rfl
def ablock_eq {i:Nat} {Q:Az} {s:List AV} {H:List Ae}:CN i Q (.exit i) s H=Q .normal s H:=by simp[CN]
def ablock_ne {i j:Nat} (h:¬j=i) {Q:Az} {s:List AV} {H:List Ae}:CN i Q (.exit j) s H=Q (.exit j) s H:=by simp[CN,h]
def EQ {K:List AV->List Ae->Prop} {Q:Az} {s:List AV} {H:List Ae}:LD K Q .normal s H=K s H:=rfl
def OL {K:List AV->List Ae->Prop} {Q:Az} {s:List AV} {H:List Ae}:LD K Q .ret s H=Q .ret s H:=rfl
def Aa.by {P:Program} {G:Ah} {H HC HC' Hn:List Ae} {k:Eff->Prop} {f:FuncId} {ars ars':List AV} {L ids:List Nat} {res:AV} (h:Ctr P G f ars' HC' res Hn) (ea:ars=ars') (eh:HC=HC') (hl:L.length<=Hn.length)
  (hk:k (callEff H L ids res Hn)):Aa P G H f ars L ids HC k:=⟨res,Hn,[],ea▸eh▸h,hl,.inl rfl,by rw[I8];exact hk⟩
def idx_hit {b:Nat} {L:List Nat}:idx (b::L) b=some 0:=by simp[idx,AgM]
def idx_miss {b c:Nat} {L:List Nat} (h:¬c=b):idx (c::L) b=(idx L b).map (·+1):=by simp[idx,AgM,h]
def ndec {p:Prop} [Decidable p]:(!decide p)=decide (¬p):=by by_cases h:p<;>simp[h]
def cast_sub2 {n:Nat}:((n+2:Nat):Int)-2=(n:Int):=lA
def Aa.frozenE {P:Program} {G:Ah} {H:List Ae} {k:Eff->Prop} {f:FuncId} {ars ars':List AV} {ids:List Nat} {d:D} (h:Ctr P G f ars' [] (.d d) []) (e:ars=ars')
  (hk:k ⟨.d d,if Cb (.d d) then [] else frz H ids,ids⟩):Aa P G H f ars [] ids [] k:=.frozen (e▸h) hk
section
variable {P:Program} {G:Ah} {M:B8} {p:Nat} {ops:Array Oper} {o:Oper} {t:Nat} {rest:List Oper} {s:List AV} {H:List Ae} {tr:TR} {K:RK} {a b:Code} {Q:Az} {c d:Bool} {q:Prop}
def OX (P:Program) (G:Ah) (M:B8) (p:Nat) (a b:Code) (Q:Az) (s:List AV) (H:List Ae) (c:AV):Prop :=
 match c with
 | .d (.bool t)=>(t=true->E5 P G M p a Q s H)/\(t=false->E5 P G M p b Q s H)
 | _=>False
@[reducible] def Br (q A B:Prop):Prop:=(q->A)/\(¬q->B)
@[congr] theorem Ags {q A B A' B':Prop} (h1:q->A=A') (h2:¬q->B=B'):Br q A B=Br q A' B' :=
 propext ⟨fun h=>⟨fun x=>h1 x▸h.1 x,fun x=>h2 x▸h.2 x⟩,fun h=>⟨fun x=>(h1 x).symm▸h.1 x,fun x=>(h2 x).symm▸h.2 x⟩⟩
def Br_tt {q A:Prop}:Br q True A=(¬q->A):=by simp[Br]
def Br_true {A B:Prop}:Br True A B=A:=by simp[Br]
def Br_false {A B:Prop}:Br False A B=B:=by simp[Br]
@[reducible] def Bn (q A B:Prop):Prop:=(¬q->A)/\(q->B)
@[congr] theorem Agt {q A B A' B':Prop} (h1:¬q->A=A') (h2:q->B=B'):Bn q A B=Bn q A' B' :=
 propext ⟨fun h=>⟨fun x=>h1 x▸h.1 x,fun x=>h2 x▸h.2 x⟩,fun h=>⟨fun x=>(h1 x).symm▸h.1 x,fun x=>(h2 x).symm▸h.2 x⟩⟩
def Br_not {q A B:Prop}:Br (¬q) A B=Bn q A B:=by simp[Br,Bn]
def Bn_tt {q A:Prop}:Bn q True A=(q->A):=by simp[Bn]
def awp_condC {c:Operand}:E5 P G M p (.cond c a b) Q s H=OX P G M p a b Q s H (evalA G s c):=rfl
def CondC_tt:OX P G M p a b Q s H (.d (.bool true))=E5 P G M p a Q s H:=by simp[OX]
def CondC_ff:OX P G M p a b Q s H (.d (.bool false))=E5 P G M p b Q s H:=by simp[OX]
def CondC_dec [Decidable q]:OX P G M p a b Q s H (.d (.bool (decide q)))=Br q (E5 P G M p a Q s H) (E5 P G M p b Q s H):=by simp[OX,Br]
def GuardC_tt:Ed P G M ops o t true rest s H tr K (.d (.bool true))=L7 P G M ops o none rest (s.set t (.d (.bool true))) H tr K:=kO
def GuardC_tf:Ed P G M ops o t true rest s H tr K (.d (.bool false))=EU P G M ops rest (putA (s.set t (.d (.bool false))) o.dst (.tup [])) H (tr++[([],[])]) K:=kO
def GuardC_ff:Ed P G M ops o t false rest s H tr K (.d (.bool false))=L7 P G M ops o none rest (s.set t (.d (.bool false))) H tr K:=kO
def GuardC_ft:Ed P G M ops o t false rest s H tr K (.d (.bool true))=EU P G M ops rest (putA (s.set t (.d (.bool true))) o.dst (.tup [])) H (tr++[([],[])]) K:=kO
def GuardC_dect [Decidable q]:Ed P G M ops o t true rest s H tr K (.d (.bool (decide q))) =
  Br q (L7 P G M ops o none rest (s.set t (.d (.bool true))) H tr K) (EU P G M ops rest (putA (s.set t (.d (.bool false))) o.dst (.tup [])) H (tr++[([],[])]) K):=by simp[Ed,Br]
def GuardC_decf [Decidable q]:Ed P G M ops o t false rest s H tr K (.d (.bool (decide q))) =
  Br (¬q) (L7 P G M ops o none rest (s.set t (.d (.bool false))) H tr K) (EU P G M ops rest (putA (s.set t (.d (.bool true))) o.dst (.tup [])) H (tr++[([],[])]) K):=by simp[Ed,Br]
end
def ibeq {a b:Int}:(a == b)=decide (a=b):=fY
def ibne {a b:Int}:(a != b)=decide (¬a=b):=fY
def sbeq {a b:List UInt8}:(a == b)=decide (a=b):=fY
def bbeq {a b:Bool}:(a == b)=decide (a=b):=fY
def cast_pred {n:Nat}:((n+1:Nat):Int)-1=(n:Int):=lA
def cast_zero:((0:Nat):Int)=0:=rfl
end Go.Abs
namespace Go.Abs
open Go
def VQ {P:Program} {t e:Nat} (ht:P.underlying t=some (.slice e)) (base:Option Addr) (n c:Nat) (w:World) :
  (binOp .eql t (.slice base n c) (.slice none 0 0)).run P w=.ok (.bool base.isNone) w:=by
 simp only[binOp];simp[run_equal_slice_nil w t e base n c ht]
def RD.sl_nil {h:Held} {v:Value} {n:Nat} {f:Bool} {cs:List D} (r:RD h v (.sl n f cs)):∃ base m c,v=.slice base m c/\(base.isNone=true->n=0):=by
 cases r with
 | sl0 base=>exact ⟨base,0,0,rfl,fun _=>rfl⟩
 | sl g off n cap full cells vs=>exact ⟨_,_,_,rfl,fun h=>lx⟩
def R.sl_nil {h:Held} {ρ:Place} {v:Value} {n:Nat} {f:Bool} {cs:List D} (r:R h ρ v (.d (.sl n f cs))):∃ base m c,v=.slice base m c/\(base.isNone=true->n=0):=by
 generalize hx:(AV.d (.sl n f cs))=x at r;cases r with
 | d v d hd=>cases hx;exact hd.sl_nil
 | _=>cases hx
def Tri.nilRegion {y:Bool} {r:Option Nat} {P:Program} {G:Ah} {p:Nat} {id x0 t3 t4 T yt e n:Nat} {ty ty':TypeId} {ps ps':String} {af af':Array Edge} {f:Bool} {cs:List D} {Q:Az} {s:List AV} {H:List Ae}
  (ht:P.underlying T=some (.slice e)) (hx:s[x0]?=some (.d (.sl n f cs))) (h3:t3<s.length)
  (hk:∀ b,(b=true->n=0)->Q .normal ((s.set t3 (.d (.sl n f cs))).set t4 (.d (.bool b))) H) :
  Tri y r P G p (.region id #[{dst:=some t3,op:=.move (.tmp x0),type:=ty,pos:=ps,after:=af,guard:=none},{dst:=some t4,op:=.binOp .eql T (.tmp t3) (.const (.slice none 0 0)) yt,type:=ty',pos:=ps',after:=af',guard:=none}] false) Q s H:=by
 intro h0 ρ0 w0 hp0 a w ha;obtain ⟨h,ρ,q1,q2,q4⟩:=ha;refine wpIn_region ?_;have e0:=Iq (a:=a) q1 q2 (.tmp x0);have e1:evalA G s (.tmp x0)=.d (.sl n f cs):=by simp[evalA,Aeu,hx]
 rw[e1] at e0;obtain ⟨base,m,c,hv,hn⟩:=e0.sl_nil;have st:SR h ρ (a.put (some t3) (a.eval (.tmp x0))).tmps (s.set t3 (.d (.sl n f cs))):=q2.put t3 e0;have e3:(a.put (some t3) (a.eval (.tmp x0))).eval (.tmp t3)=.slice base m c:=by
  have hl:=q2.1;have:t3<a.tmps.size:=lA
  rw[hv];simp[Act.put,Act.eval,Array.getD_eq_getD_getElem?,this]
 have st2:SR h ρ ((a.put (some t3) (a.eval (.tmp x0))).put (some t4) (.bool base.isNone)).tmps ((s.set t3 (.d (.sl n f cs))).set t4 (.d (.bool base.isNone))):=st.put t4 (.d _ _ (.bool _));generalize hops:(#[_,_]:Array Oper)=ops;have g0:ops[0]?=some {dst:=some t3,op:=.move (.tmp x0),type:=ty,pos:=ps,after:=af,guard:=none}:=iU
 have g1:ops[1]?=some {dst:=some t4,op:=.binOp .eql T (.tmp t3) (.const (.slice none 0 0)) yt,type:=ty',pos:=ps',after:=af',guard:=none}:=iU
 have hr:AeB ops.size=[0,1]:=iU
 rw[hr];simp only[wpOpsIn,g0,g1];have hw:∀ (o:Oper) y,o.guard=none->Region.wanted o y=true:=fun o y h=>by simp[Region.wanted,h]
 rw[if_pos (hw _ _ rfl)];refine ⟨fun _ _=>trivial,?_⟩;have r0:∀ a:Act,(execOp a.eval {dst:=some t3,op:=.move (.tmp x0),type:=ty,pos:=ps,after:=af,guard:=none}).run P w=.ok (.value (a.eval (.tmp x0))) w:=fun a=>by simp[execOp]
 rw[Oper.semAt_eq _ _ _ (fun c=>lC)];simp only[r0,Oper.uponIn];rw[if_pos (hw _ _ rfl)];refine ⟨fun _ _=>trivial,?_⟩;have r1:(execOp (a.put (some t3) (a.eval (.tmp x0))).eval {dst:=some t4,op:=.binOp .eql T (.tmp t3) (.const (.slice none 0 0)) yt,type:=ty',pos:=ps',after:=af',guard:=none}).run P w=.ok (.value (.bool base.isNone)) w:=by have hg:(eqGuard .eql T (.tmp t3) (.const (.slice none 0 0)) (.slice base m c) (.slice none 0 0)).run P w=.ok () w:=rfl;have e4:(a.put (some t3) (a.eval (.tmp x0))).eval (.const (.slice none 0 0))=.slice none 0 0:=rfl;simp only[execOp,e3,e4];simp[hg,VQ ht]
 rw[Oper.semAt_eq _ _ _ (fun c=>lC)];simp only[r1,Oper.uponIn];exact ⟨_,_,hk base.isNone hn,h,ρ,q1,st2,q4⟩
def JN (P:Program) (G:Ah) (M:B8) (g:AV) (ps:Array Tmp) (a b:Code) (Q:Az) (s:List AV) (H:List Ae):Prop :=
 M 3000000=false/\WP P G (fun n Q s H=>E5 P G M n a Q s H) (fun n Q s H=>E5 P G M n b Q s H) g ps Q s H
def awp_range {P:Program} {G:Ah} {M:B8} {p:Nat} {g:Operand} {ps:Array Tmp} {a b:Code} {Q:Az} {s:List AV} {H:List Ae} :
  E5 P G M p (.rangeFunc g ps a b) Q s H=JN P G M (evalA G s g) ps a b Q s H:=rfl
def AsgQ_same {H:List Ae} {B:List AV->List Ae->Prop} {s:List AV}:AbV H B .normal s H=B s H:=by simp[AbV]
def RndQ_t {s2 s:List AV} {It:List Ae->Prop} {Ix:Code->List Ae->Prop} {H:List Ae}:AbP true s2 It Ix .normal s H=Vf s2 It H:=by simp[AbP]
def Vf.mk {s2:List AV} {K:List Ae->Prop} {H H2:List Ae} (hw:DA 0 s2 H s2 H2) (hk:K H2):Vf s2 K H:=by obtain ⟨fl,_,h2,h3,h4⟩:=hw;exact ⟨fl,H2,h2,h3,h4,hk⟩
def Lt (d:D):D × Bool:=(d,true)
def XZ:∀ xs:List D,Tdo xs (xs.map Lt)
 | []=>trivial
 | x::r=>⟨rfl,XZ r⟩
def Aag (H:List Ae) (L:List Nat) (fl:List (Option Nat)):Bool :=
 fl.all fun o=>match o with
  | some j=>!L.contains j && (match H[j]? with | some .dead=>false | some _=>true | none=>false)
  | none=>true
def Ys {H:List Ae} {L:List Nat} {fl:List (Option Nat)} (h:Aag H L fl=true) (j:Nat) (hj:j∈fl.filterMap id):j∉L/\BC (hp H) j:=by
 obtain ⟨o,ho,e⟩:=Agu.1 hj;simp only[id] at e;subst e;have:=AeA.1 h _ ho;simp only[Aga,AgB,Af2,decide_eq_false_iff_not] at this;refine ⟨this.1,?_⟩;have h2:=this.2;split at h2;·cases h2
 ·rename_i x hne e;exact ⟨x,e,fun e'=>hne (by rw[e'])⟩
 cases h2
section
variable {P:Program} {G:Ah} {M:B8}
def JN.allP {α:Type} {a b:Code} {g:AV} {pt:Nat} {Q:Az} {s:List AV} {H:List Ae} {gf:FuncId} {caps caps':List AV} {HI:List Ae} {xs:List D} (spec:OV P G gf (renL (·+1) caps') (HI.map (renB (·+1))) xs)
  (pins:List (Nat × Nat)) (fl:List (Option Nat)) (keep:Nat) (upd:List (Nat × AV)) (HH:Nat->α->List Ae) (R:Nat->α->Prop)
  (hg:Ut g=some (gf,caps)) (e1:passL H (passIds false H caps) caps=some caps') (e2:passBs H (passIds false H caps) (passIds false H caps)=some HI)
  (e3:sidsL H (passIds false H caps) caps=[]) (e4:sidsBs H (passIds false H caps) (passIds false H caps)=[]) (hM:M 3000000=false) (hpin:Adi H.length fl (BP upd (Bw keep s)) pins)
  (hok:Aag H (passIds false H caps) fl=true) (hn:(fl.filterMap id).Nodup) (x0:α) (h0:R 0 x0) (hs:Cx fl s (BP upd (Bw keep s))) (hH:Bc fl H fl (HH 0 x0)) (hl:∀ k x,(HH k x).length=fl.length/\DG (HH k x)=true)
  (round:∀ k d x,k<xs.length->xs[k]?=some d->R k x->E5 P G M fl.length a (AbV (HH k x) (E5 P G M fl.length b (AbP true (BP upd (Bw keep s)) (fun H2=>∃ x',R (k+1) x'/\H2=HH (k+1) x') (fun _ _=>False)))) ((BP upd (Bw keep s)).set pt (.d d)) (HH k x))
  (rest:∀ x,R xs.length x->Q .normal (YA pins (renL (H.length+·) (BP upd (Bw keep s)))) (YB pins (deads H.length++(HH xs.length x).map (renB (H.length+·))))):JN P G M g #[pt] a b Q s H:=by
 refine ⟨hM,gf,caps,caps',HI,xs,xs.map Lt,pt,hg,rfl,e1,e2,e3,e4,spec,XZ xs,fl,BP upd (Bw keep s),HH 0 x0,fun t H2=>∃ k x,k<=xs.length/\t=(xs.drop k).map Lt/\R k x/\H2=HH k x,fun _ _=>False,pins,hpin,hn,Ys hok,hs,hH,⟨0,x0,AgQ _,lC,h0,rfl⟩,?_,fun _ _ h=>h.elim,?_,?_,fun _ _ h=>h.elim⟩;·rintro t H2 ⟨k,x,_,_,_,rfl⟩;exact hl k x
 ·rintro d bb t H2 ⟨k,x,hk,ht,hx,rfl⟩;have hlt:k<xs.length:=by
   rcases AgC k xs.length with h | h
   ·exact h
   rw[List.drop_of_length_le h] at ht;simp at ht
  rw[List.drop_eq_getElem_cons hlt,List.map_cons] at ht;simp only[Lt,List.cons.injEq,Prod.mk.injEq] at ht;obtain ⟨⟨rfl,rfl⟩,rfl⟩:=ht;have hr:=round k xs[k] x hlt (AbZ hlt) hx;have e:(fun H2=>∃ x',R (k+1) x'/\H2=HH (k+1) x')=(fun H2=>∃ k' x',k'<=xs.length/\(xs.drop (k+1)).map Lt=(xs.drop k').map Lt/\R k' x'/\H2=HH k' x'):=by
   funext H2;refine propext ⟨fun ⟨x',u,v⟩=>⟨k+1,x',hlt,rfl,u,v⟩,fun ⟨k',x',hk',he,u,v⟩=>?_⟩;have:=congrArg List.length he;simp at this;obtain rfl:k'=k+1:=lA
   exact ⟨x',u,v⟩
  rw[e] at hr;exact hr
 rintro H2 ⟨k,x,hk,ht,hx,rfl⟩;have:=congrArg List.length ht;simp at this;obtain rfl:k=xs.length:=lA
 exact rest x hx
def JN.all {α:Type} {a b:Code} {g:AV} {pt:Nat} {Q:Az} {s:List AV} {H:List Ae} {gf:FuncId} {caps caps':List AV} {HI:List Ae} {xs:List D} (spec:OV P G gf (renL (·+1) caps') (HI.map (renB (·+1))) xs)
  (fl:List (Option Nat)) (keep:Nat) (upd:List (Nat × AV)) (HH:Nat->α->List Ae) (R:Nat->α->Prop)
  (hg:Ut g=some (gf,caps)) (e1:passL H (passIds false H caps) caps=some caps') (e2:passBs H (passIds false H caps) (passIds false H caps)=some HI)
  (e3:sidsL H (passIds false H caps) caps=[]) (e4:sidsBs H (passIds false H caps) (passIds false H caps)=[]) (hM:M 3000000=false)
  (hok:Aag H (passIds false H caps) fl=true) (hn:(fl.filterMap id).Nodup) (x0:α) (h0:R 0 x0) (hs:Cx fl s (BP upd (Bw keep s))) (hH:Bc fl H fl (HH 0 x0)) (hl:∀ k x,(HH k x).length=fl.length/\DG (HH k x)=true)
  (round:∀ k d x,k<xs.length->xs[k]?=some d->R k x->E5 P G M fl.length a (AbV (HH k x) (E5 P G M fl.length b (AbP true (BP upd (Bw keep s)) (fun H2=>∃ x',R (k+1) x'/\H2=HH (k+1) x') (fun _ _=>False)))) ((BP upd (Bw keep s)).set pt (.d d)) (HH k x))
  (rest:∀ x,R xs.length x->Q .normal (renL (H.length+·) (BP upd (Bw keep s))) (deads H.length++(HH xs.length x).map (renB (H.length+·)))):JN P G M g #[pt] a b Q s H :=
 JN.allP spec [] fl keep upd HH R hg e1 e2 e3 e4 hM ⟨AgH,fun q hq=>absurd hq (List.not_mem_nil)⟩ hok hn x0 h0 hs hH hl round rest
end
set_option linter.defProp false in
def Bm:=ab @AaX (ab @AcG (ab @keepA_cons (ab @keepA_nil (ab @setsA_nil (ab @setsA_cons (ab @List.set_cons_zero.{0} (ab @List.set_cons_succ.{0} (ab @set_8 (ab AgX (ab Nat.zero_ne_one (ab @if_true.{1} @if_false.{1})))))))))))
end Go.Abs
namespace Go.Abs
open Go
set_option linter.defProp false in
def Ab:=(ab (ab (ab (ab (ab @Go.Abs.awp_skip @Go.Abs.awp_region) (ab @Go.Abs.awp_seq @Go.Abs.awp_condC)) (ab (ab @Go.Abs.Br_not @Go.Abs.awp_block) (ab @Go.Abs.awp_loop @Go.Abs.awp_exit))) (ab (ab (ab @Go.Abs.awp_ret @Go.Abs.ThenC_normal) (ab @Go.Abs.ThenC_exit @Go.Abs.ThenC_ret)) (ab (ab @Go.Abs.RoundQ_normal @Go.Abs.RoundQ_exit) (ab @Go.Abs.RoundQ_ret @Go.Abs.ablock_normal)))) (ab (ab (ab (ab @Go.Abs.ablock_ret @Go.Abs.ablock_eq) (ab @Go.Abs.ablock_ne @Go.Abs.DK_eq)) (ab (ab @opK.eq_def @AaJ.eq_def) (ab @SV.eq_def @V4.eq_def))) (ab (ab (ab @AbF.eq_def @OD.eq_def) (ab @Go.Abs.PureRet.eq_1 @Go.Abs.getD_8)) (ab (ab @Go.Abs.set_8 @Go.Abs.CutQ_normal) (ab @Go.Abs.retPost_ret @Go.Abs.retPost_normal)))))
set_option linter.defProp false in
def awV:=(ab (ab (ab (ab (ab (ab (ab (ab @Go.Abs.CondC_tt @Go.Abs.CondC_ff) (ab @Go.Abs.Bn_tt @Go.Abs.Br_tt)) (ab (ab @Go.Abs.Br_true @Go.Abs.Br_false) (ab @Go.Abs.Ob_triv (ab @Go.Abs.CondC_dec @Go.Abs.GuardC_tt)))) (ab (ab (ab @Go.Abs.GuardC_tf @Go.Abs.GuardC_ff) (ab @Go.Abs.GuardC_ft (ab @Go.Abs.GuardC_dect @Go.Abs.GuardC_decf))) (ab (ab @Go.Abs.awp_range @Go.Abs.AsgQ_same) (ab @Go.Abs.RndQ_t (ab @Go.Abs.deads.eq_1 @Go.Abs.RoundIQ_normal))))) (ab (ab (ab (ab @Go.Abs.RoundIQ_exit @Go.Abs.RoundIQ_ret) (ab @Go.Abs.regK_nil (ab @Go.Abs.regK_cons @Go.Abs.operC_none))) (ab (ab @Go.Abs.operC_some @Go.Abs.OpC_mk) (ab @Go.Abs.GuardC_dead (ab @SX.eq_def @LC.eq_def)))) (ab (ab (ab @SS.eq_def @Tc.eq_def) (ab @Td.eq_def (ab @KP.eq_def @Xj.eq_def))) (ab (ab @Go.Abs.buildBoxK_eq @Go.Abs.makeBoxK_eq) (ab @FL.eq_def (ab @Go.Abs.putA.eq_1 @Go.Abs.putA.eq_2)))))) (ab (ab (ab (ab (ab @Go.Abs.applyW.eq_1 @Go.Abs.applyW.eq_2) (ab @Go.Abs.wOK.eq_1 (ab @Go.Abs.wOK.eq_2 @Go.Abs.evalA.eq_1))) (ab (ab @Go.Abs.evalA.eq_2 @Go.Abs.evalA.eq_3) (ab @Go.Abs.evalA.eq_4 (ab @List.length_cons.{0} @List.length_nil.{0})))) (ab (ab (ab @Aet.eq_1.{0} @Aet.eq_2.{0}) (ab @List.cons_append.{0} (ab @List.nil_append.{0} @List.set_cons_zero.{0}))) (ab (ab @List.set_cons_succ.{0} @List.getD_cons_zero.{0}) (ab @List.getD_cons_succ.{0} (ab @Sw.eq_def @Sz.eq_def))))) (ab (ab (ab (ab @OG.eq_def @XP.eq_def) (ab @AcB.eq_def (ab @Ac4.eq_def @Acg.eq_def))) (ab (ab @evC.eq_def @Go.Abs.binK_eq) (ab @YS.eq_def (ab @K9.eq_def @Z2.eq_def)))) (ab (ab (ab @Go.Abs.indexAddrK_eq @Sx.eq_def) (ab @XD.eq_def (ab @RX.eq_def @Go.Abs.mkA.eq_1))) (ab (ab @Go.Abs.mkD.eq_1 @AgK) (ab @false_implies (ab @true_and @and_true))))))) (ab (ab (ab (ab (ab (ab @if_true.{1} @if_false.{1}) (ab @List.map_nil.{0,0} @List.map_cons.{0,0})) (ab (ab @Nat.mul_one @Go.Abs.resVs.eq_1) (ab @Go.Abs.resVs.eq_2 (ab @Go.Abs.resV.eq_1 @Go.Abs.resV.eq_2)))) (ab (ab (ab @Go.Abs.sealA.eq_1 @Go.Abs.sealA.eq_2) (ab @Go.Abs.sealA.eq_3 (ab @Go.Abs.sealA.eq_4 @Go.Abs.sealA.eq_5))) (ab (ab @Go.Abs.sealA.eq_6 @Go.Abs.sealL.eq_1) (ab @Go.Abs.sealL.eq_2 (ab @Go.Abs.idsL.eq_1 @Go.Abs.idsL.eq_2))))) (ab (ab (ab (ab @Go.Abs.frz.eq_1 @Go.Abs.frz.eq_2) (ab @WM.eq_def (ab @Ad4.eq_def @Aan.eq_def))) (ab (ab @XQ.eq_def @unK.eq_def) (ab @I0.eq_def (ab @Hb.eq_def @KA.eq_def)))) (ab (ab (ab @SU.eq_def @M6.eq_def) (ab @SY.eq_def (ab @Go.Abs.buildSliceK_eq @Go.Abs.zerosF.eq_1))) (ab (ab @Go.Abs.zerosF.eq_2 @AgX) (ab @G6.eq_def (ab @C5.eq_def @Go.Abs.mmK_2)))))) (ab (ab (ab (ab (ab @Go.Abs.sliceK_eq @Go.Abs.bnd.eq_1) (ab @Go.Abs.bnd.eq_2 (ab @Go.Abs.callK_list @AdD.eq_def))) (ab (ab @Go.Abs.passIds.eq_1 @Go.Abs.refsL.eq_1) (ab @Go.Abs.refsL.eq_2 (ab @Go.Abs.refsIn.eq_1 @Go.Abs.refsIn.eq_2)))) (ab (ab (ab @Go.Abs.dedup.eq_1 @Go.Abs.dedup.eq_2) (ab @Go.Abs.passL.eq_1 (ab @Go.Abs.passL.eq_2 @Go.Abs.passA.eq_1))) (ab (ab @Go.Abs.passA.eq_3 @Go.Abs.passA.eq_6) (ab @Go.Abs.passA.eq_7 (ab @Go.Abs.passA.eq_9 @Go.Abs.passBs.eq_1))))) (ab (ab (ab (ab @Go.Abs.passBs.eq_2 @Go.Abs.sidsL.eq_1) (ab @Go.Abs.sidsL.eq_2 (ab @Go.Abs.sidsA.eq_1 @Go.Abs.sidsA.eq_2))) (ab (ab @Go.Abs.sidsA.eq_4 @Go.Abs.sidsA.eq_5) (ab @Go.Abs.sidsA.eq_7 (ab @Go.Abs.sidsBs.eq_1 @Go.Abs.sidsBs.eq_2)))) (ab (ab (ab @Go.Abs.callEff.eq_1 @Go.Abs.outW.eq_1) (ab @Go.Abs.outW.eq_2 (ab @Go.Abs.outN.eq_1 @Go.Abs.renA.eq_1))) (ab (ab @Go.Abs.renA.eq_2 @Go.Abs.renA.eq_3) (ab @Go.Abs.renA.eq_4 (ab @Go.Abs.renA.eq_6 @Go.Abs.renA.eq_7)))))))) (ab (ab (ab (ab (ab (ab (ab @Go.Abs.renA.eq_8 @Go.Abs.renA.eq_10) (ab @Go.Abs.renL.eq_1 @Go.Abs.renL.eq_2)) (ab (ab @Go.Abs.renB.eq_1 @Go.Abs.renB.eq_2) (ab @Go.Abs.renB.eq_3 (ab @Go.Abs.renB.eq_4 @Go.Abs.renB.eq_7)))) (ab (ab (ab @Go.Abs.renB.eq_8 @Go.Abs.guardSlot_list) (ab @List.append_nil.{0} (ab @List.getElem?_cons_zero.{0} @List.getElem?_cons_succ.{0}))) (ab (ab @List.getElem?_nil.{0} @List.all_cons.{0}) (ab @List.all_nil.{0} (ab @List.isEmpty_nil.{0} @List.isEmpty_cons.{0}))))) (ab (ab (ab (ab @Bool.and_true @AgU) (ab @Bool.and_false (ab @Bool.false_and @Go.Abs.D.int.injEq))) (ab (ab @Go.Abs.D.bool.injEq @Go.Abs.partsA.eq_1) (ab @Go.Abs.partsA.eq_2 (ab @Go.Abs.fillA.eq_1 @Go.Abs.fillA.eq_2)))) (ab (ab (ab @Go.Abs.structPlace.eq_1 @List.take_zero.{0}) (ab @List.drop_zero.{0} (ab @List.drop_succ_cons.{0} @List.take_succ_cons.{0}))) (ab (ab @List.drop_nil.{0} @Option.map_some.{0,0}) (ab @Option.map_none.{0,0} (ab @Option.isSome_some.{0} @Option.isSome_none.{0})))))) (ab (ab (ab (ab (ab @Option.isNone_none.{0} @Option.isNone_some.{0}) (ab @AgO (ab @AgY @Nat.zero_mul))) (ab (ab @List.contains_nil.{0} @Bool.not_false) (ab @Bool.not_true (ab @Nat.lt_irrefl @Aex)))) (ab (ab (ab @BEq.rfl.{0} @List.length_map.{0,0}) (ab @Go.Abs.unf_int (ab @Go.Abs.unf_bool @Go.Abs.unf_str))) (ab (ab @Go.Abs.unf_sl @Go.Abs.unf_agg) (ab @Go.Abs.unf_tup (ab @Go.Abs.unf1_agg @Go.Abs.unf1_int))))) (ab (ab (ab (ab @Go.Abs.unf1_bool @Go.Abs.unf1_str) (ab @Go.Abs.unf1_sl (ab @Go.Abs.unf0_int @Go.Abs.unf0_bool))) (ab (ab @Go.Abs.unf0_str @Go.Abs.unf0_sl) (ab @Go.Abs.sealR.eq_1 (ab @Go.Abs.wr_i64 @Go.Abs.wr_u64)))) (ab (ab (ab @Go.Abs.wr_u32 @Go.Abs.wr_u8) (ab @Go.Abs.c_lt (ab @Go.Abs.c_le @Go.Abs.c_nlt))) (ab (ab @Go.Abs.c_nle @Go.Abs.n_lt) (ab @Go.Abs.n_le (ab @Go.Abs.n_nlt @Go.Abs.ints_length))))))) (ab (ab (ab (ab (ab (ab @Go.Abs.ints_getD @Go.Abs.cut_ints) (ab @Go.Abs.ints_take (ab @decide_eq_true_eq @List.length_take.{0}))) (ab (ab @List.length_drop.{0} @Go.Abs.toNat_cast) (ab @Nat.sub_zero (ab @Int.toNat_zero @Go.Abs.ints_set)))) (ab (ab (ab @Go.Abs.nats_length @Go.Abs.nats_getD) (ab @Go.Abs.cut_nats (ab @Go.Abs.nats_set @Go.Abs.nats_push))) (ab (ab @decide_true @decide_false) (ab @ne_eq.{1} (ab @List.length_set.{0} @List.length_append.{0}))))) (ab (ab (ab (ab @Go.IntKind.bits.eq_6 @Go.IntKind.bits.eq_7) (ab @Go.IntKind.bits.eq_8 (ab @Go.IntKind.max.eq_1 @Go.Abs.fdiv_pos))) (ab (ab @Nat.min_eq_left @Go.Abs.zeros_nats) (ab @Go.Abs.mx_nat (ab @Go.Abs.cut_one @Go.Abs.idx_nil)))) (ab (ab (ab @Go.Abs.n_eq @Go.Abs.n_ne) (ab @Go.Abs.c_eqt (ab @Go.Abs.c_eq @List.take_of_length_le.{0}))) (ab (ab @List.not_mem_nil.{0} @not_false_eq_true) (ab @Go.Abs.cast_add (ab @Go.Abs.cast_add1 @Go.Abs.cast_mul)))))) (ab (ab (ab (ab (ab @Go.Abs.keepA_nil @Go.Abs.keepA_cons) (ab @Go.Abs.setsA_nil (ab @Go.Abs.setsA_cons @Go.Abs.cast_pred))) (ab (ab @Go.Abs.cast_zero @Go.Abs.ibeq) (ab @Go.Abs.ibne (ab @Go.Abs.sbeq @Go.Abs.bbeq)))) (ab (ab (ab @not_true_eq_false @Classical.not_not) (ab @Go.Abs.cast_sub2 (ab @Go.Abs.binC_t @Go.Abs.binC_f))) (ab (ab @Go.Abs.idx_hit @Go.Abs.idx_miss) (ab @Go.Abs.passB.eq_2 (ab @Go.Abs.passB.eq_3 @Go.Abs.passB.eq_7))))) (ab (ab (ab (ab @Go.Abs.passB.eq_8 @Go.Abs.passB.eq_9) (ab @List.contains_cons.{0} (ab @Bool.or_false @Bool.or_true))) (ab (ab @Bool.true_or @true_or) (ab @or_true (ab @Go.Abs.ndec @Int.natAbs_natCast)))) (ab (ab (ab @MZ.eq_def @JU.eq_def) (ab @Kq.eq_def (ab @Si.eq_def @XA.eq_def))) (ab (ab @SP.eq_def @Go.Abs.isKeyD.eq_1) (ab @MP.eq_def (ab @MQ.eq_def @MS.eq_def)))))))))
set_option linter.defProp false in
def Ac :=
 (ab (ab (ab @List.length_take.{0} @List.length_drop.{0}) (ab @List.length_set.{0} @List.length_append.{0})) (ab (ab @List.length_replicate.{0} @List.length_cons.{0}) (ab @List.length_nil.{0} (ab @ints_length @nats_length))))
end Go.Abs
namespace Go.Abs
open Go Go.RowKit
def Im (h:Held) (w w':World):Held:=fun b o=>if b<w.heap.size then h b o else w'.cell? ⟨b,o,none⟩
def P9 {G:Ah} {h:Held} {ρ:Place} {H:A9} {w w':World} (s:Sim G h ρ H w):h.le (Im h w w'):=fun b o v e=>by have:=s.held_lt e;simp only[Im,if_pos this];exact e
def Ctr.of_calls {P:Program} {G:Ah} {f:FuncId} {args:List AV} {d:D} (hg:An P f=true)
  (hc:∀ (h:Held) (ρ:Place) (w:World) (vs:Array Value),Sim G h ρ (hp []) w->RL h ρ vs args->Calls P f vs w fun e w'=>∃ v,e=.returned v/\RD (Im h w w') v d/\Below w.heap.size w w') :
  Ctr P G f args [] (.d d) []:=by
 refine ⟨hg,fun h ρ w vs s r=>(hc h ρ w vs s r).mono ?_⟩;rintro e w' ⟨v,rfl,hv,b⟩;have hle:h.le (Im h w w'):=P9 s;have hcell:∀ (g o:Nat),g<w.heap.size->w'.cell? ⟨g,o,none⟩=w.cell? ⟨g,o,none⟩:=fun g o hl=>by simp[World.cell?,b.block g hl]
 refine ⟨v,Im h w w',ρ,rfl,⟨fun g o u e=>?_,fun g ds e=>?_,fun i b e=>jp,fun i g S e=>?_,fun i j g S S' e=>?_⟩,.d _ _ hv,b.os,b.tape,b.output,b.size,fun k hk _=>b.block k hk,hle,fun k hk _ o=>by simp only[Im,if_pos hk],Place.le_refl _,fun i g S e=>.inl ⟨i,S,e⟩⟩
 ·by_cases hl:g<w.heap.size;·simp only[Im,if_pos hl] at e;rw[hcell g o hl];exact s.prom g o u e
  simpa only[Im,if_neg hl] using e
 ·obtain ⟨us,h1,h2⟩:=s.glob g ds e;exact ⟨us,fun i x e=>hle _ _ _ (h1 i x e),fun i x e=>(h2 i x e).mono hle⟩
 ·obtain ⟨_,b,hb⟩:=s.dom i g S e;simp[hp] at hb
 obtain ⟨_,b,hb⟩:=s.dom i g S e;simp[hp] at hb
def RL.inv1 {h:Held} {ρ:Place} {vs:Array Value} {x:AV} (r:RL h ρ vs [x]):∃ v,vs=#[v]/\R h ρ v x:=by
 obtain ⟨h1,h2⟩:=r
 match vs,h1,h2 with
 | ⟨[v]⟩,_,h2=>exact ⟨v,rfl,h2 0 v x rfl rfl⟩
def RL.inv2 {h:Held} {ρ:Place} {vs:Array Value} {x y:AV} (r:RL h ρ vs [x,y]):∃ v u,vs=#[v,u]/\R h ρ v x/\R h ρ u y:=by
 obtain ⟨h1,h2⟩:=r
 match vs,h1,h2 with
 | ⟨[v,u]⟩,_,h2=>exact ⟨v,u,rfl,h2 0 v x rfl rfl,h2 1 u y rfl rfl⟩
def Ctr.of_calls_ss {P:Program} {G:Ah} {f:FuncId} {s t:ByteArray} {d:D} (hg:An P f=true)
  (hc:∀ (h:Held) (w:World),Calls P f #[.string s,.string t] w fun e w'=>∃ v,e=.returned v/\RD h v d/\Below w.heap.size w w'):Ctr P G f [.d (.str s),.d (.str t)] [] (.d d) [] :=
 .of_calls hg fun h ρ w vs q r=>by obtain ⟨v,u,rfl,hv,hu⟩:=r.inv2;rw[hv.str_inv,hu.str_inv];refine (hc h w).mono ?_;rintro e w' ⟨v,rfl,hd,b⟩;exact ⟨v,rfl,hd.mono (P9 q),b⟩
abbrev bs (l:List UInt8):ByteArray:=⟨l.toArray⟩
def DQ {l:List UInt8}:(bs l).size=l.length:=by simp[ByteArray.size]
def WD {s t:ByteArray} (h:s.data.toList=t.data.toList):s=t:=by cases s;cases t;congr 1;exact Array.toList_inj.1 h
def OK {l:List UInt8} {a b:Nat}:(bs l).extract a b=bs ((l.take b).drop a):=by apply WD;simp[List.drop_take,List.extract_eq_take_drop]
def Rw {l m:List UInt8}:bs l++bs m=bs (l++m):=by apply WD;simp
def Af5 (s:ByteArray):s=bs s.data.toList:=WD lC
def Rv {l:List UInt8}:(bs l).toList=l:=by exact ByteArray.toList_eq (bs l)
def Ru {l:List UInt8} {i:Nat}:Iz (bs l) i=((l.getD i 0).toNat:Int):=rfl
def AB (l:List UInt8):List Int:=l.map fun b=>(b.toNat:Int)
def Bh {l:List UInt8}:(AB l).length=l.length:=by simp[AB]
def PP {l:List UInt8} {i:Nat}:(AB l).getD i 0=((l.getD i 0).toNat:Int):=by simp only[AB,Aeu,Aeg];cases l[i]?<;>rfl
def UZ {l:List UInt8}:(bs l).data.toList.map (fun b=>D.int .u8 b.toNat)=Ar .u8 (AB l):=jQ
def Cl:∀ (l:List Int),Bl (Ar .u8 l)=some l
 | []=>rfl
 | n::l=>by
   show (match Bl (Ar .u8 l) with | some l=>some (n::l) | none=>none)=_
   rw[Cl l]
def RW {l:List Int}:strOfNums l=bs (l.map fun n=>UInt8.ofNat n.toNat):=rfl
def BK {l:List UInt8}:strOfNums (AB l)=bs l:=by rw[RW,AB,Agw];congr 1;rw[show ((fun n:Int=>UInt8.ofNat n.toNat) ∘ fun b:UInt8=>(b.toNat:Int))=id from by funext b;simp,List.map_id]
def dec (l:List UInt8) (p:Nat):Nat × Nat:=Utf8.decode (bs l) p
def N3 {l:List UInt8} {b p:Nat} {k:Eff->Prop} (h:p<l.length):PR b k (some (.iter (bs l) p))=k ⟨.d (.tup [.bool true,.int .i64 p,.int .i32 ((dec l p).1:Int)]),[(b,.iter (bs l) (p+(dec l p).2))],[b]⟩:=by
 have h':p<(bs l).size:=iV
 simp only[PR,dec,h',not_true,false_implies,and_true,true_implies]
def N2 {l:List UInt8} {b p:Nat} {k:Eff->Prop} (h:¬p<l.length):PR b k (some (.iter (bs l) p))=k ⟨.d (.tup [.bool false]),[],[b]⟩:=by
 have h':¬p<(bs l).size:=iV
 simp only[PR,h',not_false_iff,false_implies,true_and,true_implies]
def dec_ascii {l:List UInt8} {p:Nat} (h:p<l.length) (ha:(l.getD p 0).toNat<128):dec l p=((l.getD p 0).toNat,1):=by
 have e:(bs l)[p]' iV=l.getD p 0:=by
  show l.toArray[p]=_
  simp[Aeu,h]
 have:=decode_ascii (bs l) p iV (by rw[e];exact ha);rw[dec,this,e]
def Wy (l:List UInt8) (p:Nat):1<=(dec l p).2/\(dec l p).1<=2147483647:=by
 refine ⟨?_,decode_le _ _⟩;unfold dec Utf8.decode;dsimp only;repeat' split
 all_goals simp
end Go.Abs
namespace Go.Abs
open Go Go.RowKit Go.ChangeShapes
def P8 (W:World):Held:=fun b o=>W.cell? ⟨b,o,none⟩
def Tg (G:Ah) (W:World):Prop:=∀ g ds,G g=some ds->∃ vs:Nat->Value,(∀ (i:Nat) x,ds[i]?=some x->P8 W g i=some (vs i))/\(∀ (i:Nat) x,ds[i]?=some x->RD (P8 W) (vs i) x)
def Ctr.law {P:Program} {G:Ah} {f:FuncId} {avs:List AV} (hc:Ctr P G f avs [] (.d (.bool true)) []) {W:World} {args:Array Value} (hg:Tg G W) (ha:RL (P8 W) (fun _=>none) args avs) :
  Calls P f args W fun e W'=>e=.returned (.bool true)/\Below W.heap.size W W':=by
 have s:Sim G (P8 W) (fun _=>none) (hp []) W:=⟨fun _ _ _ e=>e,hg,(fun i b e=>jp),(fun i g S e=>lh),(fun i j g S S' e=>lh)⟩;refine (hc.2 _ _ W args s ha).mono ?_;rintro e W' ⟨v,h',ρ',rfl,_,r,t⟩;exact ⟨by rw[r.bool_inv],t.os,t.tape,t.output,t.size,fun k hk=>t.keep k hk (fun i S e=>lh)⟩
def RL.of_list {h:Held} {ρ:Place}:∀ {vs:List Value} {xs:List AV},vs.length=xs.length->(∀ (i:Nat) v x,vs[i]?=some v->xs[i]?=some x->R h ρ v x)->RL h ρ vs.toArray xs :=
 fun hl hr=>⟨iI,fun i v x hv hx=>hr i v x iG hx⟩
def X1 {W:World} {a:Addr} {len cap:Nat} {zs:List Int} {k:IntKind} (hl:len<=cap) (hz:len<=zs.length) (hc:∀ i,i<zs.length->W.cell? (a.add i)=some (.int k (zs.getD i 0))) :
  RD (P8 W) (.slice (some a) len cap) (.sl len false (Ar k (zs.take len)))\/len=0:=by
 rcases AgN len with h0 | h0
 ·exact .inr h0
 left;obtain ⟨b,off,spot⟩:=a;have h1:=hc 0 lA;have hs:spot=none:=by simpa[Addr.add] using World.cell?_spot h1
 subst hs;refine .sl b off len cap false _ (fun i=>.int k (zs.getD i 0)) hl (fun h=>lx) (fun i x hx=>?_) (fun i x hx=>?_) (fun i x hx=>?_)
 ·have hi:i<len:=by have:=(AbY.1 hx).1;simp[Ar] at this;omega
  have:=hc i lA;have e:Addr.add ⟨b,off,none⟩ i=⟨b,off+i,none⟩:=by unfold Addr.add;split<;>simp_all
  rw[e] at this;exact this
 ·have hi:i<len:=by have:=(AbY.1 hx).1;simp[Ar] at this;omega
  simp only[Ar,Aeg,Agz,if_pos hi] at hx;cases hzi:zs[i]? with
  | none=>simp[hzi] at hx
  | some z=>simp[hzi] at hx;subst hx;rw[Aeu,hzi];exact .int _ _
 simp only[Ar,Aeg] at hx;cases hzi:(zs.take len)[i]? with
 | none=>simp[hzi] at hx
 | some z=>simp[hzi] at hx;subst hx;rfl
def YF {H:Type} {enc:TypeId × Value->H} {P:Program} {W:World} {base:Nat} {held:Bool} {t e:TypeId} {k:IntKind} {fuel:Nat} {v:Value} {x:DataW H × List MemPlace} (ht:P.underlying t=some (.slice e)) (he:P.underlying e=some (.int k)) (hc:P.cellsOf e=1)
  (hv:∃ a n c,v=.slice a n c) (h:DataW.trod enc P W base (fun _=>true) held fuel t v.cells.toList=some x) :
  ∃ l:List Int,R (P8 W) (fun _=>none) v (.d (.sl l.length false (Ar k l)))/\(∀ n∈l,(Lit.int k n).wf=true)/\l.length<=maxLen:=by
 obtain ⟨a,n,c,rfl⟩:=hv;rcases open_ints ht he hc h with ⟨hcs,_⟩ | ⟨x,l,cp,zs,hcs,_,hl,hm,hz,_,hcell,hwz⟩
 ·simp[Value.cells] at hcs;obtain ⟨rfl,rfl,rfl⟩:=hcs;exact ⟨[],.d _ _ (.sl0 _ _),lC,lC⟩
 simp[Value.cells] at hcs;obtain ⟨rfl,rfl,rfl⟩:=hcs;have hz:zs.length=c:=by simpa using hz
 have lt:(zs.take n).length=n:=fi
 rcases X1 hl lA hcell with hr | h0
 ·exact ⟨zs.take n,by rw[lt];exact .d _ _ hr,fun n hn=>hwz n (List.mem_of_mem_take hn),by rw[lt];omega⟩
 subst h0;refine ⟨[],?_,lC,lC⟩;rcases AgN c with h1 | h1
 ·subst h1;exact qy
 obtain ⟨b,off,spot⟩:=x;have hs:spot=none:=by simpa[Addr.add] using World.cell?_spot (hcell 0 lA)
 subst hs;exact .d _ _ (.sl b off 0 c false _ (fun _=>undef) lA (fun h=>lx) kN kN kN)
end Go.Abs
namespace Go.Abs
open Go Go.RowKit Go.ChangeShapes Go.WideShapes Go.Joins Go.Deep
def RL.five {h:Held} {ρ:Place} {v0 v1 v2 v3 v4:Value} {x0 x1 x2 x3 x4:AV} (r0:R h ρ v0 x0) (r1:R h ρ v1 x1) (r2:R h ρ v2 x2) (r3:R h ρ v3 x3) (r4:R h ρ v4 x4):RL h ρ #[v0,v1,v2,v3,v4] [x0,x1,x2,x3,x4]:=.of_list rfl fun i v x hv hx=>by
 rcases i with _ | _ | _ | _ | _ | i
 ·simp at hv hx;subst hv;subst hx;exact r0
 ·exact p9
 ·exact qc
 ·simp at hv hx;subst hv;subst hx;exact r3
 ·simp at hv hx;subst hv;subst hx;exact r4
 simp at hv
end Go.Abs
namespace Go.Abs
open Go
section
variable {P:Program} {G:Ah}
def RL.plain {h:Held} {ρ ρ':Place} {vs:Array Value} {args:List AV} (r:RL h ρ vs args) (e0:ρ' 0=ρ 0) (ha:∀ a∈args,a=.ptr 0 0\/∃ d,a=.d d):RL h ρ' vs args:=by
 refine ⟨r.1,fun i v x hv hx=>?_⟩;have:=r.2 i v x hv hx;rcases ha x (Aer hx) with rfl | ⟨d,rfl⟩
 ·cases this with
  | ptr b off g S hρ=>exact .ptr 0 0 g S (e0.trans hρ)
 cases this with
 | d _ _ hd=>exact .d _ _ hd
def Ctr.lift1 {f:FuncId} {args:List AV} {x x' res:D} {c:AV} {H:List Ae} (spec:∀ v,Ctr P G f args [.box [.d x,.d (.val v)]] (.d res) [.box [.d x',.d (.val v)]])
  (ha:∀ a∈args,a=.ptr 0 0\/∃ d,a=.d d) (hH:H[0]?=some (.box [.d x,c])):Ctr P G f args H (.d res) (H.set 0 (.box [.d x',c])):=by
 refine ⟨(spec .nilFunc).1,fun h ρ w vs hs hvs=>?_⟩;have hlen:0<H.length:=(AbY.1 hH).1;obtain ⟨g,S,c0,E,fr,b1,b2,b3,b4,b5,b6,b7⟩:=hs.blk 0 _ hH;simp only[List.length_cons,List.length_nil] at b5;obtain ⟨v,hv⟩:∃ v,c0[1]?=some v:=⟨c0[1],Agp lA⟩
 let ρc:Place:=fun k=>if k=0 then ρ 0 else none
 have ρc0:ρc 0=ρ 0:=rfl;have ρcx:∀ i y,ρc i=some y->i=0:=fun i y e=>by
  by_cases hi:i=0;·exact hi
  simp only[ρc,if_neg hi] at e;cases e
 have l0:BC (hp H) 0:=⟨_,hH,lC⟩;have sc:Sim G h ρc (hp [.box [.d x,.d (.val v)]]) w:=by
  refine ⟨hs.prom,hs.glob,fun i b e=>?_,fun i g S e=>?_,fun i j g S S' e1 e2 _ _=>?_⟩
  ·cases i with
   | zero =>
    simp[hp] at e;subst e;refine ⟨g,S,c0,E,fr,b1,b2,b3,b4,b5,fun j y u hy hu=>?_,b7⟩;cases j with
    | zero =>
     simp at hy;subst hy;have:=b6 0 (.d x) u lC hu;cases this with
     | d _ _ hd=>exact .d _ _ hd
    | succ j =>
     cases j with
     | zero =>simp at hy;subst hy;rw[hv] at hu;cases hu;exact .d _ _ (.val v)
     | succ j=>simp at hy
   | succ i=>simp[hp] at e
  ·have:=ρcx i _ e;subst this;exact ⟨(hs.dom 0 g S e).1,_,rfl⟩
  rw[ρcx i _ e1,ρcx j _ e2]
 refine ((spec v).2 h ρc w vs sc (hvs.plain ρc0 ha)).mono ?_;rintro e w' ⟨v1,h',ρ',rfl,s',r',t'⟩;have hρ':ρ' 0=some (g,S):=t'.rmono 0 _ (ρc0.trans b1);have nc:∀ k,(∀ i S,ρ i≠some (k,S))->∀ i S,ρc i≠some (k,S):=fun k hn i S' e=>by have:=ρcx i _ e;subst this;exact hn 0 S' (ρc0▸e)
 have st:A6 h ρ w h' ρ w':=⟨t'.os,t'.tape,t'.output,t'.size,fun k hk hn=>t'.keep k hk (nc k hn),t'.mono,fun k hk hn=>t'.new k hk (nc k hn),Place.le_refl _,fun i g S e=>.inl ⟨i,S,e⟩⟩;have at0:hp (H.set 0 (.box [.d x',c])) 0=some (.box [.d x',c]):=by simp[hp,hlen]
 have atn:∀ i,i≠0->hp (H.set 0 (.box [.d x',c])) i=hp H i:=fun i hi=>by simp[hp,Ne.symm hi]
 have lv:∀ i,BC (hp (H.set 0 (.box [.d x',c]))) i->BC (hp H) i:=fun i ⟨b,hb,hn⟩=>by
  by_cases hi:i=0;·subst hi;exact l0
  exact ⟨b,by rw[<-atn i hi];exact hb,hn⟩
 refine ⟨v1,h',ρ,rfl,⟨s'.prom,s'.glob,fun i b e=>?_,fun i g S e=>?_,fun i j g S S' e1 e2 l1 l2=>hs.inj i j g S S' e1 e2 (lv i l1) (lv j l2)⟩,?_,st⟩
 ·by_cases hi:i=0
  ·subst hi;rw[at0] at e;cases e;obtain ⟨g',S',c',E',fr',a1,a2,a3,a4,a5,a6,a7⟩:=s'.blk 0 _ rfl;rw[hρ'] at a1;cases a1;refine ⟨g,S,c',E',fr',b1,a2,a3,a4,a5,fun j y u hy hu=>?_,a7⟩;cases j with
   | zero =>
    simp at hy;subst hy;have:=a6 0 (.d x') u lC hu;cases this with
    | d _ _ hd=>exact .d _ _ hd
   | succ j =>
    cases j with
    | zero =>
     simp at hy;subst hy;have:=a6 1 (.d (.val v)) u lC hu;cases this with
     | d _ _ hd =>cases hd;exact (b6 1 c _ lC hv).mono t'.mono (Place.le_refl _)
    | succ j=>simp at hy
  rw[atn i hi] at e;by_cases hd:b=.dead;·subst hd;trivial
  refine (hs.blk i b e).frame st.n s'.prom t'.mono (Place.le_refl _) (fun g2 S2 hg=>?_) id;have hnc:∀ j S',ρc j≠some (g2,S'):=fun j S' ej=>by have:=ρcx j _ ej;subst this;exact hi (hs.inj i 0 g2 S2 S' hg (ρc0▸ej) ⟨b,e,hd⟩ l0)
  exact ⟨t'.keep g2 (hs.dom i g2 S2 hg).1 hnc,t'.new g2 (hs.dom i g2 S2 hg).1 hnc⟩
 ·obtain ⟨q1,b,q2⟩:=hs.dom i g S e;refine ⟨gP,?_⟩;by_cases hi:i=0;·subst hi;exact ⟨_,at0⟩
  exact ⟨b,by rw[atn i hi];exact q2⟩
 cases r' with
 | d _ _ hd=>exact .d _ _ hd
def Au.by {H Hn:List Ae} {f:FuncId} {avs avs':List AV} {res:AV} {k:Eff->Prop} (h:Ctr P G f avs' H res Hn) (ea:Ml H avs avs') (hl:H.length<=Hn.length) (hk:k ⟨res,Hj 0 Hn,[Jh,Jh]⟩):Au P G H f avs k :=
 .inl ⟨avs',res,Hn,ea,h,hl,hk⟩
def Au.view {H:List Ae} {f:FuncId} {avs ars:List AV} {k:Eff->Prop} (L:List Nat) (HS:(Nat->Nat->Value)->List Ae) {d:D} (hL:L.Nodup) (hlen:∀ e,(HS e).length=L.length)
  (hview:∀ e (j b:Nat),L[j]?=some b->∃ B C,H[b]?=some B/\(HS e)[j]?=some C/\F9 L e j B C) (hargs:OY H L avs ars) (spec:∀ e,Ctr P G f ars (HS e) (.d d) (HS e)) (hk:k ⟨.d d,[],L⟩):Au P G H f avs k :=
 .inr (.inr ⟨L,HS,ars,d,hL,hlen,hview,hargs,spec,hk⟩)
end
section
def Te:∀ (l:List Ae) (n m:Nat),n<=m->m<=n+l.length->wOK m (Hj n l)=true
 | [],n,m,_,_=>rfl
 | b::r,n,m,h1,h2=>by
   simp only[List.length_cons] at h2;rw[Hj,wOK];by_cases h:n<m;·rw[if_pos h];exact Te r (n+1) m lA lA
   rw[if_neg h];obtain rfl:n=m:=lA
   simp only[BEq.rfl,AgU];exact Te r (n+1) (n+1) (Aex _) lA
def OO:∀ (l pre H:List Ae),pre.length<=H.length->H.length<=pre.length+l.length->(∀ i,i<pre.length->H[i]?=pre[i]?)->applyW H (Hj pre.length l)=pre++l
 | [],pre,H,h1,h2,h3=>by
   rw[Hj,applyW,List.append_nil];simp only[List.length_nil,AgY] at h2;refine List.ext_getElem? fun i=>?_;rcases AgC i pre.length with h | h
   ·exact h3 i h
   rw[Af0 lA,Af0 h]
 | b::r,pre,H,h1,h2,h3=>by
   simp only[List.length_cons] at h2;rw[Hj,applyW];have e:pre++b::r=(pre++[b])++r:=lC
   rw[e];have hl:(pre++[b]).length=pre.length+1:=lC
   rw[<-hl];refine OO r (pre++[b]) _ ?_ ?_ fun i hi=>?_;·split<;>simp<;>omega
   ·split<;>simp<;>omega
   rw[hl] at hi;by_cases hlt:pre.length<H.length
   ·rw[if_pos hlt];by_cases hi':i=pre.length;·subst hi';simp[hlt]
    rw[AgI lA,Aen lA];exact h3 i lA
   rw[if_neg hlt];have e2:H.length=pre.length:=lA
   by_cases hi':i=pre.length;·subst hi';rw[Aeq lA,Aeq (Aex _),e2]
   rw[Aen lA,Aen lA];exact h3 i lA
variable {P:Program} {G:Ah} {M:B8} {ops:Array Oper} {rest:List Oper} {s:List AV} {H Hn:List Ae} {tr:TR} {dst:Option Nat} {K:RK} {v:AV}
def Zu (hl:H.length<=Hn.length):OpC P G M ops rest s H tr dst K ⟨v,Hj 0 Hn,[Jh,Jh]⟩=EU P G M ops rest (putA s dst v) Hn (tr++[([Jh,Jh],(Hj 0 Hn).map (·.1))]) K:=by
 have e1:wOK H.length (Hj 0 Hn)=true:=Te Hn 0 H.length (AgQ _) lA;have e2:applyW H (Hj 0 Hn)=Hn:=by have:=OO Hn [] H (AgQ _) iI (fun i hi=>by simp at hi);simpa using this
 rw[OpC_mk,e1,e2];exact propext ⟨fun h=>h.2,fun h=>⟨rfl,h⟩⟩
def Au.go {f:FuncId} {avs avs':List AV} (h:Ctr P G f avs' H v Hn) (ea:Ml H avs avs') (hl:H.length<=Hn.length)
  (hk:EU P G M ops rest (putA s dst v) Hn (tr++[([Jh,Jh],(Hj 0 Hn).map (·.1))]) K):Au P G H f avs (OpC P G M ops rest s H tr dst K) :=
 .by h ea hl (by rw[Zu hl];exact hk)
def Al.frI {P:Program} {G:Ah} {M:B8} {p:Nat} {α:Type} (keep:Nat) (μ:α->Nat) (upd:α->List (Nat × AV)) (HH:α->List Ae) (R:α->Prop) {c:Code} {Q:Az} {s:List AV} {H:List Ae} (x0:α) (h0:R x0)
  (hw:ES p s H (BP (upd x0) (Bw keep s)) (HH x0))
  (round:∀ x,R x->E5 P G M p c (Jc (μ x) μ (fun x=>BP (upd x) (Bw keep s)) HH R Q) (BP (upd x) (Bw keep s)) (HH x)):Al P G M p c Q s H :=
 Al.invI μ (fun x=>BP (upd x) (Bw keep s)) HH R x0 h0 hw round
def RetI.unit {P:Program} {p:Nat} {s:List AV} {H:List Ae}:Gu P #[] p (.d (.tup [])) H .normal s H:=Or.inr mX
def RetI.unitR {P:Program} {p:Nat} {s:List AV} {H:List Ae}:Gu P #[] p (.d (.tup [])) H .ret s H:=Or.inr mX
def Lb {σ:Type} (I:Nat->σ->Prop) (T:Nat->σ->σ->Prop) (n:Nat) (x0:σ) (h0:I 0 x0) (step:∀ k,k<n->∀ x,I k x->∃ y,T k x y/\I (k+1) y) :
  ∃ f:Nat->σ,f 0=x0/\(∀ k,k<=n->I k (f k))/\∀ k,k<n->T k (f k) (f (k+1)):=by
 have key:∀ m,m<=n->∃ f:Nat->σ,f 0=x0/\(∀ k,k<=m->I k (f k))/\∀ k,k<m->T k (f k) (f (k+1)):=by
  intro m;induction m with
  | zero =>
   intro _;refine ⟨fun _=>x0,rfl,fun k hk=>?_,fun k hk=>lA⟩;obtain rfl:k=0:=lA
   exact h0
  | succ m ih =>
   intro hm;obtain ⟨f,f0,f1,f2⟩:=ih lA;obtain ⟨y,y1,y2⟩:=step m lA (f m) (f1 m (Aex _));refine ⟨fun k=>if k<=m then f k else y,by simp[f0],fun k hk=>?_,fun k hk=>?_⟩
   ·by_cases h:k<=m;·simp only[if_pos h];exact f1 k h
    simp only[if_neg h];obtain rfl:k=m+1:=lA
    exact y2
   by_cases h:k+1<=m;·simp only[if_pos h,if_pos (show k<=m by omega)];exact f2 k lA
   obtain rfl:k=m:=lA
   simp only[if_neg h,if_pos (Aex k)];exact y1
 exact key n (Aex _)
def PZ {f:Nat->Nat} {r:List Nat} (h:Dh r=false) (b:Nat) (hb:rd (r.map f) (f b)=false):rd r b=false:=by simp only[rd,Bool.or_eq_false_iff,Af2,decide_eq_false_iff_not] at hb ⊢;exact ⟨fun hm=>hb.1 (Aew hm),h⟩
def Wh {ops:Array Oper} {x y:Oper} {f:Nat->Nat} {tx ty:List Nat × List Nat} (h1:Dh tx.1=false) (h3:Dh ty.1=false)
  (h:EX ops x y (tx.1.map f,tx.2.map f) (ty.1.map f,ty.2.map f)=true):EX ops x y tx ty=true:=by
 simp only[EX,Aga,AeA,AgB] at h ⊢;obtain ⟨⟨⟨⟨k1,k2⟩,k3⟩,k4⟩,k5⟩:=h;refine ⟨⟨⟨⟨k1,k2⟩,k3⟩,fun b hb=>⟨PZ h3 b (k4 (f b) (Aew hb)).1,?_⟩⟩,fun b hb=>PZ h1 b (k5 (f b) (Aew hb))⟩;have:=(k4 (f b) (Aew hb)).2;simp only[Af2,decide_eq_false_iff_not] at this ⊢;exact fun hm=>this (Aew hm)
def Wv {ops:Array Oper} {tr:TR} (f:Nat->Nat) (hn:∀ t∈tr,Dh t.1=false) (h:Ea ops (tr.map fun t=>(t.1.map f,t.2.map f))=true):Ea ops tr=true:=by
 have gz:∀ {i:Nat} {o:Oper} {t:List Nat × List Nat},(ops.toList.zip tr).zipIdx[i]?=some ((o,t),i)->(ops.toList.zip (tr.map fun t=>(t.1.map f,t.2.map f))).zipIdx[i]?=some ((o,(t.1.map f,t.2.map f)),i)/\t∈tr:=by
  intro i o t hi;rw[Af7] at hi;cases hz:(ops.toList.zip tr)[i]? with
  | none=>simp[hz] at hi
  | some p =>simp[hz] at hi;subst hi;rw[Agb] at hz;obtain ⟨z1,z2⟩:=hz;have e:(ops.toList.zip (tr.map fun t=>(t.1.map f,t.2.map f)))[i]?=some (o,(t.1.map f,t.2.map f)):=Agb.2 ⟨z1,by rw[Aeg,z2];rfl⟩;refine ⟨?_,Aer z2⟩;rw[Af7,e];simp
 have idx:∀ {l:List (Oper × (List Nat × List Nat))} {q:(Oper × (List Nat × List Nat)) × Nat},q∈l.zipIdx->l.zipIdx[q.2]?=some (q.1,q.2):=by intro l q hq;obtain ⟨x,j⟩:=q;rw[List.mem_zipIdx_iff_getElem?] at hq;rw[Af7,hq];simp
 simp only[Ea,AeA] at h ⊢;rintro ⟨⟨o,t⟩,j⟩ hm;have hj:=idx hm;obtain ⟨u1,u2⟩:=gz hj;have hh:=h ((o,(t.1.map f,t.2.map f)),j) (Aer u1);simp only[Aga,AeA,decide_eq_true_eq,Bool.or_eq_true] at hh ⊢;refine ⟨hh.1,?_⟩;rintro ⟨⟨o',t'⟩,i⟩ hi;have hi2:=List.mem_take_iff_getElem.1 hi;obtain ⟨k,hk,ek⟩:=hi2;have hk2:(ops.toList.zip tr).zipIdx[k]?=some ((o',t'),i):=by rw[AbZ lA,ek]
 have hik:i=k:=by
  rw[Af7] at hk2;cases hz:(ops.toList.zip tr)[k]? with
  | none=>simp[hz] at hk2
  | some p=>simp[hz] at hk2;exact hk2.2.symm
 subst hik;obtain ⟨v1,v2⟩:=gz hk2;rcases hh.2 ((o',(t'.1.map f,t'.2.map f)),i) (by refine Aer (i:=i) ?_;rw[Agz,if_pos lA];exact v1) with h1 | h1
 ·exact .inl h1
 exact .inr (Wh (hn _ v2) (hn _ u2) h1)
def Aa0 {a b:Nat} (h:a≠b):Dh [a,b]=false:=by
 cases h1:Dh [a,b] with
 | false=>rfl
 | true =>simp only[Dh,Aga] at h1;exact absurd ((AgG h1.1).trans (AgG h1.2).symm) h
def AX:Dh []=false:=rfl
def AU {a:Nat}:Dh [a]=false:=rfl
def A3 {a b:Nat} (h:¬a=b):Dh [a,b]=false:=Aa0 h
def A2 {a b c:Nat} {l:List Nat}:Dh (a::b::c::l)=false:=rfl
def Bb:TR->Prop
 | []=>True
 | t::r=>Dh t.1=false/\Bb r
def Bb.mem:∀ {tr:TR},Bb tr->∀ t∈tr,Dh t.1=false
 | [],_,t,h=>lx
 | x::r,h,t,ht=>by
   rcases Agx.1 ht with rfl | ht
   ·exact h.1
   exact Bb.mem h.2 t ht
def AF {ops:Array Oper} {tr:TR} (f:Nat->Nat) (hn:Bb tr) (h:Ea ops (tr.map fun t=>(t.1.map f,t.2.map f))=true):Ea ops tr=true:=Wv f hn.mem h
def CB:∀ (l:List Nat),l.Nodup->∃ f:Nat->Nat,∀ (i x:Nat),l[i]?=some x->f x=i
 | [],_=>⟨fun _=>0,fun i x h=>kx⟩
 | y::r,h=>by
   obtain ⟨f,hf⟩:=CB r (AgF.1 h).2;refine ⟨fun x=>if x=y then 0 else f x+1,fun i x hx=>?_⟩;cases i with
   | zero=>simp at hx;simp[hx]
   | succ i =>simp at hx;have hne:x≠y:=fun e=>(AgF.1 h).1 (e▸Aer hx);simp[hne,hf i x hx]
def idf (n:Nat):List (Option Nat):=(AeB n).map some
def FC (n:Nat):(idf n).length=n:=by simp[idf]
def A4 {n k:Nat} {fs:List (Option Nat)} (h:k<n):(idf n++fs)[k]?=some (some k):=by rw[Aen (by rw[FC];exact h)];simp[idf,Agy h]
def Ba {n k:Nat} {fs:List (Option Nat)}:(idf n++fs)[n+k]?=fs[k]?:=by rw[Aeq (by rw[FC];omega),FC,Agv]
def Bd {n:Nat} {fs:List (Option Nat)}:(idf n++fs)[n]?=fs[0]?:=Ba (k:=0)
def SA (n:Nat):(idf n).filterMap id=AeB n:=by unfold idf;rw[List.filterMap_map];simp
def Va (n:Nat) (b:Ae):Prop:=∀ fs,Dv (idf n++fs) b b
def Bc.app {fl:List (Option Nat)} {H:List Ae}:∀ {a:List (Option Nat)} {c:List Ae} {b:List (Option Nat)} {d:List Ae},Bc fl H a c->Bc fl H b d->Bc fl H (a++b) (c++d)
 | [],[],b,d,_,h=>h
 | some j::r,x::r2,b,d,h1,h2=>⟨h1.1,Bc.app h1.2 h2⟩
 | none::r,x::r2,b,d,h1,h2=>⟨h1.1,Bc.app h1.2 h2⟩
 | [],_::_,b,d,h1,_=>iW
 | some _::_,[],b,d,h1,_=>iW
 | none::_,[],b,d,h1,_=>iW
def Bc.pre {P0 l:List Ae} {fs:List (Option Nat)} (hs:∀ b∈P0,Va P0.length b):Bc (idf P0.length++fs) (P0++l) (idf P0.length) P0:=by
 have gen:∀ (m:Nat) (c:List Ae),(∀ i,i<c.length->(P0++l)[m+i]?=c[i]?)->(∀ b∈c,Dv (idf P0.length++fs) b b)->Bc (idf P0.length++fs) (P0++l) ((AeB c.length).map fun i=>some (m+i)) c:=by
  intro m c;induction c generalizing m with
  | nil=>intro _ _;trivial
  | cons x r ih =>
   intro h1 h2;rw[List.length_cons,AgE,List.map_cons,Agw];refine ⟨?_,?_⟩;·have:=h1 0 lC;rw[this];exact h2 x lC
   have:=ih (m+1) (fun i hi=>by have:=h1 (i+1) jW;rw[show m+1+i=m+(i+1) by omega,this];simp) (fun b hb=>h2 b (Aev _ hb));have e:(fun i=>some (m+1+i))=((fun i=>some (m+i)) ∘ Nat.succ):=(by funext i;simp only[AgT];congr 1;omega);rw[e] at this;exact this
 have:=gen 0 P0 (fun i hi=>by rw[AgO];exact Aen hi) (fun b hb=>hs b hb fs);simp only[AgO] at this;exact this
def Yy {n:Nat} {fs:List (Option Nat)} (hn:(fs.filterMap id).Nodup) (hge:∀ j∈fs.filterMap id,n<=j):((idf n++fs).filterMap id).Nodup:=by rw[List.filterMap_append,SA];refine List.nodup_append.2 ⟨AgP,hn,fun a ha b hb=>?_⟩;have:=AgR.1 ha;have:=hge b hb;omega
def DA.pre {P0 l l2:List Ae} {s s2:List AV} (fs:List (Option Nat)) (hs:∀ b∈P0,Va P0.length b) (hn:(fs.filterMap id).Nodup) (hge:∀ j∈fs.filterMap id,P0.length<=j)
  (h1:Cx (idf P0.length++fs) s s2) (h2:Bc (idf P0.length++fs) (P0++l) fs l2):DA P0.length s (P0++l) s2 (P0++l2) :=
 ⟨idf P0.length++fs,by have:=List.take_left (l₁:=idf P0.length) (l₂:=fs);rw[FC] at this;exact this,Yy hn hge,h1,Bc.app (Bc.pre hs) h2⟩
def Jg.pre {P0 l:List Ae} {v:AV} {d:D} (hs:∀ b∈P0,Va P0.length b) (hd:sealA (P0++l) v=some d) (hi:∀ j∈AY v,P0.length<=j):Jg P0.length (P0++l) v (.d (unf d)) P0:=by
 refine ⟨idf P0.length,?_,?_,?_,.inr ⟨d,hd,rfl,?_⟩⟩;·have:=FC P0.length;rw[List.take_of_length_le lA];rfl
 ·rw[SA];exact AgP
 ·have:=Bc.pre (l:=l) (fs:=[]) hs;rwa[List.append_nil] at this
 rw[SA,AeA];intro j hj;have:=AgR.1 hj;simp only[AgB,Af2,decide_eq_false_iff_not];intro hm;have:=hi j hm;omega
def A8 {l:List Ae} {i:Nat} {b:Ae} (h:i<l.length):(l.set i b)[i]?=some b:=by simp[h]
def Ao {l:List Ae} {i j:Nat} {b:Ae} (h:¬i=j):(l.set i b)[j]?=l[j]?:=AgI h
def Ay {l m:List Ae} {i:Nat} (h:i<l.length):(l++m)[i]?=l[i]?:=Aen h
def Cc {l m:List Ae} {i:Nat} {b:Ae} (h:i<l.length):(l++m).set i b=l.set i b++m:=List.set_append_left i b h
def Cu {l m:List Ae} {i:Nat} {b:Ae} (h:l.length<=i):(l++m).set i b=l++m.set (i-l.length) b:=List.set_append_right i b h
def A0 {l m:List Ae} {i:Nat} (h:l.length<=i):(l++m)[i]?=m[i-l.length]?:=Aeq h
end
end Go.Abs
namespace Go.Abs
open Go
section
variable {k k2:IntKind} {n n2:Int} {b b2:Bool} {s s2:ByteArray} {m g i j z:Nat} {c e:List D} {f:Fn} {x:D} {u v w:List AV} {y y2:AV} {h:FuncId} {H:List Ae} {α:Type} {r t:List α} {q q2:α} {vs:Array Value} {a:Option Addr} {o on:Option Nat} {fs:List (Nat×Nat×Nat)} {es:List (D×D)} {bl:List UInt8} {J:List (D×Bool)->Held->Place->World->Prop} {td:List (D×Bool)} {L ks:List Nat} {P:Program} {v0:Value} {es2:List (D×AV)}
def w0:BE (.int k n)=true:=rfl
def w1:BE (.bool b)=true:=rfl
def w2:BE (.str s)=true:=rfl
def w3:BE (.sl m b c)=false:=rfl
def w4:BE (.agg c)=false:=rfl
def w5:BE (.tup c)=false:=rfl
def w6:BE (.fn f c e)=false:=rfl
def w7:BE .nilp=false:=rfl
def w8:BE .nilm=false:=rfl
def w9:BE .nili=false:=rfl
def w10:BE .ifc=false:=rfl
def w11:BE .nilf=false:=rfl
def w12:BE .esl=false:=rfl
def w13:BE (.val v0)=false:=rfl
def w14:B4 (.int k n)=true:=rfl
def w15:B4 (.bool b)=true:=rfl
def w16:B4 (.str s)=true:=rfl
def w17:B4 (.sl m b c)=false:=rfl
def w18:B4 (.agg c)=c.all BE:=rfl
def w19:B4 (.tup c)=c.all BE:=rfl
def w20:B4 (.fn f c e)=false:=rfl
def w21:B4 .nilp=false:=rfl
def w22:B4 .nilm=false:=rfl
def w23:B4 .nili=false:=rfl
def w24:B4 .ifc=false:=rfl
def w25:B4 .nilf=false:=rfl
def w26:B4 .esl=false:=rfl
def w27:B4 (.val v0)=false:=rfl
def w28:Cb (.d x)=B4 x:=rfl
def w29:Cb (.lsl i m j z)=false:=rfl
def w30:Cb (.ptr i j)=false:=rfl
def w31:Cb (.rptr i c)=false:=rfl
def w32:Cb (.mp i)=false:=rfl
def w33:Cb (.ifp i j)=false:=rfl
def w34:Cb (.agg u)=false:=rfl
def w35:Cb (.tup u)=false:=rfl
def w36:Cb (.fn f u w)=false:=rfl
def w37:Cb .undef=false:=rfl
def w38:D.one (.int k n)=true:=rfl
def w39:D.one (.bool b)=true:=rfl
def w40:D.one (.str s)=true:=rfl
def w41:D.one (.sl m b c)=true:=rfl
def w42:D.one (.agg c)=false:=rfl
def w43:D.one (.tup c)=false:=rfl
def w44:D.one (.fn f c e)=true:=rfl
def w45:D.one .nilp=true:=rfl
def w46:D.one .nilm=true:=rfl
def w47:D.one .nili=true:=rfl
def w48:D.one .ifc=true:=rfl
def w49:D.one .nilf=true:=rfl
def w50:D.one .esl=true:=rfl
def w51:D.one (.val (.bool b))=false:=rfl
def w52:D.one (.val (.int k n))=false:=rfl
def w53:D.one (.val (.string s))=false:=rfl
def w54:D.one (.val (.pointer a))=false:=rfl
def w55:D.one (.val (.slice a i j))=true:=rfl
def w56:D.one (.val (.map o))=false:=rfl
def w57:D.one (.val .nilFunc)=false:=rfl
def w58:D.one (.val .nilIface)=false:=rfl
def w59:AV.one (.d x)=x.one:=rfl
def w60:AV.one (.lsl i m j z)=true:=rfl
def w61:AV.one (.ptr i j)=true:=rfl
def w62:AV.one (.rptr i c)=true:=rfl
def w63:AV.one (.mp i)=true:=rfl
def w64:AV.one (.ifp i j)=true:=rfl
def w65:AV.one (.agg u)=false:=rfl
def w66:AV.one (.tup u)=false:=rfl
def w67:AV.one (.fn f u w)=true:=rfl
def w68:AV.one .undef=false:=rfl
def w69:unfA (.d x)=.d (unf x):=rfl
def w70:unfA (.lsl i m j z)=(.lsl i m j z):=rfl
def w71:unfA (.ptr i j)=(.ptr i j):=rfl
def w72:unfA (.rptr i c)=(.rptr i c):=rfl
def w73:unfA (.mp i)=(.mp i):=rfl
def w74:unfA (.ifp i j)=(.ifp i j):=rfl
def w75:unfA (.agg u)=(.agg u):=rfl
def w76:unfA (.tup u)=(.tup u):=rfl
def w77:unfA (.fn f u w)=(.fn f u w):=rfl
def w78:unfA .undef=.undef:=rfl
def w79:Fx (.d x)=[]:=rfl
def w80:Fx (.lsl i m j z)=[]:=rfl
def w81:Fx (.ptr i j)=[i]:=rfl
def w82:Fx (.rptr i c)=[]:=rfl
def w83:Fx (.mp i)=[i]:=rfl
def w84:Fx (.ifp i j)=[j]:=rfl
def w85:Fx (.agg u)=refsL u:=rfl
def w86:Fx (.tup u)=refsL u:=rfl
def w87:Fx (.fn f u w)=refsL u++refsL w:=rfl
def w88:Fx .undef=[]:=rfl
def w89:AY (.d x)=[]:=rfl
def w90:AY (.lsl i m j z)=[i]:=rfl
def w91:AY (.ptr i j)=[]:=rfl
def w92:AY (.rptr i c)=[]:=rfl
def w93:AY (.mp i)=[]:=rfl
def w94:AY (.ifp i j)=[]:=rfl
def w95:AY (.agg u)=idsL u:=rfl
def w96:AY (.tup u)=idsL u:=rfl
def w97:AY (.fn f u w)=idsL u++idsL w:=rfl
def w98:AY .undef=[]:=rfl
def w99:AG (.lsl i m j z)=some [(.lsl i m j z)]:=rfl
def w100:AG (.ptr i j)=some [(.ptr i j)]:=rfl
def w101:AG (.rptr i c)=some [(.rptr i c)]:=rfl
def w102:AG (.mp i)=some [(.mp i)]:=rfl
def w103:AG (.ifp i j)=some [(.ifp i j)]:=rfl
def w104:AG (.agg u)=some u:=rfl
def w105:AG (.tup u)=none:=rfl
def w106:AG (.fn f u w)=some [(.fn f u w)]:=rfl
def w107:AG .undef=none:=rfl
def w108:AG (.d (.int k n))=some [.d (.int k n)]:=rfl
def w109:AG (.d (.bool b))=some [.d (.bool b)]:=rfl
def w110:AG (.d (.str s))=some [.d (.str s)]:=rfl
def w111:AG (.d (.sl m b c))=some [.d (.sl m b c)]:=rfl
def w112:AG (.d (.agg c))=some (c.map .d):=rfl
def w113:AG (.d (.tup c))=none:=rfl
def w114:AG (.d (.fn f c e))=some [.d (.fn f c e)]:=rfl
def w115:AG (.d .nilp)=some [.d .nilp]:=rfl
def w116:AG (.d .nilm)=some [.d .nilm]:=rfl
def w117:AG (.d .nili)=some [.d .nili]:=rfl
def w118:AG (.d .ifc)=some [.d .ifc]:=rfl
def w119:AG (.d .nilf)=some [.d .nilf]:=rfl
def w120:AG (.d .esl)=some [.d .esl]:=rfl
def w121:AG (.d (.val v0))=none:=rfl
def w122:Bl []=some []:=rfl
def w123:Bl (.int .i8 n::c)=none:=rfl
def w124:Bl (.int .i16 n::c)=none:=rfl
def w125:Bl (.int .i32 n::c)=none:=rfl
def w126:Bl (.int .i64 n::c)=none:=rfl
def w127:Bl (.int .u16 n::c)=none:=rfl
def w128:Bl (.int .u32 n::c)=none:=rfl
def w129:Bl (.int .u64 n::c)=none:=rfl
def w130:Bl (.int .u8 n::c)=(match Bl c with|some l=>some (n::l)|none=>none):=rfl
def w131:Bl ((.bool b)::c)=none:=rfl
def w132:Bl ((.str s)::c)=none:=rfl
def w133:Bl ((.sl m b c)::c)=none:=rfl
def w134:Bl ((.agg c)::c)=none:=rfl
def w135:Bl ((.tup c)::c)=none:=rfl
def w136:Bl ((.fn f c e)::c)=none:=rfl
def w137:Bl (.nilp::c)=none:=rfl
def w138:Bl (.nilm::c)=none:=rfl
def w139:Bl (.nili::c)=none:=rfl
def w140:Bl (.ifc::c)=none:=rfl
def w141:Bl (.nilf::c)=none:=rfl
def w142:Bl (.esl::c)=none:=rfl
def w143:Bl ((.val v0)::c)=none:=rfl
def w144:Dc H g (.lsl i m j z)=(match H[i]? with|some (.row _ c)=>some (z,cut c j (z*g),[i])|_=>none):=rfl
def w145:Dc H g (.ptr i j)=none:=rfl
def w146:Dc H g (.rptr i c)=none:=rfl
def w147:Dc H g (.mp i)=none:=rfl
def w148:Dc H g (.ifp i j)=none:=rfl
def w149:Dc H g (.agg u)=none:=rfl
def w150:Dc H g (.tup u)=none:=rfl
def w151:Dc H g (.fn f u w)=none:=rfl
def w152:Dc H g .undef=none:=rfl
def w153:Dc H g (.d (.int k n))=none:=rfl
def w154:Dc H g (.d (.bool b))=none:=rfl
def w155:Dc H g (.d (.str s))=some (s.size,s.data.toList.map (fun b=>.int .u8 b.toNat),[]):=rfl
def w156:Dc H g (.d (.sl m b c))=some (m,c,[]):=rfl
def w157:Dc H g (.d (.agg c))=none:=rfl
def w158:Dc H g (.d (.tup c))=none:=rfl
def w159:Dc H g (.d (.fn f c e))=none:=rfl
def w160:Dc H g (.d .nilp)=none:=rfl
def w161:Dc H g (.d .nilm)=none:=rfl
def w162:Dc H g (.d .nili)=none:=rfl
def w163:Dc H g (.d .ifc)=none:=rfl
def w164:Dc H g (.d .nilf)=none:=rfl
def w165:Dc H g (.d .esl)=none:=rfl
def w166:Dc H g (.d (.val v0))=none:=rfl
def w167:He (.fn (.func h) u w) v=some (h,u++v++w):=rfl
def w168:He (.d (.fn (.func h) c e)) v=some (h,c.map .d++v++e.map .d):=rfl
def w169:C2 r i [q]=r.set i q:=rfl
def w170:C2 r i (q::q2::t)=r.take i++(q::q2::t)++r.drop (i+(q::q2::t).length):=rfl
def w171:C2 r i ([]:List α)=r.take i++[]++r.drop (i+([]:List α).length):=rfl
def w172:AP []=.tup []:=rfl
def w173:AP [y]=y:=rfl
def w174:AP (y::y2::u)=.tup (y::y2::u):=rfl
def w175:FW (.agg vs)=.agg (vs.toList.map Co):=rfl
def w176:FW (.bool b)=Co (.bool b):=rfl
def w177:FW (.int k n)=Co (.int k n):=rfl
def w178:FW (.string s)=Co (.string s):=rfl
def w179:FW (.pointer a)=Co (.pointer a):=rfl
def w180:FW (.slice a i j)=Co (.slice a i j):=rfl
def w181:FW (.map o)=Co (.map o):=rfl
def w182:FW .nilFunc=Co .nilFunc:=rfl
def w183:FW .nilIface=Co .nilIface:=rfl
def w184:Co (.int k n)=.d (.int k n):=rfl
def w185:Co (.bool b)=.d (.bool b):=rfl
def w186:Co (.string s)=.d (.str s):=rfl
def w187:Co (.slice none 0 0)=.d (.sl 0 true []):=rfl
def w188:Co (.pointer none)=.d .nilp:=rfl
def w189:Co (.map none)=.d .nilm:=rfl
def w190:Co .nilIface=.d .nili:=rfl
def w191:Co .nilFunc=.d .nilf:=rfl
def w192:BU .add=false:=rfl
def w193:BU .sub=false:=rfl
def w194:BU .mul=false:=rfl
def w195:BU .quo=false:=rfl
def w196:BU .rem=false:=rfl
def w197:BU .and=false:=rfl
def w198:BU .or=false:=rfl
def w199:BU .xor=false:=rfl
def w200:BU .shl=true:=rfl
def w201:BU .shr=true:=rfl
def w202:BU .andNot=false:=rfl
def w203:BU .eql=false:=rfl
def w204:BU .neq=false:=rfl
def w205:BU .lss=false:=rfl
def w206:BU .leq=false:=rfl
def w207:BU .gtr=false:=rfl
def w208:BU .geq=false:=rfl
def w209:Cg (.int k)=false:=rfl
def w210:Cg .bool=false:=rfl
def w211:Cg .string=false:=rfl
def w212:Cg (.slice i)=false:=rfl
def w213:Cg (.array i j)=true:=rfl
def w214:Cg (.struct fs)=true:=rfl
def w215:Cg (.ptr i)=false:=rfl
def w216:Cg (.map i j)=false:=rfl
def w217:Cg .func=false:=rfl
def w218:Cg .other=false:=rfl
def w219:IntKind.signed .i8=true:=rfl
def w220:IntKind.signed .i16=true:=rfl
def w221:IntKind.signed .i32=true:=rfl
def w222:IntKind.signed .i64=true:=rfl
def w223:IntKind.signed .u8=false:=rfl
def w224:IntKind.signed .u16=false:=rfl
def w225:IntKind.signed .u32=false:=rfl
def w226:IntKind.signed .u64=false:=rfl
def w227:Gr H L (.amap es2)=sidsL H L (es2.map (·.2)):=rfl
def w228:Gr H L .dead=[]:=rfl
def w229:Gr H L (.row b c)=[]:=rfl
def w230:Gr H L (.box u)=sidsL H L u:=rfl
def w231:Gr H L (.map es)=[]:=rfl
def w232:Gr H L (.iter s i)=[]:=rfl
def w233:Gr H L (.bld i b j on)=[]:=rfl
def w234:Gr H L (.buf i bl)=[]:=rfl
def w235:Gr H L (.ext J td)=[]:=rfl
def w236:Kv P (.int k) (.int k2 n)=decide (k=k2):=rfl
def w237:Kv P .string (.str s)=true:=rfl
def w238:Kv P .bool (.bool b)=true:=rfl
def w239:Kv P (.array i j) (.agg c)=(c.length==i&&(match Wg P j with|some k=>c.all (CA k)|none=>false)):=rfl
def w240:CA k2 (.int k n)=decide (k2=k):=rfl
def w241:CA k2 (.bool b)=false:=rfl
def w242:CA k2 (.str s)=false:=rfl
def w243:CA k2 (.sl m b c)=false:=rfl
def w244:CA k2 (.agg c)=false:=rfl
def w245:CA k2 (.tup c)=false:=rfl
def w246:CA k2 (.fn f c e)=false:=rfl
def w247:CA k2 .nilp=false:=rfl
def w248:CA k2 .nilm=false:=rfl
def w249:CA k2 .nili=false:=rfl
def w250:CA k2 .ifc=false:=rfl
def w251:CA k2 .nilf=false:=rfl
def w252:CA k2 .esl=false:=rfl
def w253:CA k2 (.val v0)=false:=rfl
def w254:EZ (.lsl i m j z)=none:=rfl
def w255:EZ (.ptr i j)=none:=rfl
def w256:EZ (.rptr i c)=none:=rfl
def w257:EZ (.mp i)=none:=rfl
def w258:EZ (.ifp i j)=none:=rfl
def w259:EZ (.agg u)=ID u:=rfl
def w260:EZ (.tup u)=none:=rfl
def w261:EZ (.fn f u w)=none:=rfl
def w262:EZ .undef=none:=rfl
def w263:EZ (.d (.int k n))=none:=rfl
def w264:EZ (.d (.bool b))=none:=rfl
def w265:EZ (.d (.str s))=none:=rfl
def w266:EZ (.d (.sl m b c))=none:=rfl
def w267:EZ (.d (.agg c))=some c:=rfl
def w268:EZ (.d (.tup c))=none:=rfl
def w269:EZ (.d (.fn f c e))=none:=rfl
def w270:EZ (.d .nilp)=none:=rfl
def w271:EZ (.d .nilm)=none:=rfl
def w272:EZ (.d .nili)=none:=rfl
def w273:EZ (.d .ifc)=none:=rfl
def w274:EZ (.d .nilf)=none:=rfl
def w275:EZ (.d .esl)=none:=rfl
def w276:EZ (.d (.val v0))=none:=rfl
def w277:ID []=some []:=rfl
def w278:ID (.d x::u)=(match ID u with|some l=>some (x::l)|none=>none):=rfl
def w279:ID ((.lsl i m j z)::w)=none:=rfl
def w280:ID ((.ptr i j)::w)=none:=rfl
def w281:ID ((.rptr i c)::w)=none:=rfl
def w282:ID ((.mp i)::w)=none:=rfl
def w283:ID ((.ifp i j)::w)=none:=rfl
def w284:ID ((.agg u)::w)=none:=rfl
def w285:ID ((.tup u)::w)=none:=rfl
def w286:ID ((.fn f u w)::w)=none:=rfl
def w287:ID (.undef::w)=none:=rfl
def w288:BS []=some []:=rfl
def w289:BS (.d x::u)=(match x.one,BS u with|true,some l=>some (x::l)|_,_=>none):=rfl
def w290:BS ((.lsl i m j z)::w)=none:=rfl
def w291:BS ((.ptr i j)::w)=none:=rfl
def w292:BS ((.rptr i c)::w)=none:=rfl
def w293:BS ((.mp i)::w)=none:=rfl
def w294:BS ((.ifp i j)::w)=none:=rfl
def w295:BS ((.agg u)::w)=none:=rfl
def w296:BS ((.tup u)::w)=none:=rfl
def w297:BS ((.fn f u w)::w)=none:=rfl
def w298:BS (.undef::w)=none:=rfl
def w299:Hv [] c e=some true:=rfl
def w300:Hv (0::ks) (.int k n::c) (.int k2 n2::e)=(if k=k2 then (match Hv ks c e with|some q=>some ((n==n2)&&q)|none=>none) else none):=cS
def w301:Hv (1::ks) (.str s::c) (.str s2::e)=(match Hv ks c e with|some q=>some ((s.toList==s2.toList)&&q)|none=>none):=cS
def w302:Hv (2::ks) (.bool b::c) (.bool b2::e)=(match Hv ks c e with|some q=>some ((b==b2)&&q)|none=>none):=cS
set_option linter.defProp false in
def awX:=
 (ab
 (ab
 (ab
 (ab
 (ab
 (ab
 (ab
 (ab @w0 @w1)
 (ab @w2 @w3))
 (ab
 (ab @w4 @w5)
 (ab @w6
 (ab @w7 @w8))))
 (ab
 (ab
 (ab @w9 @w10)
 (ab @w11
 (ab @w12 @w13)))
 (ab
 (ab @w14 @w15)
 (ab @w16
 (ab @w17 @w18)))))
 (ab
 (ab
 (ab
 (ab @w19 @w20)
 (ab @w21 @w22))
 (ab
 (ab @w23 @w24)
 (ab @w25
 (ab @w26 @w27))))
 (ab
 (ab
 (ab @w28 @w29)
 (ab @w30
 (ab @w31 @w32)))
 (ab
 (ab @w33 @w34)
 (ab @w35
 (ab @w36 @w37))))))
 (ab
 (ab
 (ab
 (ab
 (ab @w38 @w39)
 (ab @w40 @w41))
 (ab
 (ab @w42 @w43)
 (ab @w44
 (ab @w45 @w46))))
 (ab
 (ab
 (ab @w47 @w48)
 (ab @w49
 (ab @w50 @w51)))
 (ab
 (ab @w52 @w53)
 (ab @w54
 (ab @w55 @w56)))))
 (ab
 (ab
 (ab
 (ab @w57 @w58)
 (ab @w59 @w60))
 (ab
 (ab @w61 @w62)
 (ab @w63
 (ab @w64 @w65))))
 (ab
 (ab
 (ab @w66 @w67)
 (ab @w68
 (ab @w69 @w70)))
 (ab
 (ab @w71 @w72)
 (ab @w73
 (ab @w74 @w75)))))))
 (ab
 (ab
 (ab
 (ab
 (ab
 (ab @w76 @w77)
 (ab @w78 @w79))
 (ab
 (ab @w80 @w81)
 (ab @w82
 (ab @w83 @w84))))
 (ab
 (ab
 (ab @w85 @w86)
 (ab @w87
 (ab @w88 @w89)))
 (ab
 (ab @w90 @w91)
 (ab @w92
 (ab @w93 @w94)))))
 (ab
 (ab
 (ab
 (ab @w95 @w96)
 (ab @w97 @w98))
 (ab
 (ab @w99 @w100)
 (ab @w101
 (ab @w102 @w103))))
 (ab
 (ab
 (ab @w104 @w105)
 (ab @w106
 (ab @w107 @w108)))
 (ab
 (ab @w109 @w110)
 (ab @w111
 (ab @w112 @w113))))))
 (ab
 (ab
 (ab
 (ab
 (ab @w114 @w115)
 (ab @w116 @w117))
 (ab
 (ab @w118 @w119)
 (ab @w120
 (ab @w121 @w122))))
 (ab
 (ab
 (ab @w123 @w124)
 (ab @w125
 (ab @w126 @w127)))
 (ab
 (ab @w128 @w129)
 (ab @w130
 (ab @w131 @w132)))))
 (ab
 (ab
 (ab
 (ab @w133 @w134)
 (ab @w135
 (ab @w136 @w137)))
 (ab
 (ab @w138 @w139)
 (ab @w140
 (ab @w141 @w142))))
 (ab
 (ab
 (ab @w143 @w144)
 (ab @w145
 (ab @w146 @w147)))
 (ab
 (ab @w148 @w149)
 (ab @w150
 (ab @w151 @w152))))))))
 (ab
 (ab
 (ab
 (ab
 (ab
 (ab
 (ab @w153 @w154)
 (ab @w155 @w156))
 (ab
 (ab @w157 @w158)
 (ab @w159
 (ab @w160 @w161))))
 (ab
 (ab
 (ab @w162 @w163)
 (ab @w164
 (ab @w165 @w166)))
 (ab
 (ab @w167 @w168)
 (ab @w169
 (ab @w170 @w171)))))
 (ab
 (ab
 (ab
 (ab @w172 @w173)
 (ab @w174 @w175))
 (ab
 (ab @w176 @w177)
 (ab @w178
 (ab @w179 @w180))))
 (ab
 (ab
 (ab @w181 @w182)
 (ab @w183
 (ab @w184 @w185)))
 (ab
 (ab @w186 @w187)
 (ab @w188
 (ab @w189 @w190))))))
 (ab
 (ab
 (ab
 (ab
 (ab @w191 @w192)
 (ab @w193 @w194))
 (ab
 (ab @w195 @w196)
 (ab @w197
 (ab @w198 @w199))))
 (ab
 (ab
 (ab @w200 @w201)
 (ab @w202
 (ab @w203 @w204)))
 (ab
 (ab @w205 @w206)
 (ab @w207
 (ab @w208 @w209)))))
 (ab
 (ab
 (ab
 (ab @w210 @w211)
 (ab @w212
 (ab @w213 @w214)))
 (ab
 (ab @w215 @w216)
 (ab @w217
 (ab @w218 @w219))))
 (ab
 (ab
 (ab @w220 @w221)
 (ab @w222
 (ab @w223 @w224)))
 (ab
 (ab @w225 @w226)
 (ab @w227
 (ab @w228 @w229)))))))
 (ab
 (ab
 (ab
 (ab
 (ab
 (ab @w230 @w231)
 (ab @w232 @w233))
 (ab
 (ab @w234 @w235)
 (ab @w236
 (ab @w237 @w238))))
 (ab
 (ab
 (ab @w239 @w240)
 (ab @w241
 (ab @w242 @w243)))
 (ab
 (ab @w244 @w245)
 (ab @w246
 (ab @w247 @w248)))))
 (ab
 (ab
 (ab
 (ab @w249 @w250)
 (ab @w251 @w252))
 (ab
 (ab @w253 @w254)
 (ab @w255
 (ab @w256 @w257))))
 (ab
 (ab
 (ab @w258 @w259)
 (ab @w260
 (ab @w261 @w262)))
 (ab
 (ab @w263 @w264)
 (ab @w265
 (ab @w266 @w267))))))
 (ab
 (ab
 (ab
 (ab
 (ab @w268 @w269)
 (ab @w270 @w271))
 (ab
 (ab @w272 @w273)
 (ab @w274
 (ab @w275 @w276))))
 (ab
 (ab
 (ab @w277 @w278)
 (ab @w279
 (ab @w280 @w281)))
 (ab
 (ab @w282 @w283)
 (ab @w284
 (ab @w285 @w286)))))
 (ab
 (ab
 (ab
 (ab @w287 @w288)
 (ab @w289
 (ab @w290 @w291)))
 (ab
 (ab @w292 @w293)
 (ab @w294
 (ab @w295 @w296))))
 (ab
 (ab
 (ab @w297 @w298)
 (ab @w299
 (ab @w300 @w301)))
 (ab
 (ab @w302 @implies_true.{0})
 (ab @implies_true.{1}
 (ab @forall_const.{1} @forall_const.{0})))))))))
set_option linter.defProp false in
def Af:=
 (ab
 (ab
 (ab @Option.toList_some.{0}
 (ab @Option.toList_none.{0} @N3))
 (ab @N2
 (ab @DQ @OK)))
 (ab
 (ab @Rv
 (ab @Rw @Ru))
 (ab @UZ
 (ab @Bh @PP))))
end
end Go.Abs
namespace Go.Abs
set_option linter.defProp false in
def AA := ab @A8 (ab @Ao (ab @Ay (ab @A0 (ab @Cc (ab @Cu (ab @List.length_set.{0} (ab @List.length_append.{0} (ab @List.append_assoc.{0} (ab @Agv (ab @Nat.sub_self (ab @List.set_cons_zero.{0} @List.set_cons_succ.{0})))))))))))
end Go.Abs
