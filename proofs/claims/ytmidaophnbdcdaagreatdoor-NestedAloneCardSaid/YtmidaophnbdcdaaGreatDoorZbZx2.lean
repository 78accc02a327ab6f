/-
  Contracts of the functions, one after another.
-/
import Derived.Test.YtmidaophnbdcdaaGreatDoorZbZx1
import Derived.Shelf.SortM.Plain
import Derived.Shelf.SortM.SortNone
import Derived.Ground.SlgmProg
set_option linter.all false
open Go.Abs renaming A4→HW,Dx→BW,Ci→SW,Aq→AW,BI→sA,Aw→kA
open Go.Proofs.Tryz renaming prog→TP
set_option maxHeartbeats 16000000
set_option maxRecDepth 100000
open Go.Abs renaming Eq→Qe
open Nat renaming reduceAdd→Qu,reduceSub→Qv,reduceMul→Qw,reducePow→Qx,reduceDiv→Qy,reduceMod→Qz,reduceEqDiff→QI,reduceBEq→QK
open Int renaming reduceAdd→QA,reduceSub→QB,reduceMul→QC,reducePow→QD,reduceNeg→QE,reduceToNat→QF,reduceLT→QG,reduceLE→QH
open List renaming getElem?_cons_zero→AcB,getElem?_cons_succ→AdT,getElem?_eq_getElem→AdU,getD_eq_getElem?_getD→AdV,length_cons→AdX,length_append→AdZ,mem_cons→Ad0,length_nil→Ad1,take_add_one→Afs,pairwise_cons→AfN,getElem?_eq_some_iff→AfO,take_length→AfP,map_cons→AfQ,getElem?_map→AfR,drop_eq_getElem_cons→AfS,map_nil→AfT,getElem?_range→AfU,mem_range→AfV,range→AfX,mem_map→AfY,nodup_cons→AfZ,getElem?_zipIdx→Af0,getElem?_append_right→Af1,not_mem_nil→Af3,length_set→Af4,drop_eq_nil_of_le→Af7,append_assoc→Af8,length_take→Aga,all_eq_true→Agb,mem_cons_of_mem→Agc,mem_append→Agd,map_append→Age,getElem?_zip_eq_some→Agh,length_erase_of_mem→Agi,cons_append→Agj,take_of_length_le→Agl,drop_of_length_le→Agm,length_pos_of_mem→Agn,length_mergeSort→Agq,getElem?_set_ne→Ags,mem_erase_of_ne→Agu,nodup_nil→Agv,contains_eq_mem→Agx,mem_of_getElem?→Agy,all_cons→Agz,mem_singleton→AgB,getElem?_take→AgC,set_cons_zero→AgD,set_cons_succ→AgE,foldl_append→AgH,any_eq_false→AgI,foldl_cons→AgJ,length_map→AgK,replicate→AgM,any_cons→AgO
open Bool renaming true_and→AdW,false_and→AdY,or_eq_true→Af5,not_eq_true'→Af9,and_eq_true→Agk,true_or→Ago,or_eq_false_iff→Agt,not_false→Agw,not_true→AgA,false_or→AgP
open Nat renaming lt_or_ge→Ae1,reduceMod→Ae2,reduceDiv→Ae3,zero_le→Afv,le_refl→Afw,eq_of_beq_eq_true→AfI,add_assoc→AfJ,add_sub_cancel_left→Af6,lt_of_lt_of_le→Agf,beq→Agp,ne_of_gt→AgF,sub_self→AgG,zero_add→AgQ
open Option renaming toList_some→AfW,getD_some→Af2,map_some→AgL,map_map→AgN
open Array renaming getElem?_eq_getElem→Agg,getElem?_modify→Agr
open Int renaming le_refl→AgR
namespace Go.Proofs.YtmidaophnbdcdaaGreatDoor.Dst
abbrev bl (x y:List UInt8):Bool:=Op.bytesLess x y
theorem bl_irrefl:∀ x:List UInt8,bl x x=false
 | []=>rfl
 | a::x=>by
   show (decide (a<a) || (a == a && bl x x))=false
   rw[bl_irrefl x];simp
theorem Aba {a b:UInt8}:a<b↔a.toNat<b.toNat:=UInt8.lt_iff_toNat_lt
theorem O2 {a b:UInt8} {x y:List UInt8}:bl (a::x) (b::y)=true↔a.toNat<b.toNat∨(a=b∧bl x y=true):=by
 show (decide (a<b) || (a == b && bl x y))=true↔_
 simp[Aba]
theorem I3:∀ {x y z:List UInt8},bl x y=true→bl y z=true→bl x z=true
 | [],_::_,[],_,h=>by cases h
 | _::_,_::_,[],_,h=>by cases h
 | [],[],_,h,_=>by cases h
 | _::_,[],_,h,_=>by cases h
 | [],_::_,_::_,_,_=>rfl
 | a::x,b::y,c::z,h1,h2=>by
   rw[O2] at *
   rcases h1 with h1 | ⟨rfl,h1⟩
   ·rcases h2 with h2 | ⟨rfl,h2⟩
    ·left;omega
    ·exact .inl h1
   ·rcases h2 with h2 | ⟨rfl,h2⟩
    ·exact .inl h2
    ·exact .inr ⟨rfl,I3 h1 h2⟩
theorem I4:∀ {x y:List UInt8},bl x y=false→bl y x=false→x=y
 | [],[],_,_=>rfl
 | [],_::_,h,_=>by cases h
 | _::_,[],_,h=>by cases h
 | a::x,b::y,h1,h2=>by
   have g1:¬(bl (a::x) (b::y)=true):=by rw[h1];decide
   have g2:¬(bl (b::y) (a::x)=true):=by rw[h2];decide
   rw[O2] at g1 g2
   have e:a=b:=UInt8.toNat_inj.1 (by omega)
   subst e
   have:x=y:=I4 (by cases e:bl x y<;>simp_all) (by cases e:bl y x<;>simp_all)
   rw[this]
def Asc (l:List (List UInt8)):Prop:=l.Pairwise fun x y=>bl x y=true
theorem Ua:∀ {l m:List (List UInt8)},Asc l→Asc m→(∀ s,s∈l↔s∈m)→l=m
 | [],[],_,_,_=>rfl
 | [],y::m,_,_,h=>by have:=(h y).2 (by simp);cases this
 | x::l,[],_,_,h=>by have:=(h x).1 (by simp);cases this
 | x::l,y::m,h1,h2,h=>by
   obtain ⟨p1,p2⟩:=AfN.1 h1
   obtain ⟨q1,q2⟩:=AfN.1 h2
   have e:x=y:=by
    rcases Ad0.1 ((h x).1 (by simp)) with e | e
    ·exact e
    ·rcases Ad0.1 ((h y).2 (by simp)) with e' | e'
     ·exact e'.symm
     ·have:=I3 (p1 y e') (q1 x e);rw[bl_irrefl] at this;cases this
   subst e
   rw[Ua p2 q2 fun s=>?_]
   constructor
   ·intro hs
    rcases Ad0.1 ((h s).1 (by simp[hs])) with e | e
    ·subst e;have:=p1 s hs;rw[bl_irrefl] at this;cases this
    ·exact e
   ·intro hs
    rcases Ad0.1 ((h s).2 (by simp[hs])) with e | e
    ·subst e;have:=q1 s hs;rw[bl_irrefl] at this;cases this
    ·exact e
def Hq (s:List UInt8):List (List UInt8)→Nat
 | []=>0
 | x::l=>if bl x s=true then Hq s l+1 else 0
def LS (l:List (List UInt8)) (s:List UInt8):List (List UInt8) :=
 if Hq s l<l.length∧l.getD (Hq s l) []=s then l else l.take (Hq s l)++s::l.drop (Hq s l)
theorem Nt (x:List UInt8) (l:List (List UInt8)) (s:List UInt8):LS (x::l) s=if bl x s=true then x::LS l s else if x=s then x::l else s::x::l:=by
 unfold LS
 rw[Hq]
 by_cases h:bl x s=true
 ·rw[if_pos h,if_pos h]
  by_cases h2:Hq s l<l.length∧l.getD (Hq s l) []=s
  ·rw[if_pos h2,if_pos (by simpa using h2)]
  ·rw[if_neg h2,if_neg (by simpa using h2)];simp
 ·rw[if_neg h,if_neg h]
  simp
theorem LJ (s t:List UInt8):∀ l:List (List UInt8),t∈LS l s↔t=s∨t∈l
 | []=>by simp[LS,Hq]
 | x::l=>by
   have ih:=LJ s t l
   rw[Nt]
   split
   ·simp only[Ad0,ih];exact or_left_comm
   ·split
    ·rename_i e;subst e;simp
    ·simp
theorem Rv (s:List UInt8):∀ {l:List (List UInt8)},Asc l→Asc (LS l s)
 | [],_=>by simp[LS,Hq,Asc]
 | x::l,h=>by
   obtain ⟨p1,p2⟩:=AfN.1 h
   have ih:=Rv s (l:=l) p2
   rw[Nt]
   split
   ·rename_i hx
    refine AfN.2 ⟨fun t ht=>?_,ih⟩
    rcases (LJ s t l).1 ht with rfl | ht
    ·exact hx
    ·exact p1 t ht
   ·rename_i hx
    split
    ·exact h
    ·rename_i hne
     have hs:bl s x=true:=by
      cases e:bl s x with
      | true=>rfl
      | false=>exact absurd (I4 (by simpa using hx) e) hne
     refine AfN.2 ⟨fun t ht=>?_,h⟩
     rcases Ad0.1 ht with rfl | ht
     ·exact hs
     ·exact I3 hs (p1 t ht)
def setL (l:List (List UInt8)):List (List UInt8):=l.foldl LS []
theorem HQ:∀ (l m:List (List UInt8)),Asc m→Asc (l.foldl LS m)∧∀ t,t∈l.foldl LS m↔t∈l∨t∈m
 | [],m,h=>⟨h,fun t=>by simp⟩
 | s::l,m,h=>by
   obtain ⟨h1,h2⟩:=HQ l (LS m s) (Rv s h)
   refine ⟨h1,fun t=>?_⟩
   rw[AgJ,h2 t,LJ,Ad0]
   constructor
   ·rintro (h | h | h)
    ·exact .inl (.inr h)
    ·exact .inl (.inl h)
    ·exact .inr h
   ·rintro ((h | h) | h)
    ·exact .inr (.inl h)
    ·exact .inl h
    ·exact .inr (.inr h)
theorem asc_setL (l:List (List UInt8)):Asc (setL l):=(HQ l [] List.Pairwise.nil).1
theorem mem_setL {l:List (List UInt8)} {t:List UInt8}:t∈setL l↔t∈l:=by rw[setL,(HQ l [] List.Pairwise.nil).2];simp
def dedup:List (List UInt8)→List (List UInt8)
 | x::y::l=>if x=y then dedup (y::l) else x::dedup (y::l)
 | l=>l
theorem Js {t:List UInt8}:∀ {l:List (List UInt8)},t∈dedup l↔t∈l
 | []=>by simp[dedup]
 | [x]=>by simp[dedup]
 | x::y::l=>by
   have ih:=Js (t:=t) (l:=y::l)
   rw[dedup]
   split
   ·rename_i e;subst e;rw[ih];simp
   ·rw[Ad0,ih,←Ad0]
theorem ND:∀ {l:List (List UInt8)},l.Pairwise (fun x y=>bl y x=false)→Asc (dedup l)
 | [],_=>by simp[dedup,Asc]
 | [x],_=>by simp[dedup,Asc]
 | x::y::l,h=>by
   obtain ⟨p1,p2⟩:=AfN.1 h
   have ih:=ND (l:=y::l) p2
   rw[dedup]
   split
   ·exact ih
   ·rename_i hne
    have hxy:bl x y=true:=by
     cases e:bl x y with
     | true=>rfl
     | false=>exact absurd (I4 e (p1 y (by simp))) hne
    refine AfN.2 ⟨fun t ht=>?_,ih⟩
    rcases Ad0.1 (Js.1 ht) with rfl | ht
    ·exact hxy
    ·have h2:=(AfN.1 p2).1 t ht
     cases e:bl y t with
     | true=>exact I3 hxy e
     | false=>rw[I4 e h2] at hxy;exact hxy
theorem Sa {l m:List (List UInt8)} (h:m.Pairwise (fun x y=>bl y x=false)) (hp:∀ t,t∈m↔t∈l):dedup m=setL l :=
 Ua (ND h) (asc_setL l) fun t=>by rw[Js,mem_setL,hp]
end Go.Proofs.YtmidaophnbdcdaaGreatDoor.Dst
namespace Go.Proofs.YtmidaophnbdcdaaGreatDoor.Dst
open Go.Abs
def wordsL:List (List UInt8):=[[97,110,110],[98,111,98],[99,121],[66,101,114,110],[85,108,109],[78,101,119,32,89,111,114,107],[121,111,114,107,32,110,101,119],[97,45,49],[98,45,50,50],[120],[122,195,188,114,105,99,104],[65,110,110],[98,111],[99,97,116],[98,97,116],[114,97,116]]
end Go.Proofs.YtmidaophnbdcdaaGreatDoor.Dst
namespace Go.Proofs.YtmidaophnbdcdaaGreatDoor.Dst
open Go Go.Proofs Go.Abs
variable {G:Ad}
abbrev M0:BZ:=fun _=>false
abbrev S (l:List UInt8):D:=.str (bs l)
theorem cells_nums {l:List UInt8}:(l.map fun b=>D.int .u8 (b.toNat:Int))=Ax .u8 (Bs l):=by simp[Ax,Bs]
def strs (l:List (List UInt8)):List D:=l.map fun s=>S s
theorem strs_length {l:List (List UInt8)}:(strs l).length=l.length:=by simp[strs]
theorem strs_unf {l:List (List UInt8)}:(strs l).map unf0=strs l:=by simp[strs,unf0]
theorem strs_getD {l:List (List UInt8)} {i:Nat} (h:i<l.length):(strs l).getD i .nilp=S (l.getD i []):=by
 simp[strs,AdV,h]
abbrev Ss (l:List (List UInt8)) (full:Bool):D:=.sl l.length full (strs l)
theorem mem_take_succ {l:List (List UInt8)} {i:Nat} {s:List UInt8} (h:i<l.length):s∈l.take (i+1)↔s∈l.take i∨l.getD i []=s:=by
 rw[Afs,AdU h,AdV,AdU h]
 simp only[AfW,Agd,AgB,Af2]
 exact or_congr_right eq_comm
theorem has_spec (l:List (List UInt8)) (full:Bool) (s:List UInt8) (hl:l.length≤1000000):Ctr TP G 37 [.d (Ss l full),.d (S s)] [] (.d (.bool (decide (s∈l)))) []:=by
 refine Ctr.pure (M:=M0) Am Tryz.func37 rfl go37 ?_
 simp(maxSteps:=1000000)(disch:=(try simp only[awL]);omega)only[awS,Tryz.f37,↓awU,awY,↓reduceIte,↓reduceDIte,↓Qe,Qu,Qv,Qw,Qx,Qy,Qz,QA,QB,QC,QD,QE,QF,QG,QH,QI,QK]
 refine Au.fr 386 (α:=Nat) (fun i=>l.length-i) (fun i=>[(9,.d (.int .i64 i))]) (fun _=>[]) (fun i=>i≤l.length∧s∉l.take i) 0 ⟨Afv _,by simp⟩ ?_ ?_
 ·exact ⟨[],rfl,by simp,by simp[sA,kA,SW,AW],by simp[HW,BW,SW,AW]⟩
 ·rintro i ⟨h1,h2⟩
  have sl:=@strs_length l
  simp only[awK,Ae2,Ae3,reduceIte]
  rcases Ae1 i l.length with h | h
  ·have g1:=strs_getD h
   have hm:=@mem_take_succ l i s h
   by_cases he:l.getD i []=s
   ·have hin:s∈l:=List.mem_of_mem_take (hm.2 (.inr he))
    rw[decide_eq_true hin]
    rw[he] at g1
    simp(maxSteps:=1000000)(disch:=(try simp only[awL]);omega)only[awS,sl,g1,beq_self_eq_true,↓awU,awY,↓reduceIte,↓reduceDIte,↓Qe,Qu,Qv,Qw,Qx,Qy,Qz,QA,QB,QC,QD,QE,QF,QG,QH,QI,QK]
    try rfl
   ·have hne:(l.getD i [] == s)=false:=by simpa using he
    simp(maxSteps:=1000000)(disch:=(try simp only[awL]);omega)only[awS,sl,g1,hne,↓awU,awY,↓reduceIte,↓reduceDIte,↓Qe,Qu,Qv,Qw,Qx,Qy,Qz,QA,QB,QC,QD,QE,QF,QG,QH,QI,QK]
    exact ⟨i+1,⟨h,fun q=>(hm.1 q).elim h2 he⟩,by simp only;omega,⟨[],rfl,by simp,by simp[sA,kA,SW,AW],by simp[HW,BW,SW,AW]⟩⟩
  ·obtain rfl:i=l.length:=by omega
   rw[AfP] at h2
   rw[decide_eq_false h2]
   simp(maxSteps:=1000000)(disch:=(try simp only[awL]);omega)only[awS,sl,↓awU,awY,↓reduceIte,↓reduceDIte,↓Qe,Qu,Qv,Qw,Qx,Qy,Qz,QA,QB,QC,QD,QE,QF,QG,QH,QI,QK]
   try rfl
theorem VU {l:List (List UInt8)} {i:Nat} {s:List UInt8}:(strs l).set i (S s)=strs (l.set i s):=by simp[strs,List.map_set]
theorem RU {n:Nat}:AH [.str .empty] n=strs (AgM n []):=by rw[KR,strs,List.map_replicate];rfl
theorem strs_app {l m:List (List UInt8)} {k:Nat}:(strs l).take k++strs m=strs (l.take k++m):=by simp[strs,List.map_take]
abbrev DiceM (t:List Int) (k:Nat):Aa:=.box [.d (.sl t.length false (Ax .u8 t)),.d (.int .i64 (min k t.length:Nat))]
def OkM (t:List Int):Prop:=t.length≤300∧∀ i,0≤t.getD i 0∧t.getD i 0≤255
theorem new_spec (t:List Int) (ht:t.length≤9223372036854775807):Ctr TP G 8 [.d (.sl t.length false (Ax .u8 t))] [] (.ptr 0 0) [DiceM (t.take 300) 0]:=by
 refine Ctr.body (M:=M0) Am Tryz.func8 rfl go8 ?_
 rcases Ae1 300 t.length with h | h
 ·have e:(t.take 300).length=300:=by rw[Aga];omega
  simp(maxSteps:=1000000)(disch:=(try simp only[awL]);omega)only[Tryz.f8,e,↓awU,awY,↓reduceIte,↓reduceDIte,↓Qe,Qu,Qv,Qw,Qx,Qy,Qz,QA,QB,QC,QD,QE,QF,QG,QH,QI,QK]
  exact ⟨[some 0],rfl,by simp,by simp[HW,BW,SW,AW];omega,.inl (by simp[AW])⟩
 ·have e:t.take 300=t:=Agl h
  simp(maxSteps:=1000000)(disch:=(try simp only[awL]);omega)only[Tryz.f8,e,↓awU,awY,↓reduceIte,↓reduceDIte,↓Qe,Qu,Qv,Qw,Qx,Qy,Qz,QA,QB,QC,QD,QE,QF,QG,QH,QI,QK]
  exact ⟨[some 0],rfl,by simp,by simp[HW,BW,SW,AW],.inl (by simp[AW,SW])⟩
def pk (t:List Int) (k:Nat) (n:Int):Int:=t.getD k 0 % n
theorem pk_range {t:List Int} {k:Nat} {n:Int} (h:0<n):0≤pk t k n∧pk t k n<n:=⟨Int.emod_nonneg _ (by omega),Int.emod_lt_of_pos _ h⟩
theorem pk_nat (t:List Int) (k:Nat) (n:Int) (h:0<n):∃ c:Nat,pk t k n=c∧(c:Int)<n:=⟨(pk t k n).toNat,by have:=@pk_range t k n h;omega,by have:=@pk_range t k n h;omega⟩
theorem pick_spec (t:List Int) (k:Nat) (n:Int) (ht:OkM t) (h0:0<n) (h1:n≤1000) :
  Ctr TP G 25 [.ptr 0 0,.d (.int .i64 n)] [DiceM t k] (.d (.int .i64 (pk t k n))) [DiceM t (k+1)]:=by
 obtain ⟨ht,htt⟩:=ht
 refine Ctr.body (M:=M0) Am Tryz.func25 rfl go25 ?_
 rcases Ae1 k t.length with h | h
 ·have e1:min k t.length=k:=by omega
  have e2:min (k+1) t.length=k+1:=by omega
  obtain ⟨b1,b2⟩:=htt k
  have e3:(t.getD k 0).tmod n=pk t k n:=Int.tmod_eq_emod_of_nonneg b1
  simp only[e1,e2,DiceM]
  simp(maxSteps:=1000000)(disch:=(try simp only[awL]);omega)only[Tryz.f25,e3,↓awU,awY,↓reduceIte,↓reduceDIte,↓Qe,Qu,Qv,Qw,Qx,Qy,Qz,QA,QB,QC,QD,QE,QF,QG,QH,QI,QK]
  refine ⟨by rfl,by rfl,?_⟩
  exact ⟨[some 0],rfl,by simp,by simp[HW,BW,SW,AW],.inl (by simp[AW,SW])⟩
 ·have e1:min k t.length=t.length:=by omega
  have e2:min (k+1) t.length=t.length:=by omega
  have e3:pk t k n=0:=by rw[pk,AdV,List.getElem?_eq_none h];simp
  simp only[e1,e2,e3,DiceM]
  simp(maxSteps:=1000000)(disch:=(try simp only[awL]);omega)only[Tryz.f25,↓awU,awY,↓reduceIte,↓reduceDIte,↓Qe,Qu,Qv,Qw,Qx,Qy,Qz,QA,QB,QC,QD,QE,QF,QG,QH,QI,QK]
  refine ⟨by rfl,?_⟩
  exact ⟨[some 0],rfl,by simp,by simp[HW,BW,SW,AW],.inl (by simp[AW,SW])⟩
theorem words_spec:Ctr TP G 52 [] [] (.d (Ss wordsL false)) []:=by
 refine Ctr.pure (M:=M0) Am Tryz.func52 rfl go52 ?_
 simp(maxSteps:=1000000)(disch:=(try simp only[awL]);omega)only[awS,Tryz.f52,↓awU,awY,↓reduceIte,↓reduceDIte,↓Qe,Qu,Qv,Qw,Qx,Qy,Qz,QA,QB,QC,QD,QE,QF,QG,QH,QI,QK]
 try rfl
end Go.Proofs.YtmidaophnbdcdaaGreatDoor.Dst
namespace Go.Proofs.YtmidaophnbdcdaaGreatDoor.Dst
open Go Go.Proofs Go.Abs Go.RowKit Go.Sort Go.Shelf
theorem AaJ {h:Ag} {v:Value} {x:List UInt8} (r:RD h v (S x)):v=encStr x:=by
 cases r with
 | str s=>rfl
theorem strs_get {l:List (List UInt8)} {i:Nat} {x:D} (h:(strs l)[i]?=some x):∃ y,l[i]?=some y∧x=S y:=by
 simp only[strs,AfR] at h
 cases hl:l[i]? with
 | none=>simp[hl] at h
 | some y=>simp[hl] at h;exact ⟨y,rfl,h.symm⟩
theorem Uu {l:List (List UInt8)} {i:Nat} (h:i<l.length):(strs l)[i]?=some (S l[i]):=by simp[strs,AdU h]
theorem VW {P:Program} {G:Ad} {f:FuncId} (hg:Ar P f=true)
  (hs:∀ (blk off cap:Nat) (ss:List (List UInt8)) (w:World),Holds encStr w blk off ss.toArray→blk<w.heap.size→ss.length<4611686018427387904 →
   Calls P f #[.slice (some ⟨blk,off,none⟩) ss.length cap] w fun e w'=>e=.returned (.tuple #[])∧∃ n os,w'=grow (putRow encStr (Sort.ahead w n) blk off (ss.mergeSort fun x y=>decide (x≤y)).toArray) os)
  (hn:∀ (p:Option Addr) (cap:Nat) (w:World),Calls P f #[.slice p 0 cap] w fun e w'=>e=.returned (.tuple #[])∧w'=w)
  (l:List (List UInt8)) (hl:l.length≤100000):Ctr P G f [.lsl 0 1 0 l.length] [.row false (strs l)] .undef [.row false (strs (l.mergeSort fun x y=>decide (x≤y)))]:=by
 refine ⟨hg,fun h ρ w vs s r=>?_⟩
 obtain ⟨v,rfl,hv⟩:=r.inv1
 have hb:=s.blk 0 _ rfl
 rcases Nat.eq_zero_or_pos l.length with h0 | h0
 ·obtain rfl:l=[]:=List.eq_nil_of_length_eq_zero h0
  have key:∃ p cap,v=.slice p 0 cap:=by
   cases hv with
   | lsl0 base=>exact ⟨_,_,rfl⟩
   | lsl b sz off n cap g S h1 h2 h3=>exact ⟨_,_,rfl⟩
  obtain ⟨p,cap,rfl⟩:=key
  refine (hn p cap w).mono ?_
  rintro e w' ⟨rfl,rfl⟩
  exact ⟨_,h,ρ,rfl,by simpa using s,.undef _,AU.refl _ _ _⟩
 ·have key:∃ g S cap,v=.slice (some ⟨g,0,none⟩) l.length cap∧ρ 0=some (g,S)∧l.length≤cap∧0+cap*1≤S:=by
   generalize hk:l.length=k at hv h0
   cases hv with
   | lsl0 base=>omega
   | lsl b sz off n cap g S h1 h2 h3=>exact ⟨g,S,cap,rfl,h1,h2,h3⟩
  obtain ⟨g,S,cap,rfl,hρ,hcap,hS⟩:=key
  obtain ⟨hone,hb⟩:=hb
  rcases hb with ⟨hno,_⟩ | ⟨g',S',c,E,fr,b1,b2,b3,b4,b5,b6,b7,b8⟩
  ·rw[hρ] at hno;cases hno
  rw[hρ] at b1;cases b1
  have hlen:(strs l).length=l.length:=strs_length
  have hcs:l.length≤c.size:=by omega
  have hval:∀ (j:Nat) (hj:j<l.length),c[j]?=some (encStr l[j]):=fun j hj=>by
   have h1:c[j]?=some c[j]:=Agg (by omega)
   rw[h1,AaJ (b6 j _ _ (Uu hj) h1)]
  have hH:Holds encStr w g 0 l.toArray:=by
   intro j hj
   have hj':j<l.length:=by simpa using hj
   refine ⟨?_,?_⟩
   ·simp only[World.cell?,b2,AgQ]
    rw[hval j hj']
    simp[hj']
   ·simp only[World.frozen?,b2,AgQ]
    have:=b4 j (by omega)
    simp only[Bool.and_eq_false_iff,decide_eq_false_iff_not]
    omega
  have hgl:g<w.heap.size:=(Array.getElem?_eq_some_iff.1 b2).1
  refine (hs g 0 cap l w hH hgl (by omega)).mono ?_
  rintro e w' ⟨rfl,n,os,rfl⟩
  generalize hm:l.mergeSort (fun x y=>decide (x≤y))=m
  have hml:m.length=l.length:=by rw[←hm];exact Agq l
  have other:∀ k,k≠g→k<w.heap.size→(grow (putRow encStr (Sort.ahead w n) g 0 m.toArray) os).heap[k]?=w.heap[k]?:=fun k hk hlt=>by
   rw[heap_grow_old _ _ (by simpa using hlt)]
   show (w.heap.modify g _)[k]?=_
   rw[Agr,if_neg (Ne.symm hk)]
  have same:(grow (putRow encStr (Sort.ahead w n) g 0 m.toArray) os).heap[g]?=some (.cells (putCells encStr 0 m.toArray c) E fr):=by
   rw[heap_grow_old _ _ (by simpa using hgl)]
   show (w.heap.modify g _)[g]?=_
   rw[Agr,if_pos rfl,b2]
   rfl
  have hsz:(putCells encStr 0 m.toArray c).size=c.size:=by simp[putCells]
  have hcell:∀ (j:Nat) (hj:j<m.length),(putCells encStr 0 m.toArray c)[j]?=some (encStr m[j]):=fun j hj=>by
   have:j<c.size:=by omega
   simp[putCells,Array.getElem?_mapIdx,Agg this,hj]
  have hprom:∀ b o u,h b o=some u→(grow (putRow encStr (Sort.ahead w n) g 0 m.toArray) os).cell? ⟨b,o,none⟩=some u:=by
   intro b o u e
   have hlt:=s.held_lt e
   have hne:b≠g:=fun e'=>by subst e';rw[b8 o (fun e=>by cases e)] at e;cases e
   have:=s.prom b o u e
   rw[←this]
   simp only[World.cell?,other b hne hlt]
  refine ⟨_,h,ρ,rfl,⟨hprom,s.glob,fun i b e=>?_,fun i k S2 e=>?_,fun i j k S1 S2 e1 e2 l1 l2=>?_⟩,.undef _,⟨rfl,rfl,rfl,by simp,fun k hk hnk=>other k (fun e=>hnk 0 S (e▸hρ)) hk,Ag.le_refl _,fun _ _ _ _=>rfl,Place.le_refl _,fun i k S2 e=>.inl ⟨i,S2,e⟩⟩⟩
  ·cases i with
   | zero =>
    simp[hp] at e;subst e
    refine ⟨fun j x hx=>?_,.inr ⟨g,S,_,E,fr,hρ,same,by rw[hsz];exact b3,b4,by rw[strs_length,hml];omega,fun j x u hx hu=>?_,(fun e=>by cases e),fun j _=>b8 j (fun e=>by cases e)⟩⟩
    ·obtain ⟨y,_,rfl⟩:=strs_get hx;rfl
    ·obtain ⟨y,hy,rfl⟩:=strs_get hx
     have hj:=(AfO.1 hy).1
     rw[hcell j hj] at hu
     cases hu
     have:m[j]=y:=by rw[AdU hj] at hy;exact Option.some.inj hy
     rw[this]
     exact .str _
   | succ i=>simp[hp] at e
  ·obtain ⟨q1,b,q2⟩:=s.dom i k S2 e
   refine ⟨by simp;omega,?_⟩
   cases i with
   | zero=>exact ⟨_,rfl⟩
   | succ i=>simp[hp] at q2
  ·have z:∀ i,Bk (hp [.row false (strs m)]) i→i=0:=by
    rintro i ⟨b,q,_⟩
    cases i with
    | zero=>rfl
    | succ i=>simp[hp] at q
   rw[z i l1,z j l2]
def Tryz.sortL_ren:Go.Shelf.Ren:=⟨fun | 6=>178 | 8=>210 | 9=>209 | 19=>224 | 20=>191 | 21=>226 | 22=>227 | 23=>228 | 24=>229 | 25=>230 | 26=>231 | 27=>232 | 28=>233 | 29=>234 | 36=>248 | 31=>249 | 32=>250 | 37=>251 | 38=>252 | 39=>253 | 41=>261 | n=>n,fun | 27=>26 | 29=>9 | 3=>3 | 32=>155 | 26=>26 | 0=>0 | 44=>187 | 46=>177 | 4=>4 | 36=>292 | 35=>291 | 41=>296 | 5=>5 | 9=>9 | 53=>311 | 57=>315 | 63=>320 | 64=>321 | n=>n,fun | n=>n⟩
theorem Tryz.sortL:Go.Proofs.SlLaysM.n6 TP Tryz.sortL_ren where
 mixed:=by kernel_rfl
 f6:=⟨Tryz.f178.name,by kernel_rfl,Tryz.func178.trans (congrArg some (by kernel_rfl))⟩
 f8:=Tryz.func210.trans (congrArg some (by kernel_rfl))
 f9:=⟨Tryz.f209.name,by kernel_rfl,Tryz.func209.trans (congrArg some (by kernel_rfl))⟩
 f19:=Tryz.func224.trans (congrArg some (by kernel_rfl))
 f20:=Tryz.func191.trans (congrArg some (by kernel_rfl))
 f21:=⟨Tryz.f226.name,by kernel_rfl,Tryz.func226.trans (congrArg some (by kernel_rfl))⟩
 f22:=⟨Tryz.f227.name,by kernel_rfl,Tryz.func227.trans (congrArg some (by kernel_rfl))⟩
 f23:=⟨Tryz.f228.name,by kernel_rfl,Tryz.func228.trans (congrArg some (by kernel_rfl))⟩
 f24:=⟨Tryz.f229.name,by kernel_rfl,Tryz.func229.trans (congrArg some (by kernel_rfl))⟩
 f25:=⟨Tryz.f230.name,by kernel_rfl,Tryz.func230.trans (congrArg some (by kernel_rfl))⟩
 f26:=⟨Tryz.f231.name,by kernel_rfl,Tryz.func231.trans (congrArg some (by kernel_rfl))⟩
 f27:=⟨Tryz.f232.name,by kernel_rfl,Tryz.func232.trans (congrArg some (by kernel_rfl))⟩
 f28:=⟨Tryz.f233.name,by kernel_rfl,Tryz.func233.trans (congrArg some (by kernel_rfl))⟩
 f29:=⟨Tryz.f234.name,by kernel_rfl,Tryz.func234.trans (congrArg some (by kernel_rfl))⟩
 f31:=Tryz.func249.trans (congrArg some (by kernel_rfl))
 f32:=Tryz.func250.trans (congrArg some (by kernel_rfl))
 f36:=⟨Tryz.f248.name,by kernel_rfl,Tryz.func248.trans (congrArg some (by kernel_rfl))⟩
 f37:=⟨Tryz.f251.name,by kernel_rfl,Tryz.func251.trans (congrArg some (by kernel_rfl))⟩
 f38:=⟨Tryz.f252.name,by kernel_rfl,Tryz.func252.trans (congrArg some (by kernel_rfl))⟩
 f39:=⟨Tryz.f253.name,by kernel_rfl,Tryz.func253.trans (congrArg some (by kernel_rfl))⟩
 f41:=⟨Tryz.f261.name,by kernel_rfl,Tryz.func261.trans (congrArg some (by kernel_rfl))⟩
 t0:=Tryz.underlying0
 a0:=Tryz.isAgg0
 z0:=Tryz.sizeOf0
 v0:=Tryz.zeroValue0
 t3:=Tryz.underlying3
 a3:=Tryz.isAgg3
 z3:=Tryz.sizeOf3
 v3:=Tryz.zeroValue3
 t4:=Tryz.underlying4
 a4:=Tryz.isAgg4
 z4:=Tryz.sizeOf4
 v4:=Tryz.zeroValue4
 t5:=Tryz.underlying5
 a5:=Tryz.isAgg5
 z5:=Tryz.sizeOf5
 v5:=Tryz.zeroValue5
 t9:=Tryz.underlying9
 a9:=Tryz.isAgg9
 z9:=Tryz.sizeOf9
 v9:=Tryz.zeroValue9
 t26:=Tryz.underlying26
 a26:=Tryz.isAgg26
 z26:=Tryz.sizeOf26
 v26:=Tryz.zeroValue26
 t27:=Tryz.underlying26
 a27:=Tryz.isAgg26
 z27:=Tryz.sizeOf26
 v27:=Tryz.zeroValue26
 t29:=Tryz.underlying9
 a29:=Tryz.isAgg9
 z29:=Tryz.sizeOf9
 v29:=Tryz.zeroValue9
 t32:=Tryz.underlying155
 a32:=Tryz.isAgg155
 z32:=Tryz.sizeOf155
 v32:=Tryz.zeroValue155
 t35:=Tryz.underlying291
 a35:=Tryz.isAgg291
 z35:=Tryz.sizeOf291
 v35:=Tryz.zeroValue291
 t36:=Tryz.underlying292
 a36:=Tryz.isAgg292
 z36:=Tryz.sizeOf292
 v36:=Tryz.zeroValue292
 t41:=Tryz.underlying296
 a41:=Tryz.isAgg296
 z41:=Tryz.sizeOf296
 v41:=Tryz.zeroValue296
 t44:=Tryz.underlying187
 a44:=Tryz.isAgg187
 z44:=Tryz.sizeOf187
 v44:=Tryz.zeroValue187
 t46:=Tryz.underlying177
 a46:=Tryz.isAgg177
 z46:=Tryz.sizeOf177
 v46:=Tryz.zeroValue177
 t53:=Tryz.underlying311
 a53:=Tryz.isAgg311
 z53:=Tryz.sizeOf311
 v53:=Tryz.zeroValue311
 t57:=Tryz.underlying315
 a57:=Tryz.isAgg315
 z57:=Tryz.sizeOf315
 v57:=Tryz.zeroValue315
 t63:=Tryz.underlying320
 a63:=Tryz.isAgg320
 z63:=Tryz.sizeOf320
 v63:=Tryz.zeroValue320
 t64:=Tryz.underlying321
 a64:=Tryz.isAgg321
 z64:=Tryz.sizeOf321
 v64:=Tryz.zeroValue321
def srt (l:List (List UInt8)):List (List UInt8):=l.mergeSort fun x y=>decide (x≤y)
theorem R2 {l:List (List UInt8)}:(srt l).length=l.length:=Agq l
theorem Uw {G:Ad} (l:List (List UInt8)) (hl:l.length≤100000):Ctr TP G 178 [.lsl 0 1 0 l.length] [.row false (strs l)] .undef [.row false (strs (srt l))] :=
 VW Aej (fun blk off cap ss w h1 h2 h3=>AnyM.slices_Sort_string Tryz.sortL blk off cap ss w h1 h2 h3) (fun p cap w=>AnyM.slices_Sort_string_none Tryz.sortL p cap w) l hl
end Go.Proofs.YtmidaophnbdcdaaGreatDoor.Dst
namespace Go.Proofs.YtmidaophnbdcdaaGreatDoor.Dst
theorem L7 (x:List UInt8):∀ l:List (List UInt8),dedup (l++[x])=if l.getLast? = some x then dedup l else dedup l++[x]
 | []=>by simp[dedup]
 | [y]=>by
   by_cases h:y=x
   ·subst h;simp[dedup]
   ·simp[dedup,h]
 | y::z::l=>by
   have ih:=L7 x (z::l)
   have hl:(y::z::l).getLast? = (z::l).getLast?:=by simp[List.getLast?_cons_cons]
   rw[hl]
   show dedup (y::z::(l++[x]))=_
   rw[dedup,dedup]
   have ih':dedup (z::(l++[x]))=if (z::l).getLast? = some x then dedup (z::l) else dedup (z::l)++[x]:=ih
   rw[ih']
   split
   ·split<;>rfl
   ·split
    ·rfl
    ·rfl
theorem L4 {l:List (List UInt8)} {i:Nat} (h0:1≤i) (h:i<l.length):dedup (l.take (i+1))=if l.getD (i-1) []=l.getD i [] then dedup (l.take i) else dedup (l.take i)++[l.getD i []]:=by
 have e:l.take (i+1)=l.take i++[l.getD i []]:=by
  rw[Afs,AdU h,AdV,AdU h];rfl
 have hl:(l.take i).getLast? = some (l.getD (i-1) []):=by
  rw[List.getLast?_eq_getElem?,Aga,AgC,if_pos (by omega),show min i l.length-1=i-1 by omega,AdV,AdU (by omega)]
  rfl
 rw[e,L7,hl]
 simp only[Option.some.injEq]
end Go.Proofs.YtmidaophnbdcdaaGreatDoor.Dst
namespace Go.Proofs.YtmidaophnbdcdaaGreatDoor.Dst
open Go Go.Proofs Go.Abs
variable {G:Ad}
def cpt (l:List (List UInt8)):List (List UInt8):=dedup l++AgM (l.length-(dedup l).length) []
theorem OQ (l:List (List UInt8)) (hl:l.length≤100000):Ctr TP G 143 [.lsl 0 1 0 l.length] [.row false (strs l)] (.lsl 0 1 0 (dedup l).length) [.row false (strs (cpt l))]:=by
 refine Ctr.body (M:=M0) Am Tryz.func143 rfl AeB ?_
 have sl:=@strs_length l
 rcases Ae1 l.length 2 with h2 | h2
 ·have e:dedup l=l∧cpt l=l:=by
   match l,h2 with
   | [],_=>exact ⟨rfl,rfl⟩
   | [x],_=>exact ⟨rfl,rfl⟩
  rw[e.1,e.2]
  simp(maxSteps:=1000000)(disch:=(try simp only[awL]);omega)only[awS,sl,Tryz.f143,↓awU,awY,↓reduceIte,↓reduceDIte,↓Qe,Qu,Qv,Qw,Qx,Qy,Qz,QA,QB,QC,QD,QE,QF,QG,QH,QI,QK]
  exact ⟨[some 0],rfl,by simp,by simp[HW,BW,SW,AW],.inl (by simp[AW,SW])⟩
 ·simp(maxSteps:=1000000)(disch:=(try simp only[awL]);omega)only[awS,sl,Tryz.f143,↓awU,awY,↓reduceIte,↓reduceDIte,↓Qe,Qu,Qv,Qw,Qx,Qy,Qz,QA,QB,QC,QD,QE,QF,QG,QH,QI,QK]
  refine Au.fr 1 (α:=Nat) (fun i=>l.length-i) (fun i=>[(3,.d (.int .i64 i))]) (fun _=>[.row false (strs l)]) (fun i=>1≤i∧i≤l.length∧dedup (l.take i)=l.take i) 1 ⟨Afw _,by omega,by
   match l,h2 with
   | x::r,_=>rfl⟩ ?_ ?_
  ·exact ⟨[some 0],rfl,by simp,by simp[sA,kA,SW,AW],by simp[HW,BW,SW,AW]⟩
  ·rintro i ⟨h1,h3,h4⟩
   simp only[awK,Ae2,Ae3,reduceIte]
   rcases Ae1 i l.length with h | h
   ·have e1:((i:Int)-1)=((i-1:Nat):Int):=by omega
    have g1:=strs_getD (l:=l) (i:=i-1) (by omega)
    have g2:=strs_getD h
    have hd:=L4 h1 h
    by_cases he:l.getD (i-1) []=l.getD i []
    ·rw[if_pos he] at hd
     rw[he] at g1
     simp(maxSteps:=1000000)(disch:=(try simp only[awL]);omega)only[awS,sl,e1,g1,g2,beq_self_eq_true,↓awU,awY,↓reduceIte,↓reduceDIte,↓Qe,Qu,Qv,Qw,Qx,Qy,Qz,QA,QB,QC,QD,QE,QF,QG,QH,QI,QK]
     refine ⟨by rfl,?_⟩
     have hlt:(l.take i).length=i:=by rw[Aga];omega
     refine Au.fr 17 (α:=Nat × Nat × List (List UInt8)) (fun x=>l.length-(i+x.1)) (fun x=>[(3,.d (.int .i64 x.2.1)),(5,.d (.int .i64 x.1))]) (fun x=>[.row false (strs x.2.2)])
      (fun x=>1≤x.1∧i+x.1≤l.length∧x.2.2.length=l.length∧x.2.1=(dedup (l.take (i+x.1))).length∧x.2.2.take x.2.1=dedup (l.take (i+x.1))∧x.2.1+1≤i+x.1∧∀ q,i+x.1≤q+1→q<l.length→x.2.2.getD q []=l.getD q [])
      (1,i,l) ⟨Afw _,h,rfl,by simp only;rw[hd,h4,hlt],by simp only;rw[hd,h4],Afw _,fun q _ _=>rfl⟩ ?_ ?_
     ·exact ⟨[some 0],rfl,by simp,by simp[sA,kA,SW,AW],by simp[HW,BW,SW,AW]⟩
     ·rintro ⟨j,k,R⟩ ⟨j1,j2,j3,j4,j5,j6,j7⟩
      simp only at j1 j2 j3 j4 j5 j6 j7
      have sR:=@strs_length R
      simp only[awK,Ae2,Ae3,reduceIte]
      rcases Ae1 (i+j) l.length with hj | hj
      ·have e2:((j:Int)-1)=((j-1:Nat):Int):=by omega
       have r1:=strs_getD (l:=R) (i:=i+j) (by omega)
       have r2:=strs_getD (l:=R) (i:=i+(j-1)) (by omega)
       rw[j7 (i+j) (by omega) hj] at r1
       rw[j7 (i+(j-1)) (by omega) (by omega)] at r2
       have hd2:=L4 (l:=l) (i:=i+j) (by omega) hj
       rw[show i+j-1=i+(j-1) by omega] at hd2
       by_cases hq:l.getD (i+(j-1)) []=l.getD (i+j) []
       ·rw[if_pos hq] at hd2
        rw[hq] at r2
        simp(maxSteps:=1000000)(disch:=(try simp only[awL]);omega)only[awS,sR,j3,e2,r1,r2,beq_self_eq_true,↓awU,awY,↓reduceIte,↓reduceDIte,↓Qe,Qu,Qv,Qw,Qx,Qy,Qz,QA,QB,QC,QD,QE,QF,QG,QH,QI,QK]
        exact ⟨by rfl,(j+1,k,R),⟨by simp only;omega,hj,j3,by simp only;rw[←AfJ,hd2];exact j4,by simp only;rw[←AfJ,hd2];exact j5,by simp only;omega,fun q a b=>j7 q (by simp only at a;omega) b⟩,by simp only;omega,⟨[some 0],rfl,by simp,by simp[sA,kA,SW,AW],by simp[HW,BW,SW,AW]⟩⟩
       ·rw[if_neg hq] at hd2
        have hne:(l.getD (i+j) [] == l.getD (i+(j-1)) [])=false:=by simpa using fun q=>hq q.symm
        have hk:k<R.length:=by omega
        have ht:(R.set k (l.getD (i+j) [])).take (k+1)=R.take k++[l.getD (i+j) []]:=by
         rw[Afs,List.getElem?_set_self hk,List.take_set_of_le (Afw _)];rfl
        simp(maxSteps:=1000000)(disch:=(try simp only[awL]);omega)only[awS,sR,j3,e2,r1,r2,hne,VU,↓awU,awY,↓reduceIte,↓reduceDIte,↓Qe,Qu,Qv,Qw,Qx,Qy,Qz,QA,QB,QC,QD,QE,QF,QG,QH,QI,QK]
        exact ⟨by rfl,(j+1,k+1,R.set k (l.getD (i+j) [])),⟨by simp only;omega,hj,by simp only[Af4];exact j3,by simp only;rw[←AfJ,hd2,AdZ,←j4];rfl,by simp only;rw[←AfJ,hd2,ht,j5],by simp only;omega,fun q a b=>by
         simp only at a
         rw[AdV,Ags (by omega),←AdV]
         exact j7 q (by omega) b⟩,by simp only;omega,⟨[some 0],rfl,by simp,by simp[sA,kA,SW,AW],by simp[HW,BW,SW,AW]⟩⟩
      ·have hjl:i+j=l.length:=by omega
       rw[hjl,AfP] at j4 j5
       have hrow:(strs R).take k++AH [.str .empty] (l.length-k)++(strs R).drop l.length=strs (cpt l):=by
        rw[Agm (by omega),List.append_nil,RU,strs_app,j5]
        unfold cpt
        rw[←j4]
       have hkl:k+(l.length-k)=l.length:=by omega
       rw[←j4]
       simp(maxSteps:=1000000)(disch:=(try simp only[awL]);omega)only[awS,sR,j3,hkl,Nat.mul_one,hrow,↓awU,awY,↓reduceIte,↓reduceDIte,↓Qe,Qu,Qv,Qw,Qx,Qy,Qz,QA,QB,QC,QD,QE,QF,QG,QH,QI,QK]
       first
       | exact ⟨[some 0],rfl,by simp,by simp[HW,BW,SW,AW],.inl (by simp[AW,SW])⟩
       | trace_state
    ·rw[if_neg he,h4] at hd
     have hne:(l.getD i [] == l.getD (i-1) [])=false:=by simpa using fun q=>he q.symm
     have hd2:dedup (l.take (i+1))=l.take (i+1):=by
      rw[hd,Afs,AdU h,AdV,AdU h];rfl
     simp(maxSteps:=1000000)(disch:=(try simp only[awL]);omega)only[awS,sl,e1,g1,g2,hne,↓awU,awY,↓reduceIte,↓reduceDIte,↓Qe,Qu,Qv,Qw,Qx,Qy,Qz,QA,QB,QC,QD,QE,QF,QG,QH,QI,QK]
     exact ⟨by rfl,i+1,⟨by omega,h,hd2⟩,by simp only;omega,⟨[some 0],rfl,by simp,by simp[sA,kA,SW,AW],by simp[HW,BW,SW,AW]⟩⟩
   ·obtain rfl:i=l.length:=by omega
    rw[AfP] at h4
    have e:cpt l=l:=by unfold cpt;rw[h4];simp
    rw[h4,e]
    simp(maxSteps:=1000000)(disch:=(try simp only[awL]);omega)only[awS,sl,↓awU,awY,↓reduceIte,↓reduceDIte,↓Qe,Qu,Qv,Qw,Qx,Qy,Qz,QA,QB,QC,QD,QE,QF,QG,QH,QI,QK]
    exact ⟨[some 0],rfl,by simp,by simp[HW,BW,SW,AW],.inl (by simp[AW,SW])⟩
def MY:BZ:=fun k=>k == 3000000
theorem MY_n {k:Nat} (h:k<3000000):MY k=false:=by
 simp only[MY,beq_eq_false_iff_ne];exact Nat.ne_of_lt h
theorem Tdo_cons {x:D} {r:List D} {t:List (D × Bool)} (h:Tdo (x::r) t):(∃ t',t=(x,true)::t'∧Tdo r t')∨t=[(x,false)]:=by
 match t,h with
 | (z,true)::t,h=>exact .inl ⟨t,by rw[h.1],h.2⟩
 | (z,false)::t,h=>exact .inr (by rw[h.1,h.2])
theorem Tdo_nil {t:List (D × Bool)} (h:Tdo [] t):t=[]:=by
 match t,h with
 | [],_=>rfl
theorem N8 (l:List (List UInt8)) (full:Bool) (hl:l.length≤100000):Mr TP G 179 [.ptr 1 0] [.box [.d (Ss l full)]] (strs l):=by
 refine Mr.body (M:=MY) Am Tryz.func179 rfl Aei ?_
 intro lp J todo hJ hT
 have sl:=@strs_length l
 simp(maxSteps:=1000000)(disch:=(try simp only[awL]);omega)only[awS,sl,Ss,MY_n,Tryz.f179,↓awU,awY,↓reduceIte,↓reduceDIte,↓Qe,Qu,Qv,Qw,Qx,Qy,Qz,QA,QB,QC,QD,QE,QF,QG,QH,QI,QK]
 refine Au.fr 99 (α:=Nat × List (D × Bool)) (fun x=>l.length-x.1) (fun x=>[(7,.d (.int .i64 x.1))]) (fun x=>[.ext J x.2,.box [.d (.sl l.length full (strs l))]]) (fun x=>x.1≤l.length∧Tdo ((strs l).drop x.1) x.2) (0,todo) ⟨Afv _,hT⟩ ?_ ?_
 ·exact ⟨[some 0,some 1],rfl,by simp,by simp[sA,kA,SW,AW],by simp[HW,BW,SW,AW]⟩
 ·rintro ⟨i,t⟩ ⟨h1,h2⟩
  simp only at h1 h2
  simp only[awK,Ae2,Ae3,reduceIte]
  rcases Ae1 i l.length with h | h
  ·have e:(strs l).drop i=S (l.getD i [])::(strs l).drop (i+1):=by
    rw[AfS (by omega)]
    simp[strs,h]
   rw[e] at h2
   have g:=strs_getD h
   rcases Tdo_cons h2 with ⟨t',rfl,h3⟩ | rfl
   ·simp(maxSteps:=1000000)(disch:=(try simp only[awL]);omega)only[awS,sl,g,MY_n,↓awU,awY,↓reduceIte,↓reduceDIte,↓Qe,Qu,Qv,Qw,Qx,Qy,Qz,QA,QB,QC,QD,QE,QF,QG,QH,QI,QK]
    refine Jb.by rfl hJ rfl rfl ?_
    simp(maxSteps:=1000000)(disch:=(try simp only[awL]);omega)only[awS,sl,MY_n,↓awU,awY,↓reduceIte,↓reduceDIte,↓Qe,Qu,Qv,Qw,Qx,Qy,Qz,QA,QB,QC,QD,QE,QF,QG,QH,QI,QK]
    exact ⟨(i+1,t'),⟨h,h3⟩,by simp only;omega,⟨[some 0,some 1],rfl,by simp,by simp[sA,kA,SW,AW],by simp[HW,BW,SW,AW]⟩⟩
   ·simp(maxSteps:=1000000)(disch:=(try simp only[awL]);omega)only[awS,sl,g,MY_n,↓awU,awY,↓reduceIte,↓reduceDIte,↓Qe,Qu,Qv,Qw,Qx,Qy,Qz,QA,QB,QC,QD,QE,QF,QG,QH,QI,QK]
    refine Jb.by rfl hJ rfl rfl ?_
    simp(maxSteps:=1000000)(disch:=(try simp only[awL]);omega)only[awS,sl,MY_n,↓awU,awY,↓reduceIte,↓reduceDIte,↓Qe,Qu,Qv,Qw,Qx,Qy,Qz,QA,QB,QC,QD,QE,QF,QG,QH,QI,QK]
    exact ⟨[some 0],rfl,by simp,by simp[HW,BW,SW,AW],.inl (by simp[AW,SW])⟩
  ·have e:(strs l).drop i=[]:=Agm (by omega)
   rw[e] at h2
   rw[Tdo_nil h2]
   simp(maxSteps:=1000000)(disch:=(try simp only[awL]);omega)only[awS,sl,MY_n,↓awU,awY,↓reduceIte,↓reduceDIte,↓Qe,Qu,Qv,Qw,Qx,Qy,Qz,QA,QB,QC,QD,QE,QF,QG,QH,QI,QK]
   exact ⟨[some 0],rfl,by simp,by simp[HW,BW,SW,AW],.inl (by simp[AW,SW])⟩
theorem Ph (l:List (List UInt8)) (full:Bool):Ctr TP G 145 [.d (Ss l full)] [] (.fn (.func 179) [] [.ptr 0 0]) [.box [.d (Ss l full)]]:=by
 refine Ctr.body (M:=M0) Am Tryz.func145 rfl Aez ?_
 simp(maxSteps:=1000000)(disch:=(try simp only[awL]);omega)only[awS,Ss,Tryz.f145,↓awU,awY,↓reduceIte,↓reduceDIte,↓Qe,Qu,Qv,Qw,Qx,Qy,Qz,QA,QB,QC,QD,QE,QF,QG,QH,QI,QK]
 exact ⟨[some 0],rfl,by simp,by simp[HW,BW,SW,AW],.inl (by simp[AW,SW])⟩
theorem Z4:∀ {x y:List UInt8},bl x y=true↔x<y
 | [],[]=>by simp[bl,Op.bytesLess]
 | [],b::y=>by simp[bl,Op.bytesLess]
 | a::x,[]=>by simp[bl,Op.bytesLess]
 | a::x,b::y=>by
   rw[O2,List.cons_lt_cons_iff,UInt8.lt_iff_toNat_lt,Z4 (x:=x) (y:=y)]
theorem R1 (l:List (List UInt8)):(srt l).Pairwise (fun x y=>bl y x=false):=by
 have h:=List.pairwise_mergeSort (le:=fun x y:List UInt8=>decide (x≤y)) (fun a b c h1 h2=>by simp at *;exact List.le_trans h1 h2) (fun a b=>by simp;exact List.le_total a b) l
 refine h.imp fun {x y} h=>?_
 simp only[decide_eq_true_eq] at h
 cases hb:bl y x with
 | false=>rfl
 | true=>exact absurd (Z4.1 hb) (by simpa using h)
def MSt:BZ:=fun k=>k == 178 || (k == 143 || k == 208)
theorem MSt_n {k:Nat} (h:2000000≤k):MSt k=false:=by
 simp only[MSt,Agt,beq_eq_false_iff_ne]
 exact ⟨AgF (Agf (by decide) h),AgF (Agf (by decide) h),AgF (Agf (by decide) h)⟩
theorem Mk (l:List (List UInt8)) (full:Bool) (hl:l.length≤100000):Ctr TP G 208 [.d (.sl 0 true []),.fn (.func 179) [] [.ptr 0 0]] [.box [.d (Ss l full)]] (.lsl 1 1 0 l.length) [.dead,.row false (strs l)]:=by
 refine Ctr.body (M:=M0) Am Tryz.func208 rfl Ad7 ?_
 have sl:=@strs_length l
 simp(maxSteps:=1000000)(disch:=(try simp only[awL]);omega)only[awS,sl,Tryz.f208,↓awU,awY,↓reduceIte,↓reduceDIte,↓Qe,Qu,Qv,Qw,Qx,Qy,Qz,QA,QB,QC,QD,QE,QF,QG,QH,QI,QK]
 refine Ic.all (α:=Unit) (N8 l full hl) [some 1,none] 0 [(2,.ptr 0 0)] (fun k _=>[.box [.lsl 1 1 0 k],.row false (strs (l.take k))]) (fun k _=>True) rfl rfl rfl rfl rfl rfl rfl (by simp) () trivial (by simp[sA,kA,SW,AW]) (by simp[HW,BW,SW,AW,strs]) (fun _ _=>⟨rfl,rfl⟩) ?_ ?_
 ·rintro k d ⟨⟩ hk hd -
  rw[strs_length] at hk
  obtain ⟨y,hy,rfl⟩:=strs_get hd
  have e:(l.take k).length=k:=by rw[Aga];omega
  have st:=@strs_length (l.take k)
  rw[e] at st
  simp only[awK,Ae2,Ae3,reduceIte]
  simp(maxSteps:=1000000)(disch:=(try simp only[awL]);omega)only[awS,st,↓awU,awY,↓reduceIte,↓reduceDIte,↓Qe,Qu,Qv,Qw,Qx,Qy,Qz,QA,QB,QC,QD,QE,QF,QG,QH,QI,QK]
  have e2:strs (l.take k)++[D.str (bs y)]=strs (l.take (k+1)):=by
   rw[Afs,hy];simp[strs]
  rw[e2]
  exact MD.mk (⟨[some 0,some 3],rfl,by simp,by simp[sA,kA,SW,AW],by simp[HW,BW,SW,AW]⟩:C0 0 _ _ _ [.box [.lsl 1 1 0 (k+1)],.row false (strs (l.take (k+1)))]) ⟨(),rfl⟩
 ·rintro ⟨⟩ -
  simp only[awK,Ae2,Ae3,reduceIte]
  rw[Agl (by rw[strs_length];exact Afw _)]
  simp(maxSteps:=1000000)(disch:=(try simp only[awL]);omega)only[awS,sl,↓awU,awY,↓reduceIte,↓reduceDIte,↓Qe,Qu,Qv,Qw,Qx,Qy,Qz,QA,QB,QC,QD,QE,QF,QG,QH,QI,QK]
  exact ⟨[some 0,some 3],rfl,by simp,by simp[HW,BW,SW,AW],.inl (by simp[AW,SW])⟩
theorem OR (l:List (List UInt8)) (full:Bool) (hl:l.length≤100000):Ctr TP G 177 [.fn (.func 179) [] [.ptr 0 0]] [.box [.d (Ss l full)]] (.lsl 1 1 0 l.length) [.dead,.row false (strs l)]:=by
 refine Ctr.body (M:=MSt) Am Tryz.func177 rfl Aek ?_
 have sl:=@strs_length l
 have m1:MSt 208=true:=rfl
 simp(maxSteps:=1000000)(disch:=(try simp only[awL]);omega)only[awS,sl,m1,MSt_n,Tryz.f177,↓awU,awY,↓reduceIte,↓reduceDIte,↓Qe,Qu,Qv,Qw,Qx,Qy,Qz,QA,QB,QC,QD,QE,QF,QG,QH,QI,QK]
 refine Ab.by (Mk l full hl) rfl rfl (by simp) ?_
 simp(maxSteps:=1000000)(disch:=(try simp only[awL]);omega)only[awS,sl,m1,MSt_n,↓awU,awY,↓reduceIte,↓reduceDIte,↓Qe,Qu,Qv,Qw,Qx,Qy,Qz,QA,QB,QC,QD,QE,QF,QG,QH,QI,QK]
 exact ⟨[some 0,some 1],rfl,by simp,by simp[HW,BW,SW,AW],.inl (by simp[AW,SW])⟩
theorem Px (l:List (List UInt8)) (full:Bool) (hl:l.length≤100000):Ctr TP G 144 [.fn (.func 179) [] [.ptr 0 0]] [.box [.d (Ss l full)]] (.lsl 1 1 0 l.length) [.dead,.row false (strs (srt l))]:=by
 refine Ctr.body (M:=MSt) Am Tryz.func144 rfl AeA ?_
 have sl:=@strs_length l
 have m1:MSt 178=true:=rfl
 have m2:MSt 177=false:=rfl
 simp(maxSteps:=1000000)(disch:=(try simp only[awL]);omega)only[awS,sl,m1,m2,MSt_n,Tryz.f144,↓awU,awY,↓reduceIte,↓reduceDIte,↓Qe,Qu,Qv,Qw,Qx,Qy,Qz,QA,QB,QC,QD,QE,QF,QG,QH,QI,QK]
 refine Ab.by (OR l full hl) rfl rfl (by simp) ?_
 simp(maxSteps:=1000000)(disch:=(try simp only[awL]);omega)only[awS,sl,m1,m2,MSt_n,↓awU,awY,↓reduceIte,↓reduceDIte,↓Qe,Qu,Qv,Qw,Qx,Qy,Qz,QA,QB,QC,QD,QE,QF,QG,QH,QI,QK]
 refine Ab.by (Uw l hl) rfl rfl (by simp) ?_
 simp(maxSteps:=1000000)(disch:=(try simp only[awL]);omega)only[awS,sl,m1,m2,MSt_n,↓awU,awY,↓reduceIte,↓reduceDIte,↓Qe,Qu,Qv,Qw,Qx,Qy,Qz,QA,QB,QC,QD,QE,QF,QG,QH,QI,QK]
 exact ⟨[some 0,some 1],rfl,by simp,by simp[HW,BW,SW,AW],.inl (by simp[AW,SW])⟩
theorem Zw (l:List (List UInt8)):cut (strs (cpt l)) 0 (dedup l).length=strs (dedup l):=by
 simp[cut,cpt,strs]
theorem set_spec (l:List (List UInt8)) (full:Bool) (hl:l.length≤100000):Ctr TP G 104 [.d (Ss l full)] [] (.d (Ss (setL l) false)) []:=by
 refine Ctr.pure (M:=MSt) Am Tryz.func104 rfl AeY ?_
 have sl:=@strs_length l
 have m1:MSt 143=true:=rfl
 have m2:MSt 145=false:=rfl
 have m3:MSt 144=false:=rfl
 have hs:=@R2 l
 have e:dedup (srt l)=setL l:=by
  exact Sa (R1 l) (fun t=>by simp[srt])
 have cc:=Zw (srt l)
 have hc:=OQ (G:=G) (srt l) (by omega)
 rw[e] at cc hc
 simp(maxSteps:=1000000)(disch:=(try simp only[awL]);omega)only[awS,sl,m1,m2,m3,MSt_n,Tryz.f104,↓awU,awY,↓reduceIte,↓reduceDIte,↓Qe,Qu,Qv,Qw,Qx,Qy,Qz,QA,QB,QC,QD,QE,QF,QG,QH,QI,QK]
 refine Ab.by (Ph l false) rfl rfl (by simp) ?_
 simp(maxSteps:=1000000)(disch:=(try simp only[awL]);omega)only[awS,sl,m1,m2,m3,MSt_n,↓awU,awY,↓reduceIte,↓reduceDIte,↓Qe,Qu,Qv,Qw,Qx,Qy,Qz,QA,QB,QC,QD,QE,QF,QG,QH,QI,QK]
 refine Ab.by (Px l false hl) rfl rfl (by simp) ?_
 simp(maxSteps:=1000000)(disch:=(try simp only[awL]);omega)only[awS,sl,m1,m2,m3,MSt_n,↓awU,awY,↓reduceIte,↓reduceDIte,↓Qe,Qu,Qv,Qw,Qx,Qy,Qz,QA,QB,QC,QD,QE,QF,QG,QH,QI,QK]
 rw[hs] at hc
 refine Ab.by hc rfl rfl (by simp) ?_
 simp(maxSteps:=1000000)(disch:=(try simp only[awL]);omega)only[awS,sl,cc,strs_length,Ss,m1,m2,m3,MSt_n,↓awU,awY,↓reduceIte,↓reduceDIte,↓Qe,Qu,Qv,Qw,Qx,Qy,Qz,QA,QB,QC,QD,QE,QF,QG,QH,QI,QK]
end Go.Proofs.YtmidaophnbdcdaaGreatDoor.Dst
namespace Go.Proofs.YtmidaophnbdcdaaGreatDoor
open Go Go.Proofs Go.Abs
variable {G:Ad}
theorem S6 {l:List (List UInt8)} (h:Dst.Asc l):l.Nodup:=h.imp fun {a b} h e=>by subst e;rw[Dst.bl_irrefl] at h;cases h
theorem DT:∀ {l out:List (List UInt8)},l.Nodup→(∀ s∈l,s∈out)→l.length≤out.length
 | [],_,_,_=>Afv _
 | x::l,out,hn,hs=>by
   have hx:=hs x (by simp)
   have hn:=AfZ.1 hn
   have:=DT (l:=l) (out:=out.erase x) hn.2 (fun s h=>by
    have:s≠x:=fun e=>hn.1 (e▸h)
    exact (Agu this).2 (hs s (by simp[h])))
   rw[Agi hx] at this
   have:0<out.length:=Agn hx
   rw[AdX];omega
theorem Hp:∀ {s l:List (List UInt8)},s.Nodup→(∀ x∈s,x∈l)→l.length≤s.length→l.Nodup
 | [],l,_,_,hl=>by
   have:l=[]:=List.length_eq_zero_iff.1 (by simpa using hl)
   rw[this];exact Agv
 | a::s,l,hn,hs,hl=>by
   have ha:=hs a (by simp)
   have hn':=AfZ.1 hn
   have len:=Agi ha
   have sub:∀ x∈s,x∈l.erase a:=fun x hx=>by
    have:x≠a:=fun e=>hn'.1 (e▸hx)
    exact (Agu this).2 (hs x (by simp[hx]))
   have ih:=Hp (l:=l.erase a) hn'.2 sub (by rw[len];rw[AdX] at hl;omega)
   have na:a∉l.erase a:=fun h=>by
    have:=DT (l:=a::s) (out:=l.erase a) hn (fun x hx=>by
     rcases Ad0.1 hx with e | hx
     ·exact e▸h
     ·exact sub x hx)
    have p:=Agn ha
    rw[len,AdX] at this
    rw[AdX] at hl
    omega
   exact (List.perm_cons_erase ha).nodup_iff.2 (AfZ.2 ⟨na,ih⟩)
theorem Py (l:Row):(Dst.setL l).length=l.length↔l.Nodup:=by
 have a:=S6 (Dst.asc_setL l)
 constructor
 ·intro h
  exact Hp a (fun x hx=>Dst.mem_setL.1 hx) (Nat.le_of_eq h.symm)
 ·intro h
  exact Nat.le_antisymm (DT a fun x hx=>Dst.mem_setL.1 hx) (DT h fun x hx=>Dst.mem_setL.2 hx)
theorem Xs (ks:List (List UInt8)):(ks.any fun s=>!Bb s)=!ks.all Bb:=by
 induction ks with
 | nil=>rfl
 | cons x l ih=>rw[AgO,Agz,ih,Bool.not_and]
def EO (k:Int) (ks:List (List UInt8)) (m:Nat):Bool:=if k=6 then decide (ks.length=m) && (decide ks.Nodup && ks.all Bb) else decide (ks.length=0)
mutual
def Ba:Nd→Nat→Bool
 | .mk k t ks l,a=>decide (1≤k∧k≤6) && (decide (a<16) && (DC k t && (EO k ks l.length && ((decide (k=5∨k=6) || decide (l.length=0)) && Dg l (a+1)))))
def Dg:List Nd→Nat→Bool
 | [],_=>true
 | n::r,a=>Ba n a && Dg r a
end
theorem G3:∀ (l:List Nd) (a:Nat),(!(l.any fun n=>!Ba n a))=Dg l a
 | [],a=>rfl
 | n::r,a=>by
   have ih:=G3 r a
   rw[AgO,Dg,←ih]
   cases Ba n a<;>rfl
mutual
def szN:Nd→Prop
 | .mk _ t ks l=>t.length≤1000000000∧ks.length≤100000∧(∀ s∈ks,s.length≤1000000000)∧l.length≤100000∧VS l
def VS:List Nd→Prop
 | []=>True
 | n::r=>szN n∧VS r
end
theorem Pu:∀ {l:List Nd},VS l→∀ n∈l,szN n
 | [],_,n,h=>by cases h
 | x::r,h,n,hn=>by
   rcases Ad0.1 hn with rfl | hn
   ·exact h.1
   ·exact Pu h.2 n hn
theorem Sx (hT:HT G) (n:Nd) (hs:szN n):Ctr TP G 74 [.d (NdD n)] [] (.d (.bool (EO n.kind n.keys n.kids.length))) []:=by
 obtain ⟨k,t,ks,l⟩:=n
 obtain ⟨s1,s2,s3,s4,s5⟩:=hs
 obtain ⟨r,hr⟩:∃ r,r=EO k ks l.length:=⟨_,rfl⟩
 show Ctr _ _ _ _ _ (.d (.bool (EO k ks l.length))) _
 rw[←hr]
 unfold EO at hr
 refine Ctr.pure (M:=M0) Am Tryz.func74 rfl go74 ?_
 by_cases k6:k=6
 ·subst k6
  rw[if_pos rfl] at hr
  by_cases e1:ks.length=l.length
  ·rw[decide_eq_true e1,AdW] at hr
   simp(maxSteps:=1000000)(disch:=(try simp only[awL]);omega)only[awS,ndC,e1,Tryz.f74,↓awU,awY,↓reduceIte,↓reduceDIte,↓Qe,Qu,Qv,Qw,Qx,Qy,Qz,QA,QB,QC,QD,QE,QF,QG,QH,QI,QK]
   refine Ab.of (Dst.set_spec ks false s2) (by rw[←e1];rfl) ?_
   have hq:=Py ks
   generalize Dst.setL ks=q at *
   have hany:=Xs ks
   by_cases e2:ks.Nodup
   ·have h1:=hq.2 e2
    rw[e1] at h1
    rw[decide_eq_true e2,AdW] at hr
    simp(maxSteps:=1000000)(disch:=(try simp only[awL]);omega)only[awS,h1,↓awU,awY,↓reduceIte,↓reduceDIte,↓Qe,Qu,Qv,Qw,Qx,Qy,Qz,QA,QB,QC,QD,QE,QF,QG,QH,QI,QK]
    refine Ab.of (I0 106 (fun s=>!Bb s) ks false (by omega) (fun s h=>Sy hT s (s3 s h))) (by rfl) ?_
    rw[hany,←hr]
    cases r
    ·simp(maxSteps:=1000000)(disch:=(try simp only[awL]);omega)only[awS,Agw,AgA,↓awU,awY,↓reduceIte,↓reduceDIte,↓Qe,Qu,Qv,Qw,Qx,Qy,Qz,QA,QB,QC,QD,QE,QF,QG,QH,QI,QK]
     first
     | rfl
     | exact ⟨by rfl,by rfl⟩
    ·simp(maxSteps:=1000000)(disch:=(try simp only[awL]);omega)only[awS,Agw,AgA,↓awU,awY,↓reduceIte,↓reduceDIte,↓Qe,Qu,Qv,Qw,Qx,Qy,Qz,QA,QB,QC,QD,QE,QF,QG,QH,QI,QK]
     first
     | rfl
     | exact ⟨by rfl,by rfl⟩
   ·have h1:¬q.length=l.length:=fun c=>e2 (hq.1 (by rw[c,e1]))
    rw[decide_eq_false e2,AdY] at hr
    subst hr
    simp(maxSteps:=1000000)(disch:=(try simp only[awL]);omega)only[awS,h1,↓awU,awY,↓reduceIte,↓reduceDIte,↓Qe,Qu,Qv,Qw,Qx,Qy,Qz,QA,QB,QC,QD,QE,QF,QG,QH,QI,QK]
    first
    | rfl
    | exact ⟨by rfl,by rfl⟩
  ·rw[decide_eq_false e1,AdY] at hr
   subst hr
   simp(maxSteps:=1000000)(disch:=(try simp only[awL]);omega)only[awS,ndC,e1,Tryz.f74,↓awU,awY,↓reduceIte,↓reduceDIte,↓Qe,Qu,Qv,Qw,Qx,Qy,Qz,QA,QB,QC,QD,QE,QF,QG,QH,QI,QK]
   rfl
 ·rw[if_neg k6] at hr
  subst hr
  simp(maxSteps:=1000000)(disch:=(try simp only[awL]);omega)only[awS,ndC,k6,Tryz.f74,↓awU,awY,↓reduceIte,↓reduceDIte,↓Qe,Qu,Qv,Qw,Qx,Qy,Qz,QA,QB,QC,QD,QE,QF,QG,QH,QI,QK]
  exact decide_eq_decide.2 (by omega)
theorem Kh (g:FuncId) (p:Nd→Bool) (l:List Nd) (full:Bool) (fv:AV) (x:D) (hf:fv=.fn (.func g) [] [.ptr 0 0]) (hl:l.length≤1000000000) (hp:∀ c∈l,Ctr TP G g [.d (NdD c),.ptr 0 0] [.box [.d x]] (.d (.bool (p c))) [.box [.d x]]) :
  Ctr TP G 54 [.d (NdS l full),fv] [.box [.d x]] (.d (.int .i64 (ixF p l 0))) [.box [.d x]]:=by
 subst hf
 refine Ctr.body (M:=M0) Am Tryz.func54 rfl go54 ?_
 have sl:=BK l
 simp(maxSteps:=1000000)(disch:=(try simp only[awL]);omega)only[sl,Tryz.f54,↓awU,awY,↓reduceIte,↓reduceDIte,↓Qe,Qu,Qv,Qw,Qx,Qy,Qz,QA,QB,QC,QD,QE,QF,QG,QH,QI,QK]
 refine Au.fr 131 (α:=Nat) (fun i=>l.length-i) (fun i=>[(8,.d (.int .i64 i))]) (fun _=>[.box [.d x]]) (fun i=>i≤l.length∧ixF p l 0=ixF p (l.drop i) i) 0 ⟨Afv _,rfl⟩ ?_ ?_
 ·exact ⟨[some 0],rfl,by simp,by simp[sA,kA,SW,AW],by simp[HW,BW,SW,AW]⟩
 ·rintro i ⟨h1,h2⟩
  simp only[awK,Ae2,Ae3,reduceIte]
  rw[h2]
  rcases Ae1 i l.length with h | h
  ·have g:=Et h
   rw[LO (d:=noN) h]
   simp(maxSteps:=1000000)(disch:=(try simp only[awL]);omega)only[sl,g,OC,↓awU,awY,↓reduceIte,↓reduceDIte,↓Qe,Qu,Qv,Qw,Qx,Qy,Qz,QA,QB,QC,QD,QE,QF,QG,QH,QI,QK]
   refine Ab.by (hp _ (EF h)) (by rfl) (by rfl) (by simp) ?_
   cases hx:p (l.getD i noN)
   ·simp(maxSteps:=1000000)(disch:=(try simp only[awL]);omega)only[↓awU,awY,↓reduceIte,↓reduceDIte,↓Qe,Qu,Qv,Qw,Qx,Qy,Qz,QA,QB,QC,QD,QE,QF,QG,QH,QI,QK]
    first
    | exact ⟨i+1,⟨h,rfl⟩,by simp only;omega,⟨[some 0],rfl,by simp,by simp[sA,kA,SW,AW],by simp[HW,BW,SW,AW]⟩⟩
   ·simp(maxSteps:=1000000)(disch:=(try simp only[awL]);omega)only[↓awU,awY,↓reduceIte,↓reduceDIte,↓Qe,Qu,Qv,Qw,Qx,Qy,Qz,QA,QB,QC,QD,QE,QF,QG,QH,QI,QK]
    first
    | exact ⟨[some 0],rfl,by simp,by simp[HW,BW,SW,AW],.inl (by simp[AW,SW])⟩
  ·rw[Af7 h,show ixF p [] (i:Int)=-1 from rfl]
   simp(maxSteps:=1000000)(disch:=(try simp only[awL]);omega)only[↓awU,awY,↓reduceIte,↓reduceDIte,↓Qe,Qu,Qv,Qw,Qx,Qy,Qz,QA,QB,QC,QD,QE,QF,QG,QH,QI,QK]
   first
   | exact ⟨[some 0],rfl,by simp,by simp[HW,BW,SW,AW],.inl (by simp[AW,SW])⟩
theorem Dc (g:FuncId) (p:Nd→Bool) (l:List Nd) (full:Bool) (x:D) (hl:l.length≤1000000000) (hp:∀ c∈l,Ctr TP G g [.d (NdD c),.ptr 0 0] [.box [.d x]] (.d (.bool (p c))) [.box [.d x]]) :
  Ctr TP G 28 [.d (NdS l full),.fn (.func g) [] [.ptr 0 0]] [.box [.d x]] (.d (.bool (l.any p))) [.box [.d x]]:=by
 refine Ctr.body (M:=M0) Am Tryz.func28 rfl go28 ?_
 simp(maxSteps:=1000000)(disch:=(try simp only[awL]);omega)only[Tryz.f28,↓awU,awY,↓reduceIte,↓reduceDIte,↓Qe,Qu,Qv,Qw,Qx,Qy,Qz,QA,QB,QC,QD,QE,QF,QG,QH,QI,QK]
 refine Ab.by (Kh g p l false _ x rfl hl hp) (by rfl) (by rfl) (by simp) ?_
 have hi:=G6 (p:=p) l 0 (AgR _)
 generalize ixF p l 0=q at *
 rcases (by omega:0≤q∨q<0) with h | h
 ·rw[hi.1 h]
  simp(maxSteps:=1000000)(disch:=(try simp only[awL]);omega)only[↓awU,awY,↓reduceIte,↓reduceDIte,↓Qe,Qu,Qv,Qw,Qx,Qy,Qz,QA,QB,QC,QD,QE,QF,QG,QH,QI,QK]
  exact ⟨[some 0],rfl,by simp,by simp[HW,BW,SW,AW],.inl (by simp[AW,SW])⟩
 ·have:l.any p=false:=by cases hx:l.any p with
   | false=>rfl
   | true=>have:=hi.2 hx;omega
  rw[this]
  simp(maxSteps:=1000000)(disch:=(try simp only[awL]);omega)only[↓awU,awY,↓reduceIte,↓reduceDIte,↓Qe,Qu,Qv,Qw,Qx,Qy,Qz,QA,QB,QC,QD,QE,QF,QG,QH,QI,QK]
  exact ⟨[some 0],rfl,by simp,by simp[HW,BW,SW,AW],.inl (by simp[AW,SW])⟩
end Go.Proofs.YtmidaophnbdcdaaGreatDoor
namespace Go.Proofs.YtmidaophnbdcdaaGreatDoor
open Go Go.Proofs Go.Abs
variable {G:Ad}
theorem JO (hT:HT G) (hG:Num.HG G):∀ (N:Nat) (n:Nd),nsz n≤N→szN n→∀ a:Nat,a≤1000000→Ctr TP G 42 [.d (NdD n),.d (.int .i64 a)] [] (.d (.bool (Ba n a))) []
 | 0,n,hN,_,_,_=>by have:=EM n;omega
 | N+1,n,hN,hz,a,ha=>by
   have hk:=Sx (G:=G) hT n hz
   have hsc:=On (G:=G) hT hG n (by cases n;exact hz.1)
   have hnz:=FF n
   obtain ⟨k,t,ks,l⟩:=n
   obtain ⟨s1,s2,s3,s4,s5⟩:=hz
   replace hnz:nsz (.mk k t ks l)=1+Cc l:=hnz
   replace hk:Ctr TP G 74 [.d (NdD (.mk k t ks l))] [] (.d (.bool (EO k ks l.length))) []:=hk
   replace hsc:Ctr TP G 73 [.d (NdD (.mk k t ks l))] [] (.d (.bool (DC k t))) []:=hsc
   have ih:∀ c∈l,∀ b:Nat,b≤1000000→Ctr TP G 42 [.d (NdD c),.d (.int .i64 b)] [] (.d (.bool (Ba c b))) []:=fun c hc b hb =>
    JO hT hG N c (by have:=IG hc;omega) (Pu s5 c hc) b hb
   obtain ⟨r,hr⟩:∃ r,r=Ba (.mk k t ks l) a:=⟨_,rfl⟩
   rw[←hr]
   rw[Ba] at hr
   refine Ctr.pure (M:=M0) Am Tryz.func42 rfl go42 ?_
   by_cases kr:1≤k∧k≤6
   ·rw[decide_eq_true kr,AdW] at hr
    by_cases a16:a<16
    ·rw[decide_eq_true a16,AdW] at hr
     have hv1:∀ c∈l,Ctr TP G 75 [.d (NdD c),.ptr 0 0] [.box [.d (.int .i64 a)]] (.d (.bool (!Ba c (a+1)))) [.box [.d (.int .i64 a)]]:=by
      intro c hc
      have ihc:=ih c hc (a+1) (by omega)
      generalize Ba c (a+1)=z at *
      obtain ⟨ck,ct,cks,cl⟩:=c
      refine Ctr.body (M:=M0) Am Tryz.func75 rfl go75 ?_
      simp(maxSteps:=1000000)(disch:=(try simp only[awL]);omega)only[awS,ndC,Tryz.f75,↓awU,awY,↓reduceIte,↓reduceDIte,↓Qe,Qu,Qv,Qw,Qx,Qy,Qz,QA,QB,QC,QD,QE,QF,QG,QH,QI,QK]
      first
      | (refine Ab.of ihc (by rfl) ?_)
      simp(maxSteps:=1000000)(disch:=(try simp only[awL]);omega)only[awS,↓awU,awY,↓reduceIte,↓reduceDIte,↓Qe,Qu,Qv,Qw,Qx,Qy,Qz,QA,QB,QC,QD,QE,QF,QG,QH,QI,QK]
      first
      | exact ⟨[some 0],rfl,by simp,by simp[HW,BW,SW,AW],.inl (by simp[AW,SW])⟩
     by_cases k5:k=5
     ·subst k5
      rw[decide_eq_true (Or.inl rfl)] at hr
      simp(maxSteps:=1000000)(disch:=(try simp only[awL]);omega)only[awS,ndC,Tryz.f42,↓awU,awY,↓reduceIte,↓reduceDIte,↓Qe,Qu,Qv,Qw,Qx,Qy,Qz,QA,QB,QC,QD,QE,QF,QG,QH,QI,QK]
      refine Ab.of hsc (by rfl) ?_
      cases e1:DC 5 t
      ·rw[e1,AdY] at hr
       subst hr
       simp(maxSteps:=1000000)(disch:=(try simp only[awL]);omega)only[awS,↓awU,awY,↓reduceIte,↓reduceDIte,↓Qe,Qu,Qv,Qw,Qx,Qy,Qz,QA,QB,QC,QD,QE,QF,QG,QH,QI,QK]
       first
       | done
       | rfl
      ·rw[e1,AdW] at hr
       simp(maxSteps:=1000000)(disch:=(try simp only[awL]);omega)only[awS,↓awU,awY,↓reduceIte,↓reduceDIte,↓Qe,Qu,Qv,Qw,Qx,Qy,Qz,QA,QB,QC,QD,QE,QF,QG,QH,QI,QK]
       refine Ab.of hk (by rfl) ?_
       cases e2:EO 5 ks l.length
       ·rw[e2,AdY] at hr
        subst hr
        simp(maxSteps:=1000000)(disch:=(try simp only[awL]);omega)only[awS,↓awU,awY,↓reduceIte,↓reduceDIte,↓Qe,Qu,Qv,Qw,Qx,Qy,Qz,QA,QB,QC,QD,QE,QF,QG,QH,QI,QK]
        first
        | done
        | rfl
       ·rw[e2,AdW] at hr
        simp(maxSteps:=1000000)(disch:=(try simp only[awL]);omega)only[awS,↓awU,awY,↓reduceIte,↓reduceDIte,↓Qe,Qu,Qv,Qw,Qx,Qy,Qz,QA,QB,QC,QD,QE,QF,QG,QH,QI,QK]
        rw[Ago,AdW] at hr
        refine Ab.by (Dc 75 (fun n=>!Ba n (a+1)) l false (.int .i64 a) (by omega) hv1) (by rfl) (by rfl) (by simp) ?_
        have hany:=G3 l (a+1)
        rw[←hany] at hr
        generalize (l.any fun n=>!Ba n (a+1))=z at *
        subst hr
        simp(maxSteps:=1000000)(disch:=(try simp only[awL]);omega)only[awS,↓awU,awY,↓reduceIte,↓reduceDIte,↓Qe,Qu,Qv,Qw,Qx,Qy,Qz,QA,QB,QC,QD,QE,QF,QG,QH,QI,QK]
        first
        | done
        | rfl
     ·by_cases k6:k=6
      ·subst k6
       rw[decide_eq_true (Or.inr rfl)] at hr
       simp(maxSteps:=1000000)(disch:=(try simp only[awL]);omega)only[awS,ndC,Tryz.f42,↓awU,awY,↓reduceIte,↓reduceDIte,↓Qe,Qu,Qv,Qw,Qx,Qy,Qz,QA,QB,QC,QD,QE,QF,QG,QH,QI,QK]
       refine Ab.of hsc (by rfl) ?_
       cases e1:DC 6 t
       ·rw[e1,AdY] at hr
        subst hr
        simp(maxSteps:=1000000)(disch:=(try simp only[awL]);omega)only[awS,↓awU,awY,↓reduceIte,↓reduceDIte,↓Qe,Qu,Qv,Qw,Qx,Qy,Qz,QA,QB,QC,QD,QE,QF,QG,QH,QI,QK]
        first
        | done
        | rfl
       ·rw[e1,AdW] at hr
        simp(maxSteps:=1000000)(disch:=(try simp only[awL]);omega)only[awS,↓awU,awY,↓reduceIte,↓reduceDIte,↓Qe,Qu,Qv,Qw,Qx,Qy,Qz,QA,QB,QC,QD,QE,QF,QG,QH,QI,QK]
        refine Ab.of hk (by rfl) ?_
        cases e2:EO 6 ks l.length
        ·rw[e2,AdY] at hr
         subst hr
         simp(maxSteps:=1000000)(disch:=(try simp only[awL]);omega)only[awS,↓awU,awY,↓reduceIte,↓reduceDIte,↓Qe,Qu,Qv,Qw,Qx,Qy,Qz,QA,QB,QC,QD,QE,QF,QG,QH,QI,QK]
         first
         | done
         | rfl
        ·rw[e2,AdW] at hr
         simp(maxSteps:=1000000)(disch:=(try simp only[awL]);omega)only[awS,↓awU,awY,↓reduceIte,↓reduceDIte,↓Qe,Qu,Qv,Qw,Qx,Qy,Qz,QA,QB,QC,QD,QE,QF,QG,QH,QI,QK]
         rw[Ago,AdW] at hr
         refine Ab.by (Dc 75 (fun n=>!Ba n (a+1)) l false (.int .i64 a) (by omega) hv1) (by rfl) (by rfl) (by simp) ?_
         have hany:=G3 l (a+1)
         rw[←hany] at hr
         generalize (l.any fun n=>!Ba n (a+1))=z at *
         subst hr
         simp(maxSteps:=1000000)(disch:=(try simp only[awL]);omega)only[awS,↓awU,awY,↓reduceIte,↓reduceDIte,↓Qe,Qu,Qv,Qw,Qx,Qy,Qz,QA,QB,QC,QD,QE,QF,QG,QH,QI,QK]
         first
         | done
         | rfl
      ·rw[decide_eq_false (show ¬(k=5∨k=6) by omega)] at hr
       simp(maxSteps:=1000000)(disch:=(try simp only[awL]);omega)only[awS,ndC,k5,k6,Tryz.f42,↓awU,awY,↓reduceIte,↓reduceDIte,↓Qe,Qu,Qv,Qw,Qx,Qy,Qz,QA,QB,QC,QD,QE,QF,QG,QH,QI,QK]
       refine Ab.of hsc (by rfl) ?_
       cases e1:DC k t
       ·rw[e1,AdY] at hr
        subst hr
        simp(maxSteps:=1000000)(disch:=(try simp only[awL]);omega)only[awS,↓awU,awY,↓reduceIte,↓reduceDIte,↓Qe,Qu,Qv,Qw,Qx,Qy,Qz,QA,QB,QC,QD,QE,QF,QG,QH,QI,QK]
        first
        | done
        | rfl
       ·rw[e1,AdW] at hr
        simp(maxSteps:=1000000)(disch:=(try simp only[awL]);omega)only[awS,↓awU,awY,↓reduceIte,↓reduceDIte,↓Qe,Qu,Qv,Qw,Qx,Qy,Qz,QA,QB,QC,QD,QE,QF,QG,QH,QI,QK]
        refine Ab.of hk (by rfl) ?_
        cases e2:EO k ks l.length
        ·rw[e2,AdY] at hr
         subst hr
         simp(maxSteps:=1000000)(disch:=(try simp only[awL]);omega)only[awS,↓awU,awY,↓reduceIte,↓reduceDIte,↓Qe,Qu,Qv,Qw,Qx,Qy,Qz,QA,QB,QC,QD,QE,QF,QG,QH,QI,QK]
         first
         | done
         | rfl
        ·rw[e2,AdW] at hr
         simp(maxSteps:=1000000)(disch:=(try simp only[awL]);omega)only[awS,↓awU,awY,↓reduceIte,↓reduceDIte,↓Qe,Qu,Qv,Qw,Qx,Qy,Qz,QA,QB,QC,QD,QE,QF,QG,QH,QI,QK]
         by_cases e3:l.length=0
         ·rw[decide_eq_true e3,Bool.or_true,AdW] at hr
          simp(maxSteps:=1000000)(disch:=(try simp only[awL]);omega)only[awS,e3,↓awU,awY,↓reduceIte,↓reduceDIte,↓Qe,Qu,Qv,Qw,Qx,Qy,Qz,QA,QB,QC,QD,QE,QF,QG,QH,QI,QK]
          refine Ab.by (Dc 75 (fun n=>!Ba n (a+1)) l false (.int .i64 a) (by omega) hv1) (by rw[show NdS l false=.sl 0 false (AY l) by rw[←e3]]) (by rfl) (by simp) ?_
          have hany:=G3 l (a+1)
          rw[←hany] at hr
          generalize (l.any fun n=>!Ba n (a+1))=z at *
          subst hr
          simp(maxSteps:=1000000)(disch:=(try simp only[awL]);omega)only[awS,↓awU,awY,↓reduceIte,↓reduceDIte,↓Qe,Qu,Qv,Qw,Qx,Qy,Qz,QA,QB,QC,QD,QE,QF,QG,QH,QI,QK]
          first
          | done
          | rfl
         ·rw[decide_eq_false e3,Bool.or_false,AdY] at hr
          subst hr
          simp(maxSteps:=1000000)(disch:=(try simp only[awL]);omega)only[awS,e3,↓awU,awY,↓reduceIte,↓reduceDIte,↓Qe,Qu,Qv,Qw,Qx,Qy,Qz,QA,QB,QC,QD,QE,QF,QG,QH,QI,QK]
          first
          | done
          | rfl
    ·rw[decide_eq_false a16,AdY] at hr
     subst hr
     simp(maxSteps:=1000000)(disch:=(try simp only[awL]);omega)only[awS,ndC,Tryz.f42,↓awU,awY,↓reduceIte,↓reduceDIte,↓Qe,Qu,Qv,Qw,Qx,Qy,Qz,QA,QB,QC,QD,QE,QF,QG,QH,QI,QK]
     first
     | done
     | rfl
   ·rw[decide_eq_false kr,AdY] at hr
    subst hr
    rcases (by omega:k<1∨6<k) with h | h
    ·simp(maxSteps:=1000000)(disch:=(try simp only[awL]);omega)only[awS,ndC,Tryz.f42,↓awU,awY,↓reduceIte,↓reduceDIte,↓Qe,Qu,Qv,Qw,Qx,Qy,Qz,QA,QB,QC,QD,QE,QF,QG,QH,QI,QK]
     first
     | done
     | rfl
    ·simp(maxSteps:=1000000)(disch:=(try simp only[awL]);omega)only[awS,ndC,Tryz.f42,↓awU,awY,↓reduceIte,↓reduceDIte,↓Qe,Qu,Qv,Qw,Qx,Qy,Qz,QA,QB,QC,QD,QE,QF,QG,QH,QI,QK]
     first
     | done
     | rfl
def MR:BZ:=fun k=>Agp k 4000059 || (Agp k 4000097 || Agp k 4000060)
theorem Vx:MR 4000059=true:=rfl
theorem Vw:MR 4000097=true:=rfl
theorem Vv:MR 4000060=true:=rfl
theorem Tg {k:Nat} (h:¬(k=4000059∨k=4000097∨k=4000060)):MR k=false:=by
 cases e:MR k with
 | false=>rfl
 | true =>
  unfold MR at e
  simp only[Af5] at e
  rcases e with e | e | e
  ·exact absurd (.inl (AfI e)) h
  ·exact absurd (.inr (.inl (AfI e))) h
  ·exact absurd (.inr (.inr (AfI e))) h
abbrev ndB (n:Nd):Aa:=.box ((ndC n).map .d)
def ZH (L:Rl→Nat) (s:Ly) (H:List Aa) (l:List Nd) (front:List UInt8) (ks:List (List UInt8)) (k:Nat) (x:(Rl→Nat) × List Aa):Prop :=
 Bz x.1 (s.kid l front ks k) x.2∧CG L s H x.1 (s.kid l front ks k) x.2∧NoX x.2
def RecT (G:Ad) (l:List Nd) (front:List UInt8) (ks:List (List UInt8)) (k:Nat) (x y:(Rl→Nat) × List Aa):Prop :=
 x.2.length+1≤y.2.length ∧
 ((l.getD k noN).kind=6→Ctr TP G 59 [.ptr (x.1 (.n 0)) 0,.mp (x.1 (.n 1)),.d (S (front++ks.getD k []++[46])),.d (NdD (l.getD k noN))] (x.2++[ndB (l.getD k noN)]) (.d (.tup [])) y.2) ∧
 ((l.getD k noN).kind=5→Ctr TP G 97 [.ptr (x.1 (.n 0)) 0,.d (S (front++ks.getD k [])),.d (NdS (l.getD k noN).kids false)] (x.2++[ndB (l.getD k noN)]) (.d (.tup [])) y.2) ∧
 (¬(l.getD k noN).kind=6→¬(l.getD k noN).kind=5→Ctr TP G 60 [.ptr (x.1 (.n 0)) 0,.mp (x.1 (.n 1)),.d (S (front++ks.getD k [])),.d (NdD (l.getD k noN))] (x.2++[ndB (l.getD k noN)]) (.d (.tup [])) y.2)
theorem Lh:∀ (N:Nat) (n:Nd),nsz n≤N→∀ {L:Rl→Nat} {s:Ly} {H:List Aa} {B:Nat} (front:List UInt8),Bz L s H→0<s.rows.length→NoX H→Gm n→n.kind=6→LyB s B→B+nsz n≤1000000→front.length+200000*nsz n≤1000000000 →
  ∃ L' H',Ctr TP G 59 [.ptr (L (.n 0)) 0,.mp (L (.n 1)),.d (S front),.d (NdD n)] H (.d (.tup [])) H'∧Bz L' (s.parts (Bi n front)) H'∧CG L s H L' (s.parts (Bi n front)) H'∧NoX H'
 | 0,n,hN,L,s,H,B,front,h,hr,h0,hok,h6,hB,hB2,hfr=>by have:=EM n;omega
 | N+1,n,hN,L,s,H,B,front,h,hr,h0,hok,h6,hB,hB2,hfr=>by
   obtain ⟨k6,nt,ks,l⟩:=n
   have hk6:k6=6:=h6
   subst hk6
   rw[Wa] at hok
   obtain ⟨ok1,ok2,ok3⟩:=hok
   have okl:ks.length=l.length:=ok1 rfl
   have okk:∀ s∈ks,s.length≤100000:=ok2
   have hsz:nsz (.mk 6 nt ks l)=1+Cc l:=rfl
   have hll:=Fh l
   rw[hsz] at hN hB2 hfr
   have hst:∀ k,k<l.length→∀ x,ZH L s (H++[ndB (.mk 6 nt ks l)]) l front ks k x→∃ y,RecT G l front ks k x y∧ZH L s (H++[ndB (.mk 6 nt ks l)]) l front ks (k+1) y:=by
    intro k hk x hx
    obtain ⟨L1,H1⟩:=x
    obtain ⟨i1,i2,i3⟩:=hx
    simp only at i1 i2 i3
    have i1':=i1.app [ndB (l.getD k noN)]
    have i2':=CG.app L1 (s.kid l front ks k) H1 [ndB (l.getD k noN)]
    have i3':NoX (H1++[ndB (l.getD k noN)]):=i3.app (by simp[NoX])
    have hrk:(s.kid l front ks k).rows.length=s.rows.length:=s.kid_rows l front ks k
    have hbk:=hB.kid l front ks k (by omega)
    have hbk2:=hB.kid l front ks (k+1) (by omega)
    have hsucc:=Nh hk
    have hle:=Y5 l (k+1)
    have hkm:l.getD k noN∈l:=EF hk
    have hkz:=FF (l.getD k noN)
    have hkl:=Fh (l.getD k noN).kids
    have hkey:(ks.getD k []).length≤100000:=okk _ (EF (by omega))
    have hlen1:(H1++[ndB (l.getD k noN)]).length=H1.length+1:=by simp
    have hsk:=s.kid_succ l front ks k
    have hpo:partO (l.getD k noN) (front++ks.getD k [])=if (l.getD k noN).kind=6 then Bi (l.getD k noN) (front++ks.getD k []++[46]) else if (l.getD k noN).kind=5 then [.l (front++ks.getD k []) (l.getD k noN).kids] else [.c (front++ks.getD k []) (Bm (l.getD k noN))]:=rfl
    have hnz:=IG hkm
    by_cases c6:(l.getD k noN).kind=6
    ·rw[if_pos c6] at hpo
     obtain ⟨L',H',r1,r2,r3,r4⟩:=Lh N (l.getD k noN) (by omega) (B:=B+Sl l k) (front++ks.getD k []++[46]) i1' (by omega) i3' (Li ok3 _ hkm) c6 hbk (by omega) (by simp only[AdZ,AdX,Ad1];omega)
     rw[hpo] at hsk
     rw[←hsk] at r2 r3
     have:=r3.len
     exact ⟨(L',H'),⟨by show H1.length+1≤H'.length;omega,fun _=>r1,fun q=>by omega,fun q=>absurd c6 q⟩,r2,i2.trans (i2'.trans r3),r4⟩
    ·rw[if_neg c6] at hpo
     by_cases c5:(l.getD k noN).kind=5
     ·rw[if_pos c5] at hpo
      have hit:=hbk.it (front++ks.getD k [])
      obtain ⟨L',H',r1,r2,r3,r4⟩:=WG (G:=G) i1' (by omega) i3' (front++ks.getD k []) (l.getD k noN).kids false ⟨by have:=hbk.lists;omega,hbk.rows⟩ (by omega)
      rw[hpo,Ly.parts_one] at hsk
      have e:(s.kid l front ks k).part (.l (front++ks.getD k []) (l.getD k noN).kids)=(s.kid l front ks k).list (front++ks.getD k []) (l.getD k noN).kids:=rfl
      rw[e] at hsk
      rw[←hsk] at r2 r3
      have:=r3.len
      exact ⟨(L',H'),⟨by show H1.length+1≤H'.length;omega,fun q=>absurd q c6,fun _=>r1,fun _ q=>absurd c5 q⟩,r2,i2.trans (i2'.trans r3),r4⟩
     ·rw[if_neg c5] at hpo
      obtain ⟨L',H',r1,r2,r3,r4⟩:=K0 (G:=G) i1' (by omega) i3' (front++ks.getD k []) (l.getD k noN) ⟨by have:=hbk.paths;omega,hbk.rows⟩ (by simp only[AdZ];omega)
      rw[hpo,Ly.parts_one] at hsk
      have e:(s.kid l front ks k).part (.c (front++ks.getD k []) (Bm (l.getD k noN)))=(s.kid l front ks k).single (front++ks.getD k []) (Bm (l.getD k noN)):=rfl
      rw[e] at hsk
      rw[←hsk] at r2 r3
      have:=r3.len
      exact ⟨(L',H'),⟨by show H1.length+1≤H'.length;omega,fun q=>absurd q c6,fun q=>absurd q c5,fun _ _=>r1⟩,r2,i2.trans (i2'.trans r3),r4⟩
   obtain ⟨f,f0,fI,fT⟩:=Ji (ZH L s (H++[ndB (.mk 6 nt ks l)]) l front ks) (RecT G l front ks) l.length (L,H++[ndB (.mk 6 nt ks l)])
    ⟨h.app _,CG.refl _ _ _,h0.app (by simp[NoX])⟩ hst
   have hall:=s.kid_all l front ks okl
   have fE:=fI l.length (Afw _)
   unfold ZH at fE
   rw[hall] at fE
   refine ⟨(f l.length).1,(f l.length).2,Ctr.bodyI (M:=MR) Am Tryz.func59 rfl go59 fE.2.2.ok ?_,fE.1,(CG.app L s H _).trans fE.2.1,fE.2.2⟩
   have nl:=BK l
   have sl:=@strs_length ks
   simp(maxSteps:=1000000)(disch:=(try simp only[awL]);omega)only[awS,Tryz.f59,Tg,nl,sl,ndC,awH,↓awU,awY,↓reduceIte,↓reduceDIte,↓Qe,Qu,Qv,Qw,Qx,Qy,Qz,QA,QB,QC,QD,QE,QF,QG,QH,QI,QK]
   refine Au.frI 12423 (α:=Nat) (fun k=>l.length-k) (fun k=>[(14,.d (.int .i64 k))]) (fun k=>(f k).2) (fun k=>k≤l.length) 0 (Afv _) ?_ ?_
   ·rw[f0]
    first
    | exact .slots (by simp[sA,kA,CH])
   ·intro k hkk
    simp only[awK,Ae2,Ae3,reduceIte]
    rcases Ae1 k l.length with hlt | hge
    ·obtain ⟨t1,t2,t3,t4⟩:=fT k hlt
     obtain ⟨i1,i2,i3⟩:=fI k hkk
     have hb:(f k).2[H.length]?=some (ndB (.mk 6 nt ks l)):=by
      rw[i2.keep H.length (by simp) (fun a ha=>by have:=h.lt a ha;omega),AQ (Afw _),AgG];rfl
     have hln:=i2.len
     simp only[AdZ,AdX,Ad1] at hln
     have k0:(f k).1 (.n 0)=L (.n 0):=i2.n0
     have k1:(f k).1 (.n 1)=L (.n 1):=i2.n1
     rw[k0,k1] at t2 t4
     rw[k0] at t3
     have g:=Et hlt
     have gk:=strs_getD (l:=ks) (i:=k) (by omega)
     have hkey:(ks.getD k []).length≤100000:=okk _ (EF (by omega))
     generalize hHk:(f k).2=Hk at *
     generalize hkd:l.getD k noN=kd at *
     obtain ⟨ka,kb,kc,kl⟩:=kd
     generalize ks.getD k []=key at *
     have hbb:Hk[H.length]?=some (.box [.d (.int .i64 6),.d (S nt),.d (Ss ks false),.d (NdS l false)]):=hb
     by_cases c6:ka=6
     ·subst c6
      simp(maxSteps:=1000000)(disch:=(try simp only[awL]);omega)only[awS,Tg,Vx,Vw,Vv,hbb,g,gk,nl,sl,ndC,awH,↓awU,awY,↓reduceIte,↓reduceDIte,↓Qe,Qu,Qv,Qw,Qx,Qy,Qz,QA,QB,QC,QD,QE,QF,QG,QH,QI,QK]
      rw[Af8] at t2
      refine Ap.go (t2 rfl) ⟨.inl rfl,.inl rfl,.inl rfl,.inr (.inr ⟨_,rfl,rfl,.inl rfl⟩),trivial⟩ (by simp only[AdZ,AdX,Ad1];omega) ?_
      simp(maxSteps:=1000000)(disch:=(try simp only[awL]);omega)only[awS,Tg,Vx,Vw,Vv,awH,↓awU,awY,↓reduceIte,↓reduceDIte,↓Qe,Qu,Qv,Qw,Qx,Qy,Qz,QA,QB,QC,QD,QE,QF,QG,QH,QI,QK]
      first
      | exact ⟨k+1,hlt,by simp only;omega,.inl ⟨rfl,by simp[sA,kA,CH]⟩⟩
     ·by_cases c5:ka=5
      ·subst c5
       simp(maxSteps:=1000000)(disch:=(try simp only[awL]);omega)only[awS,Tg,Vx,Vw,Vv,hbb,g,gk,nl,sl,ndC,awH,↓awU,awY,↓reduceIte,↓reduceDIte,↓Qe,Qu,Qv,Qw,Qx,Qy,Qz,QA,QB,QC,QD,QE,QF,QG,QH,QI,QK]
       refine Ap.go (t3 rfl) ⟨.inl rfl,.inl rfl,.inl rfl,trivial⟩ (by simp only[AdZ,AdX,Ad1];omega) ?_
       simp(maxSteps:=1000000)(disch:=(try simp only[awL]);omega)only[awS,Tg,Vx,Vw,Vv,awH,↓awU,awY,↓reduceIte,↓reduceDIte,↓Qe,Qu,Qv,Qw,Qx,Qy,Qz,QA,QB,QC,QD,QE,QF,QG,QH,QI,QK]
       first
       | exact ⟨k+1,hlt,by simp only;omega,.inl ⟨rfl,by simp[sA,kA,CH]⟩⟩
      ·simp(maxSteps:=1000000)(disch:=(try simp only[awL]);omega)only[awS,Tg,Vx,Vw,Vv,c6,c5,hbb,g,gk,nl,sl,ndC,awH,↓awU,awY,↓reduceIte,↓reduceDIte,↓Qe,Qu,Qv,Qw,Qx,Qy,Qz,QA,QB,QC,QD,QE,QF,QG,QH,QI,QK]
       refine Ap.go (t4 c6 c5) ⟨.inl rfl,.inl rfl,.inl rfl,.inr (.inr ⟨_,rfl,rfl,.inl rfl⟩),trivial⟩ (by simp only[AdZ,AdX,Ad1];omega) ?_
       simp(maxSteps:=1000000)(disch:=(try simp only[awL]);omega)only[awS,Tg,Vx,Vw,Vv,awH,↓awU,awY,↓reduceIte,↓reduceDIte,↓Qe,Qu,Qv,Qw,Qx,Qy,Qz,QA,QB,QC,QD,QE,QF,QG,QH,QI,QK]
       first
       | exact ⟨k+1,hlt,by simp only;omega,.inl ⟨rfl,by simp[sA,kA,CH]⟩⟩
    ·obtain rfl:k=l.length:=by omega
     simp(maxSteps:=1000000)(disch:=(try simp only[awL]);omega)only[awS,nl,↓awU,awY,↓reduceIte,↓reduceDIte,↓Qe,Qu,Qv,Qw,Qx,Qy,Qz,QA,QB,QC,QD,QE,QF,QG,QH,QI,QK]
     first
     | exact RetI.unit
def JV (L:Rl→Nat) (n:Nat):List AV:=(AfX n).map fun i=>.mp (L (.n (8+i)))
theorem Oq (L:Rl→Nat) (n:Nat):(JV L n).length=n:=by simp[JV]
def EE (L:Rl→Nat) (n N:Nat):Rl→Nat:=Bg (Bg (Bg L 2 (N+1)) 4 (N+4)) (8+n) (N+2)
theorem Bz.newrow {L:Rl→Nat} {s:Ly} {H K:List Aa} (h:Bz L s H) {N:Nat} {a:Int} (hN:H.length≤N) (hK:N+4<K.length) (hl:H.length≤K.length)
  (k0:K[L (.n 0)]?=some (.box [.d (.bool s.further),.lsl (N+1) 1 0 (s.above.length+1),.lsl (L (.n 3)) 1 0 s.paths.length,.lsl (N+4) 1 0 (s.rows.length+1),.lsl (L (.n 5)) 1 0 s.lists.length,.mp (L (.n 6)),.mp (L (.n 7))]))
  (k2:K[N+1]?=some (.row false (Ax .i64 (s.above++[a])))) (k4:K[N+4]?=some (.box (JV L s.rows.length++[.mp (N+2)]))) (k8:K[N+2]?=some (.map []))
  (kr:∀ a,Bj s a→a≠.n 0→a≠.n 2→a≠.n 4→K[L a]?=H[L a]?):Bz (EE L s.rows.length N) (s.row a) K:=by
 have ok:∀ k,k<8+s.rows.length→Bj s (.n k):=fun k hk=>hk
 have ne:∀ {k j:Nat},k≠j→Rl.n k≠Rl.n j:=fun h e=>h (by cases e;rfl)
 have s2:EE L s.rows.length N (.n 2)=N+1:=by unfold EE;rw[AR _ _ (by omega),AR _ _ (by decide),C1]
 have s4:EE L s.rows.length N (.n 4)=N+4:=by unfold EE;rw[AR _ _ (by omega),C1]
 have s8:EE L s.rows.length N (.n (8+s.rows.length))=N+2:=by unfold EE;rw[C1]
 have sk:∀ k,k≠2→k≠4→k≠8+s.rows.length→EE L s.rows.length N (.n k)=L (.n k):=fun k h2 h4 h8=>by
  unfold EE;rw[AR _ _ h8,AR _ _ h4,AR _ _ h2]
 have get:∀ k,k<8+s.rows.length→k≠0→k≠2→k≠4→K[EE L s.rows.length N (.n k)]?=H[L (.n k)]?:=fun k hk h0 h2 h4=>by
  rw[sk k h2 h4 (by omega)];exact kr _ (ok k hk) (ne h0) (ne h2) (ne h4)
 have lr:(s.row a).rows.length=s.rows.length+1:=by simp[Ly.row]
 have key:∀ x,Bj (s.row a) x→(x=.n 2∧EE L s.rows.length N x=N+1)∨(x=.n 4∧EE L s.rows.length N x=N+4)∨(x=.n (8+s.rows.length)∧EE L s.rows.length N x=N+2) ∨
   (x≠.n 2∧x≠.n 4∧x≠.n (8+s.rows.length)∧Bj s x∧EE L s.rows.length N x=L x∧L x<H.length):=by
  intro x hx
  cases x with
  | n k =>
   have hk:k<8+(s.row a).rows.length:=hx
   rw[lr] at hk
   by_cases e2:k=2
   ·subst e2;exact .inl ⟨rfl,s2⟩
   ·by_cases e4:k=4
    ·subst e4;exact .inr (.inl ⟨rfl,s4⟩)
    ·by_cases e8:k=8+s.rows.length
     ·subst e8;exact .inr (.inr (.inl ⟨rfl,s8⟩))
     ·have hk':Bj s (.n k):=ok k (by omega)
      exact .inr (.inr (.inr ⟨ne e2,ne e4,ne e8,hk',sk k e2 e4 e8,h.lt _ hk'⟩))
  | i q=>exact .inr (.inr (.inr ⟨by simp,by simp,by simp,hx,rfl,h.lt (.i q) hx⟩))
 refine ⟨fun x y hx hy e=>?_,fun x hx=>?_,?_,?_,?_,?_,?_,?_,?_,?_,?_,?_⟩
 ·rcases key x hx with ⟨a1,a2⟩ | ⟨a1,a2⟩ | ⟨a1,a2⟩ | ⟨_,_,_,a4,a5,a6⟩<;>rcases key y hy with ⟨b1,b2⟩ | ⟨b1,b2⟩ | ⟨b1,b2⟩ | ⟨_,_,_,b4,b5,b6⟩ <;>
   first
    | (rw[a1,b1];done)
    | omega
    | exact h.inj x y a4 b4 (by rw[←a5,←b5];exact e)
 ·rcases key x hx with ⟨a1,a2⟩ | ⟨a1,a2⟩ | ⟨a1,a2⟩ | ⟨_,_,_,a4,a5,a6⟩<;>omega
 ·rw[sk 0 (by decide) (by decide) (by omega),s2,sk 3 (by decide) (by decide) (by omega),s4,sk 5 (by decide) (by decide) (by omega),sk 6 (by decide) (by decide) (by omega),sk 7 (by decide) (by decide) (by omega),k0,lr]
  simp[Ly.row]
 ·rw[get 1 (by omega) (by decide) (by decide) (by decide)];exact h.seen
 ·rw[s2];exact k2
 ·rw[get 3 (by omega) (by decide) (by decide) (by decide)];exact h.paths
 ·rw[s4,k4,lr]
  unfold IC JV
  rw[if_neg (by omega),List.range_succ,Age,AfQ,AfT,s8]
  congr 3
  refine List.map_congr_left fun i hi=>?_
  have:=AfV.1 hi
  rw[sk _ (by omega) (by omega) (by omega)]
 ·rw[get 5 (by omega) (by decide) (by decide) (by decide)];exact h.lists
 ·rw[get 6 (by omega) (by decide) (by decide) (by decide)];exact h.items
 ·rw[get 7 (by omega) (by decide) (by decide) (by decide)];exact h.sev
 ·intro i hi
  by_cases e:i=s.rows.length
  ·subst e
   refine ⟨[],by rw[s8];exact k8,GQ.nil,fun p=>?_⟩
   have e1:(s.row a).rows[s.rows.length]=fun _=>none:=by
    simp only[Ly.row]
    rw[List.getElem_append_right (Afw _)]
    simp
   rw[Ik,e1]
   rfl
  ·have hi':i<s.rows.length:=by rw[lr] at hi;omega
   have e1:(s.row a).rows[i]=s.rows[i]:=by simp only[Ly.row];rw[List.getElem_append_left hi']
   rw[get (8+i) (by omega) (by omega) (by omega) (by omega),e1]
   exact h.row i hi'
 ·intro q hq
  have e:K[L (.i q)]?=H[L (.i q)]?:=kr (.i q) hq (by simp) (by simp) (by simp)
  show K[L (.i q)]?=_
  rw[e]
  exact h.item q hq
theorem V4 {L:Rl→Nat} {s:Ly} {H:List Aa} {N:Nat} {a:Int} (hN:H.length≤N) {x:Rl} (hx:Bj (s.row a) x):(∃ b,Bj s b∧L b=EE L s.rows.length N x)∨H.length≤EE L s.rows.length N x:=by
 cases x with
 | n k =>
  have hk:k<8+(s.row a).rows.length:=hx
  simp only[Ly.row,AdZ,AdX,Ad1] at hk
  unfold EE
  by_cases e8:k=8+s.rows.length
  ·subst e8;rw[C1];exact .inr (by omega)
  ·rw[AR _ _ e8]
   by_cases e4:k=4
   ·subst e4;rw[C1];exact .inr (by omega)
   ·rw[AR _ _ e4]
    by_cases e2:k=2
    ·subst e2;rw[C1];exact .inr (by omega)
    ·rw[AR _ _ e2]
     exact .inl ⟨.n k,by show k<8+s.rows.length;omega,rfl⟩
 | i q=>exact .inl ⟨.i q,hx,rfl⟩
def E2 (L:Rl→Nat) (s:Ly) (H:List Aa) (e:Elm):List Aa :=
 ((((H.set (L (.n 2)) .dead).set (L (.n 0)) (.box [.d (.bool s.further),.lsl (H.length+2) 1 0 (s.above.length+1),.lsl (L (.n 3)) 1 0 s.paths.length,.lsl (L (.n 4)) 1 0 s.rows.length,.lsl (L (.n 5)) 1 0 s.lists.length,.mp (L (.n 6)),.mp (L (.n 7))])).set (L (.n 4)) .dead).set (L (.n 0))
  (.box [.d (.bool s.further),.lsl (H.length+2) 1 0 (s.above.length+1),.lsl (L (.n 3)) 1 0 s.paths.length,.lsl (H.length+5) 1 0 (s.rows.length+1),.lsl (L (.n 5)) 1 0 s.lists.length,.mp (L (.n 6)),.mp (L (.n 7))])) ++
  [.box ((DJ e).map .d),.row false (Ax .i64 [e.1]),.row false (Ax .i64 (s.above++[e.1])),.map [],.box [.mp (H.length+3)],.box (JV L s.rows.length++[.mp (H.length+3)])]
theorem EJ (L:Rl→Nat) (s:Ly) (H:List Aa) (e:Elm):(E2 L s H e).length=H.length+6:=by simp[E2]
theorem V6 {L:Rl→Nat} {s:Ly} {H:List Aa} (h:Bz L s H) (e:Elm):Bz (EE L s.rows.length (H.length+1)) (s.row e.1) (E2 L s H e)∧CG L s H (EE L s.rows.length (H.length+1)) (s.row e.1) (E2 L s H e):=by
 have ok:∀ k,k<8+s.rows.length→Bj s (.n k):=fun k hk=>hk
 have l0:=h.lt _ (ok 0 (by omega))
 have hlen:=EJ L s H e
 constructor
 ·refine h.newrow (N:=H.length+1) (by omega) (by omega) (by omega) ?_ ?_ ?_ ?_ fun a ha a0 a2 a4=>?_
  ·unfold E2
   rw[Az (by simpa using l0),Bt (by simpa using l0)]
  ·show (E2 L s H e)[H.length+2]?=_
   unfold E2
   rw[AQ (by simp)]
   simp
  ·show (E2 L s H e)[H.length+5]?=_
   unfold E2
   rw[AQ (by simp)]
   simp
  ·show (E2 L s H e)[H.length+3]?=_
   unfold E2
   rw[AQ (by simp)]
   simp
  ·have la:=h.lt a ha
   unfold E2
   rw[Az (by simpa using la),An (h.ne (ok 0 (by omega)) ha (Ne.symm a0)),An (h.ne (ok 4 (by omega)) ha (Ne.symm a4)),An (h.ne (ok 0 (by omega)) ha (Ne.symm a0)),An (h.ne (ok 2 (by omega)) ha (Ne.symm a2))]
 ·refine ⟨?_,?_,by omega,fun i hi hr=>?_,fun x hx=>V4 (a:=e.1) (by omega) hx⟩
  ·unfold EE;rw[AR _ _ (by omega),AR _ _ (by decide),AR _ _ (by decide)]
  ·unfold EE;rw[AR _ _ (by omega),AR _ _ (by decide),AR _ _ (by decide)]
  ·unfold E2
   rw[Az (by simpa using hi),An (hr _ (ok 0 (by omega))),An (hr _ (ok 4 (by omega))),An (hr _ (ok 0 (by omega))),An (hr _ (ok 2 (by omega)))]
theorem V5 {L:Rl→Nat} {s:Ly} {H:List Aa} (h:NoX H) (e:Elm):NoX (E2 L s H e):=by
 unfold E2
 exact ((((h.set _ (by simp)).set _ (by simp)).set _ (by simp)).set _ (by simp)).app (by simp[NoX])
def MG:BZ:=fun k=>Agp k 2000042 || (Agp k 4000059 || Agp k 4000060)
theorem Ku:MG 2000042=true:=rfl
theorem RQ:MG 4000059=true:=rfl
theorem RP:MG 4000060=true:=rfl
theorem Kt {k:Nat} (h:¬(k=2000042∨k=4000059∨k=4000060)):MG k=false:=by
 cases e:MG k with
 | false=>rfl
 | true =>
  unfold MG at e
  simp only[Af5] at e
  rcases e with e | e | e
  ·exact absurd (.inl (AfI e)) h
  ·exact absurd (.inr (.inl (AfI e))) h
  ·exact absurd (.inr (.inr (AfI e))) h
def gK (recs further:Bool) (l:List Elm) (k:Nat):Ly:=(l.take k).foldl (Ly.elm recs) (ly0 further)
theorem EQ (recs further:Bool) (l:List Elm) {k:Nat} (h:k<l.length):gK recs further l (k+1)=(gK recs further l k).elm recs (l.getD k noE):=by
 unfold gK
 rw[Afs,AdU h,AgH,AdV,AdU h]
 rfl
theorem SD (further:Bool) (l:List Elm):gK (!l.any B2) further l l.length=Ai further l:=by unfold gK Ai;rw[AfP]
def CD:List Elm→Nat
 | []=>0
 | e::r=>nsz e.2+CD r
theorem Fm:∀ l:List Elm,l.length≤CD l
 | []=>Afw _
 | e::r=>by have:=Fm r;have:=EM e.2;rw[CD,AdX];omega
theorem LZ (a b:List Elm):CD (a++b)=CD a+CD b:=by
 induction a with
 | nil=>simp[CD]
 | cons x r ih=>simp only[Agj,CD,ih];omega
theorem Nz (l:List Elm) (k:Nat):CD (l.take k)≤CD l:=by
 have:=LZ (l.take k) (l.drop k)
 rw[List.take_append_drop] at this
 omega
theorem Jz {l:List Elm} {k:Nat} (h:k<l.length):CD (l.take (k+1))=CD (l.take k)+nsz (l.getD k noE).2:=by
 rw[Afs,AdU h,LZ,AdV,AdU h]
 simp[CD]
theorem LyB.row {s:Ly} {B:Nat} (h:LyB s B) (a:Int) (hr:s.rows.length+1≤1000000000):LyB (s.row a) B:=⟨h.paths,h.lists,by simpa[Ly.row] using hr,h.it⟩
theorem Ly.elm_rows (recs:Bool) (s:Ly) (e:Elm):(s.elm recs e).rows.length=s.rows.length+1:=by
 unfold Ly.elm
 rw[Ly.parts_rows]
 simp[Ly.row]
theorem LyB.elm {s:Ly} {B:Nat} (h:LyB s B) (recs:Bool) (e:Elm) (hr:s.rows.length+1≤1000000000):LyB (s.elm recs e) (B+nsz e.2):=by
 unfold Ly.elm
 split
 ·exact LyB.parts e.2 [] (h.row e.1 hr)
 ·rw[Ly.parts_one]
  have:=EM e.2
  exact ((h.row e.1 hr).single _ _).mono (by omega)
theorem FK (recs further:Bool) (l:List Elm):∀ k,k≤l.length→(gK recs further l k).rows.length=k
 | 0,_=>rfl
 | k+1,h=>by rw[EQ recs further l (by omega),Ly.elm_rows,FK recs further l k (by omega)]
theorem OK (recs further:Bool) (l:List Elm) (hl:l.length≤1000000):∀ k,k≤l.length→LyB (gK recs further l k) (CD (l.take k))
 | 0,_=>⟨Afv _,Afv _,Afv _,fun _=>Afv _⟩
 | k+1,h=>by
   rw[EQ recs further l (by omega),Jz (by omega)]
   exact (OK recs further l hl k (by omega)).elm recs _ (by rw[FK recs further l k (by omega)];omega)
theorem TD (L:Rl→Nat) (s:Ly) (H:List Aa) (a k:Int) (t:List UInt8) (ks:List (List UInt8)) (l:List Nd):E2 L s H (a,.mk k t ks l)=((((H.set (L (.n 2)) .dead).set (L (.n 0)) (.box [.d (.bool s.further),.lsl (H.length+2) 1 0 (s.above.length+1),.lsl (L (.n 3)) 1 0 s.paths.length,.lsl (L (.n 4)) 1 0 s.rows.length,.lsl (L (.n 5)) 1 0 s.lists.length,.mp (L (.n 6)),.mp (L (.n 7))])).set (L (.n 4)) .dead).set (L (.n 0)) (.box [.d (.bool s.further),.lsl (H.length+2) 1 0 (s.above.length+1),.lsl (L (.n 3)) 1 0 s.paths.length,.lsl (H.length+5) 1 0 (s.rows.length+1),.lsl (L (.n 5)) 1 0 s.lists.length,.mp (L (.n 6)),.mp (L (.n 7))]))++[.box [.d (.int .i64 a),.d (.int .i64 k),.d (S t),.d (Ss ks false),.d (.sl l.length false (AY l))],.row false [.int .i64 a],.row false (Ax .i64 s.above++[.int .i64 a]),.map [],.box [.mp (H.length+3)],.box (JV L s.rows.length++[.mp (H.length+3)])]:=by
 unfold E2
 simp[DJ,ndC,Ax]
theorem V7 (L:Rl→Nat) (s:Ly) (H:List Aa) (a k:Int) (t:List UInt8) (ks:List (List UInt8)) (l:List Nd) (hn:s.rows.length=0):E2 L s H (a,.mk k t ks l)=((((H.set (L (.n 2)) .dead).set (L (.n 0)) (.box [.d (.bool s.further),.lsl (H.length+2) 1 0 (s.above.length+1),.lsl (L (.n 3)) 1 0 s.paths.length,.lsl (L (.n 4)) 1 0 s.rows.length,.lsl (L (.n 5)) 1 0 s.lists.length,.mp (L (.n 6)),.mp (L (.n 7))])).set (L (.n 4)) .dead).set (L (.n 0)) (.box [.d (.bool s.further),.lsl (H.length+2) 1 0 (s.above.length+1),.lsl (L (.n 3)) 1 0 s.paths.length,.lsl (H.length+5) 1 0 1,.lsl (L (.n 5)) 1 0 s.lists.length,.mp (L (.n 6)),.mp (L (.n 7))]))++[.box [.d (.int .i64 a),.d (.int .i64 k),.d (S t),.d (Ss ks false),.d (.sl l.length false (AY l))],.row false [.int .i64 a],.row false (Ax .i64 s.above++[.int .i64 a]),.map [],.box [.mp (H.length+3)],.box [.mp (H.length+3)]]:=by
 rw[TD]
 simp[hn,JV]
theorem Ly.parts_above (s:Ly):∀ l:List Pt,(s.parts l).above=s.above
 | []=>rfl
 | q::r=>by
   have:=Ly.parts_above (s.part q) r
   have e:(s.part q).above=s.above:=by
    cases q with
    | c p x=>rfl
    | l p k =>
     show (s.list p k).above=_
     unfold Ly.list
     split<;>rfl
   rw[e] at this
   exact this
theorem LW (recs further:Bool) (l:List Elm):∀ k,k≤l.length→(gK recs further l k).above.length=k
 | 0,_=>rfl
 | k+1,h=>by
   rw[EQ recs further l (by omega)]
   unfold Ly.elm
   rw[Ly.parts_above]
   have:=LW recs further l k (by omega)
   simp[Ly.row,this]
def ZI (recs further:Bool) (l:List Elm) (k:Nat) (x:(Rl→Nat) × List Aa):Prop:=Bz x.1 (gK recs further l k) x.2∧NoX x.2∧x.1 (.n 0)=2∧x.1 (.n 1)=3
def GthT (G:Ad) (recs further:Bool) (l:List Elm) (k:Nat) (x y:(Rl→Nat) × List Aa):Prop :=
 x.2.length+6≤y.2.length ∧
 (recs=true→Ctr TP G 59 [.ptr 2 0,.mp 3,.d (S []),.d (NdD (l.getD k noE).2)] (E2 x.1 (gK recs further l k) x.2 (l.getD k noE)) (.d (.tup [])) y.2) ∧
 (recs=false→Ctr TP G 60 [.ptr 2 0,.mp 3,.d (S DA),.d (NdD (l.getD k noE).2)] (E2 x.1 (gK recs further l k) x.2 (l.getD k noE)) (.d (.tup [])) y.2)
theorem WP (recs further:Bool) (l:List Elm) (hrec:recs=true→∀ e∈l,e.2.kind=6) (hok:∀ e∈l,Gm e.2) (hz:CD l≤4000) {k:Nat} (hk:k<l.length) {x:(Rl→Nat) × List Aa} (hx:ZI recs further l k x) :
  ∃ y,GthT G recs further l k x y∧ZI recs further l (k+1) y:=by
 obtain ⟨L1,H1⟩:=x
 obtain ⟨i1,i2,i3,i4⟩:=hx
 simp only at i1 i2 i3 i4
 have hlz:=Fm l
 have hem:l.getD k noE∈l:=EF hk
 have hsz:=Jz hk
 have htk:=Nz l (k+1)
 have hrw:=FK recs further l k (by omega)
 have hB:=OK recs further l (by omega) k (by omega)
 obtain ⟨y1,y2⟩:=V6 i1 (l.getD k noE)
 have y3:NoX (E2 L1 (gK recs further l k) H1 (l.getD k noE)):=V5 i2 _
 have yl:=EJ L1 (gK recs further l k) H1 (l.getD k noE)
 have z0:=y2.n0
 have z1:=y2.n1
 rw[i3] at z0
 rw[i4] at z1
 have hr0:0<((gK recs further l k).row (l.getD k noE).1).rows.length:=by simp[Ly.row]
 have hBr:=hB.row (l.getD k noE).1 (by omega)
 have hsucc:=EQ recs further l hk
 generalize hL2:EE L1 (gK recs further l k).rows.length (H1.length+1)=L2 at *
 cases recs with
 | true =>
  have e1:(gK true further l k).elm true (l.getD k noE)=((gK true further l k).row (l.getD k noE).1).parts (Bi (l.getD k noE).2 []):=rfl
  rw[e1] at hsucc
  obtain ⟨L',H',r1,r2,r3,r4⟩:=Lh (G:=G) _ (l.getD k noE).2 (Afw _) [] y1 hr0 y3 (hok _ hem) (hrec rfl _ hem) hBr (by omega) (by rw[Ad1];omega)
  rw[←hsucc] at r2 r3
  rw[z0,z1] at r1
  have:=r3.len
  exact ⟨(L',H'),⟨by show H1.length+6≤H'.length;omega,fun _=>r1,fun q=>(by cases q)⟩,r2,r4,r3.n0.trans z0,r3.n1.trans z1⟩
 | false =>
  have e1:(gK false further l k).elm false (l.getD k noE)=((gK false further l k).row (l.getD k noE).1).single DA (Bm (l.getD k noE).2):=rfl
  rw[e1] at hsucc
  obtain ⟨L',H',r1,r2,r3,r4⟩:=K0 (G:=G) y1 hr0 y3 DA (l.getD k noE).2 ⟨by have:=hBr.paths;omega,hBr.rows⟩ (by simp[DA])
  rw[←hsucc] at r2 r3
  rw[z0,z1] at r1
  have:=r3.len
  exact ⟨(L',H'),⟨by show H1.length+6≤H'.length;omega,fun q=>(by cases q),fun _=>r1⟩,r2,r4,r3.n0.trans z0,r3.n1.trans z1⟩
def lyL:Rl→Nat
 | .n k=>[2,3,4,5,6,7,0,1].getD k 0
 | .i _=>0
def lyH (further:Bool):List Aa:=[.amap [],.map [],.box [.d (.bool further),.lsl 4 1 0 0,.lsl 5 1 0 0,.lsl 6 1 0 0,.lsl 7 1 0 0,.mp 0,.mp 1],.map [],.row false [],.row false [],.row false [],.row false []]
theorem Y8 (further:Bool):Bz lyL (ly0 further) (lyH further):=by
 have key:∀ a,Bj (ly0 further) a→∃ k,k<8∧a=.n k:=fun a ha=>by
  cases a with
  | n k=>exact ⟨k,ha,rfl⟩
  | i q=>exact absurd rfl ha
 refine ⟨fun a b ha hb e=>?_,fun a ha=>?_,rfl,⟨[],rfl,GQ.nil,fun p=>by simp[Ik,ly0]⟩,rfl,rfl,rfl,rfl,⟨[],rfl,GQ.nil,fun p=>by simp[Ik,ly0]⟩,⟨[],rfl,GQ.nil,fun p=>by simp[Ik,ly0]⟩,fun i h=>absurd h (Nat.not_lt_zero _),fun p h=>absurd rfl h⟩
 ·obtain ⟨i,hi,rfl⟩:=key a ha
  obtain ⟨j,hj,rfl⟩:=key b hb
  have:∀ i,i<8→∀ j,j<8→lyL (.n i)=lyL (.n j)→i=j:=by decide
  rw[this i hi j hj e]
 ·obtain ⟨i,hi,rfl⟩:=key a ha
  have:∀ i,i<8→lyL (.n i)<(lyH further).length:=by
   have h8:(lyH further).length=8:=rfl
   rw[h8]
   decide
  exact this i hi
theorem HO (further:Bool) (l:List Elm) (full:Bool) (hok:∀ e∈l,Gm e.2) (hz:CD l≤4000) :
  ∃ L' H',Ctr TP G 32 [.d (.bool further),.d (ElS l full)] [] (.ptr 2 0) H'∧Bz L' (Ai further l) H'∧NoX H'∧L' (.n 0)=2:=by
 have hlz:=Fm l
 have hrec:(!l.any B2)=true→∀ e∈l,e.2.kind=6:=by
  intro h e he
  simp only[Af9,AgI] at h
  have:=h e he
  simpa[B2,Es] using this
 obtain ⟨f,f0,fI,fT⟩:=Ji (ZI (!l.any B2) further l) (GthT G (!l.any B2) further l) l.length (lyL,lyH further) ⟨Y8 further,by simp[NoX,lyH],rfl,rfl⟩ (fun k hk x hx=>WP _ further l hrec hok hz hk hx)
 have fE:=fI l.length (Afw _)
 unfold ZI at fE
 rw[SD] at fE
 refine ⟨(f l.length).1,(f l.length).2,Ctr.bodyI (M:=MG) Am Tryz.func32 rfl go32 fE.2.1.ok ?_,fE.1,fE.2.1,fE.2.2.1⟩
 have el:=Bu l
 simp(maxSteps:=1000000)(disch:=(try simp only[awL]);omega)only[awS,Tryz.f32,Kt,Ku,el,↓awU,awY,↓reduceIte,↓reduceDIte,↓Qe,Qu,Qv,Qw,Qx,Qy,Qz,QA,QB,QC,QD,QE,QF,QG,QH,QI,QK]
 refine Ab.of (HZ 58 B2 l false (by omega) fun e _=>Q7 e) (by rfl) ?_
 generalize hrc:(!l.any B2)=recs at *
 have hany:l.any B2=!recs:=by rw[←hrc];simp
 rw[hany]
 simp(maxSteps:=1000000)(disch:=(try simp only[awL]);omega)only[awS,Kt,Ku,el,Bool.not_not,↓awU,awY,↓reduceIte,↓reduceDIte,↓Qe,Qu,Qv,Qw,Qx,Qy,Qz,QA,QB,QC,QD,QE,QF,QG,QH,QI,QK]
 refine Au.frI 1573088 (α:=Nat) (fun k=>l.length-k) (fun k=>[(21,.d (.int .i64 k))]) (fun k=>(f k).2) (fun k=>k≤l.length) 0 (Afv _) ?_ ?_
 ·rw[f0]
  unfold lyH
  first
  | exact .weak ⟨[some 0,some 1,some 2,some 3,none,none,none,none],rfl,by simp,by simp[sA,kA,SW,AW],by simp[HW,BW,SW,AW]⟩
 ·intro k hkk
  simp only[awK,Ae2,Ae3,reduceIte]
  rcases Ae1 k l.length with hlt | hge
  ·obtain ⟨t1,t2,t3⟩:=fT k hlt
   obtain ⟨i1,i2,i3,i4⟩:=fI k hkk
   have hrw:=FK recs further l k hkk
   have hB:=OK recs further l (by omega) k hkk
   have htk:=Nz l k
   have hab:=LW recs further l k hkk
   generalize hHk:(f k).2=Hk at *
   generalize hLk:(f k).1=Lk at *
   generalize hsk:gK recs further l k=sk at *
   have ok:∀ j,j<8+sk.rows.length→Bj sk (.n j):=fun j hj=>hj
   have q0:=i1.box
   have q2:=i1.above
   have q4:=i1.rows
   rw[i3] at q0
   have l0:=i1.lt _ (ok 0 (by omega))
   have l2:=i1.lt _ (ok 2 (by omega))
   have l4:=i1.lt _ (ok 4 (by omega))
   have n02:=i1.ne (ok 0 (by omega)) (ok 2 (by omega)) (by simp)
   have n04:=i1.ne (ok 0 (by omega)) (ok 4 (by omega)) (by simp)
   have n24:=i1.ne (ok 2 (by omega)) (ok 4 (by omega)) (by simp)
   rw[i3] at l0 n02 n04
   have al:=@ints_length .i64 sk.above
   have g:=Jy hlt
   have rl:=Oq Lk sk.rows.length
   generalize hee:l.getD k noE=ee at *
   obtain ⟨ea,ka,kb,kc,kl⟩:=ee
   obtain ⟨cf,hcf⟩:=CZ [2,Lk (.n 2),Hk.length,Hk.length+1,Hk.length+2] (by simp only[AfZ,Ad0,Af3,or_false,not_or,Agv,and_true,not_false_eq_true];omega)
   have c0:=hcf 0 _ rfl
   have c1:=hcf 1 _ rfl
   have c2:=hcf 2 _ rfl
   have c3:=hcf 3 _ rfl
   have c4:=hcf 4 _ rfl
   by_cases hn:sk.rows.length=0
   ·rw[IC,if_pos hn] at q4
    simp(maxSteps:=1000000)(disch:=(try simp only[awL]);omega)only[awS,Kt,Ku,show markK MG (some 42)=true from rfl,el,g,q0,q2,q4,al,DJ,ndC,awH,↓awU,awY,↓reduceIte,↓reduceDIte,↓Qe,Qu,Qv,Qw,Qx,Qy,Qz,QA,QB,QC,QD,QE,QF,QG,QH,QI,QK]
    refine ⟨AE cf (by simp (disch:=omega) only[Bd,AN,AM,A8,A7,and_self]) (by simp only[AfQ,AfT,c0,c1,c2,c3,c4];rfl),?_⟩
    have e1:=V7 Lk sk Hk ea ka kb kc kl hn
    rw[e1,i3] at t2 t3
    have hl1:=congrArg List.length e1
    rw[EJ] at hl1
    cases recs with
    | true =>
     simp(maxSteps:=1000000)(disch:=(try simp only[awL]);omega)only[awS,Kt,Ku,RQ,RP,DJ,ndC,awH,↓awU,awY,↓reduceIte,↓reduceDIte,↓Qe,Qu,Qv,Qw,Qx,Qy,Qz,QA,QB,QC,QD,QE,QF,QG,QH,QI,QK]
     first
     | refine Ap.go (t2 rfl) ⟨.inl rfl,.inl rfl,.inl rfl,.inr (.inr ⟨_,rfl,rfl,.inl rfl⟩),trivial⟩ (by rw[i3] at hl1;rw[←hl1];exact t1) ?_
     simp(maxSteps:=1000000)(disch:=(try simp only[awL]);omega)only[awS,Kt,Ku,RQ,RP,awH,↓awU,awY,↓reduceIte,↓reduceDIte,↓Qe,Qu,Qv,Qw,Qx,Qy,Qz,QA,QB,QC,QD,QE,QF,QG,QH,QI,QK]
     first
     | exact ⟨k+1,hlt,by simp only;omega,.inl ⟨rfl,by simp[sA,kA,CH]⟩⟩
    | false =>
     simp(maxSteps:=1000000)(disch:=(try simp only[awL]);omega)only[awS,Kt,Ku,RQ,RP,DJ,ndC,awH,↓awU,awY,↓reduceIte,↓reduceDIte,↓Qe,Qu,Qv,Qw,Qx,Qy,Qz,QA,QB,QC,QD,QE,QF,QG,QH,QI,QK]
     first
     | refine Ap.go (t3 rfl) ⟨.inl rfl,.inl rfl,.inl rfl,.inr (.inr ⟨_,rfl,rfl,.inl rfl⟩),trivial⟩ (by rw[i3] at hl1;rw[←hl1];exact t1) ?_
     simp(maxSteps:=1000000)(disch:=(try simp only[awL]);omega)only[awS,Kt,Ku,RQ,RP,awH,↓awU,awY,↓reduceIte,↓reduceDIte,↓Qe,Qu,Qv,Qw,Qx,Qy,Qz,QA,QB,QC,QD,QE,QF,QG,QH,QI,QK]
     first
     | exact ⟨k+1,hlt,by simp only;omega,.inl ⟨rfl,by simp[sA,kA,CH]⟩⟩
   ·rw[IC,if_neg hn] at q4
    have q4':Hk[Lk (.n 4)]?=some (.box (JV Lk sk.rows.length)):=q4
    simp(maxSteps:=1000000)(disch:=(try simp only[awL]);omega)only[awS,Kt,Ku,show markK MG (some 42)=true from rfl,el,g,q0,q2,q4',rl,al,DJ,ndC,awH,↓awU,awY,↓reduceIte,↓reduceDIte,↓Qe,Qu,Qv,Qw,Qx,Qy,Qz,QA,QB,QC,QD,QE,QF,QG,QH,QI,QK]
    refine ⟨AE cf (by simp (disch:=omega) only[Bd,AN,AM,A8,A7,and_self]) (by simp only[AfQ,AfT,c0,c1,c2,c3,c4];rfl),?_⟩
    have e1:=TD Lk sk Hk ea ka kb kc kl
    rw[e1,i3] at t2 t3
    have hl1:=congrArg List.length e1
    rw[EJ] at hl1
    cases recs with
    | true =>
     simp(maxSteps:=1000000)(disch:=(try simp only[awL]);omega)only[awS,Kt,Ku,RQ,RP,DJ,ndC,awH,↓awU,awY,↓reduceIte,↓reduceDIte,↓Qe,Qu,Qv,Qw,Qx,Qy,Qz,QA,QB,QC,QD,QE,QF,QG,QH,QI,QK]
     first
     | refine Ap.go (t2 rfl) ⟨.inl rfl,.inl rfl,.inl rfl,.inr (.inr ⟨_,rfl,rfl,.inl rfl⟩),trivial⟩ (by rw[i3] at hl1;rw[←hl1];exact t1) ?_
     simp(maxSteps:=1000000)(disch:=(try simp only[awL]);omega)only[awS,Kt,Ku,RQ,RP,awH,↓awU,awY,↓reduceIte,↓reduceDIte,↓Qe,Qu,Qv,Qw,Qx,Qy,Qz,QA,QB,QC,QD,QE,QF,QG,QH,QI,QK]
     first
     | exact ⟨k+1,hlt,by simp only;omega,.inl ⟨rfl,by simp[sA,kA,CH]⟩⟩
    | false =>
     simp(maxSteps:=1000000)(disch:=(try simp only[awL]);omega)only[awS,Kt,Ku,RQ,RP,DJ,ndC,awH,↓awU,awY,↓reduceIte,↓reduceDIte,↓Qe,Qu,Qv,Qw,Qx,Qy,Qz,QA,QB,QC,QD,QE,QF,QG,QH,QI,QK]
     first
     | refine Ap.go (t3 rfl) ⟨.inl rfl,.inl rfl,.inl rfl,.inr (.inr ⟨_,rfl,rfl,.inl rfl⟩),trivial⟩ (by rw[i3] at hl1;rw[←hl1];exact t1) ?_
     simp(maxSteps:=1000000)(disch:=(try simp only[awL]);omega)only[awS,Kt,Ku,RQ,RP,awH,↓awU,awY,↓reduceIte,↓reduceDIte,↓Qe,Qu,Qv,Qw,Qx,Qy,Qz,QA,QB,QC,QD,QE,QF,QG,QH,QI,QK]
     first
     | exact ⟨k+1,hlt,by simp only;omega,.inl ⟨rfl,by simp[sA,kA,CH]⟩⟩
  ·obtain rfl:k=l.length:=by omega
   simp(maxSteps:=1000000)(disch:=(try simp only[awL]);omega)only[awS,el,↓awU,awY,↓reduceIte,↓reduceDIte,↓Qe,Qu,Qv,Qw,Qx,Qy,Qz,QA,QB,QC,QD,QE,QF,QG,QH,QI,QK]
   first
   | exact Or.inr ⟨rfl,Or.inl rfl⟩
def Lz (n:Nat) (c:Col):Bool:=Dq c.name && (decide (c.cells.length≤4096) && (decide (c.cells.length=n) && c.cells.all CN))
def DZ (t:Tab):Bool:=PS t.id t.name && (decide (t.cols.length≤64) && t.cols.all (Lz (Dm t)))
def UR (t:Tab):Prop:=t.name.length≤1000000000∧t.cols.length≤1000000∧∀ c∈t.cols,c.name.length≤1000000000∧c.cells.length≤1000000∧∀ x∈c.cells,x.1.length≤1000000000
theorem SL (hT:HT G) (l:List Cel) (full:Bool) (hl:l.length≤1000000000) (hs:∀ c∈l,c.1.length≤1000000000) :
  Ctr TP G 126 [.d (RS l full),.d (.fn (.func 127) [] [])] [] (.d (.bool (l.all CN))) []:=by
 refine Ctr.pure (M:=M0) Am Tryz.func126 rfl AeO ?_
 have sl:=Bv l
 simp(maxSteps:=1000000)(disch:=(try simp only[awL]);omega)only[awS,sl,Tryz.f126,↓awU,awY,↓reduceIte,↓reduceDIte,↓Qe,Qu,Qv,Qw,Qx,Qy,Qz,QA,QB,QC,QD,QE,QF,QG,QH,QI,QK]
 refine Au.fr 386 (α:=Nat) (fun i=>l.length-i) (fun i=>[(9,.d (.int .i64 i))]) (fun _=>[]) (fun i=>i≤l.length∧l.all CN=(l.drop i).all CN) 0 ⟨Afv _,rfl⟩ ?_ ?_
 ·exact ⟨[],rfl,by simp,by simp[sA,kA,SW,AW],by simp[HW,BW,SW,AW]⟩
 ·rintro i ⟨h1,h2⟩
  simp only[awK,Ae2,Ae3,reduceIte]
  rw[h2]
  rcases Ae1 i l.length with h | h
  ·have g:=JB h
   have hd:(l.drop i).all CN=(CN (l.getD i noC) && (l.drop (i+1)).all CN):=by
    rw[AfS h,Agz,AdV,AdU h];rfl
   have hm:(l.getD i noC).1.length≤1000000000:=hs _ (EF h)
   rw[hd]
   simp(maxSteps:=1000000)(disch:=(try simp only[awL]);omega)only[awS,sl,g,↓awU,awY,↓reduceIte,↓reduceDIte,↓Qe,Qu,Qv,Qw,Qx,Qy,Qz,QA,QB,QC,QD,QE,QF,QG,QH,QI,QK]
   refine Ab.of (KT hT (l.getD i noC) hm) (by rfl) ?_
   cases hx:CN (l.getD i noC)
   ·simp(maxSteps:=1000000)(disch:=(try simp only[awL]);omega)only[awS,↓awU,awY,↓reduceIte,↓reduceDIte,↓Qe,Qu,Qv,Qw,Qx,Qy,Qz,QA,QB,QC,QD,QE,QF,QG,QH,QI,QK]
    first | done | rfl | exact ⟨by rfl,by rfl⟩
   ·simp(maxSteps:=1000000)(disch:=(try simp only[awL]);omega)only[awS,↓awU,awY,↓reduceIte,↓reduceDIte,↓Qe,Qu,Qv,Qw,Qx,Qy,Qz,QA,QB,QC,QD,QE,QF,QG,QH,QI,QK]
    first
    | exact ⟨i+1,⟨h,by rw[h2,hd,hx,AdW]⟩,by simp only;omega,⟨[],rfl,by simp,by simp[sA,kA,SW,AW],by simp[HW,BW,SW,AW]⟩⟩
    | exact ⟨i+1,⟨h,rfl⟩,by simp only;omega,⟨[],rfl,by simp,by simp[sA,kA,SW,AW],by simp[HW,BW,SW,AW]⟩⟩
  ·rw[Af7 h]
   simp(maxSteps:=1000000)(disch:=(try simp only[awL]);omega)only[awS,sl,↓awU,awY,↓reduceIte,↓reduceDIte,↓Qe,Qu,Qv,Qw,Qx,Qy,Qz,QA,QB,QC,QD,QE,QF,QG,QH,QI,QK]
   first | done | rfl
def FN (n:Nat) (c:Col):Bool:=!Dq c.name || (decide (¬c.cells.length=n) || !c.cells.all CN)
abbrev tabB (t:Tab) (f:Bool):Aa:=.box [.d (.int .i64 t.id),.d (S t.name),.d (Kw t.cols f)]
theorem Pk (hT:HT G) (t:Tab) (f:Bool) (ht:UR t) (c:Col) (hc:c∈t.cols):Ctr TP G 125 [.d (.agg (XF c)),.ptr 0 0] [tabB t f] (.d (.bool (FN (Dm t) c))) [tabB t f]:=by
 obtain ⟨h1,h2,h3⟩:=ht
 obtain ⟨c1,c2,c3⟩:=h3 c hc
 obtain ⟨r,hr⟩:∃ r,r=FN (Dm t) c:=⟨_,rfl⟩
 rw[←hr]
 unfold FN at hr
 refine Ctr.body (M:=M0) Am Tryz.func125 rfl AeP ?_
 have sl:=Bv c.cells
 have rs:=M2 (G:=G) t false (by omega) (fun c hc=>by have:=(h3 c hc).2.1;omega)
 have rn:Dm t≤1000000:=by
  unfold Dm
  split
  ·omega
  ·rename_i c' r' he
   exact (h3 c' (by rw[he];simp)).2.1
 generalize Dm t=n at *
 obtain ⟨id,name,cols⟩:=t
 obtain ⟨cn,cc⟩:=c
 simp(maxSteps:=1000000)(disch:=(try simp only[awL]);omega)only[awS,sl,Tryz.f125,↓awU,awY,↓reduceIte,↓reduceDIte,↓Qe,Qu,Qv,Qw,Qx,Qy,Qz,QA,QB,QC,QD,QE,QF,QG,QH,QI,QK]
 refine Ab.pure (Jx hT cn c1) ?_
 cases hf:Dq cn
 ·rw[hf,Agw,Ago] at hr
  subst hr
  simp(maxSteps:=1000000)(disch:=(try simp only[awL]);omega)only[awS,sl,↓awU,awY,↓reduceIte,↓reduceDIte,↓Qe,Qu,Qv,Qw,Qx,Qy,Qz,QA,QB,QC,QD,QE,QF,QG,QH,QI,QK]
  first
  | exact ⟨[some 0],rfl,by simp,by simp[HW,BW,SW,AW],.inl (by simp[AW,SW])⟩
  | exact ⟨by rfl,⟨[some 0],rfl,by simp,by simp[HW,BW,SW,AW],.inl (by simp[AW,SW])⟩⟩
 ·rw[hf,AgA,AgP] at hr
  simp(maxSteps:=1000000)(disch:=(try simp only[awL]);omega)only[awS,sl,↓awU,awY,↓reduceIte,↓reduceDIte,↓Qe,Qu,Qv,Qw,Qx,Qy,Qz,QA,QB,QC,QD,QE,QF,QG,QH,QI,QK]
  refine Ab.of rs (by rfl) ?_
  by_cases hn:cc.length=n
  ·subst hn
   rw[decide_eq_false (fun q=>q rfl),AgP] at hr
   simp(maxSteps:=1000000)(disch:=(try simp only[awL]);omega)only[awS,sl,↓awU,awY,↓reduceIte,↓reduceDIte,↓Qe,Qu,Qv,Qw,Qx,Qy,Qz,QA,QB,QC,QD,QE,QF,QG,QH,QI,QK]
   refine Ab.of (SL hT cc false (by omega) (fun x hx=>c3 x hx)) (by rfl) ?_
   rw[hr]
   generalize cc.all CN=b
   cases b
   ·simp(maxSteps:=1000000)(disch:=(try simp only[awL]);omega)only[awS,sl,↓awU,awY,↓reduceIte,↓reduceDIte,↓Qe,Qu,Qv,Qw,Qx,Qy,Qz,QA,QB,QC,QD,QE,QF,QG,QH,QI,QK]
    first
    | exact ⟨[some 0],rfl,by simp,by simp[HW,BW,SW,AW],.inl (by simp[AW,SW])⟩
    | exact ⟨by rfl,⟨[some 0],rfl,by simp,by simp[HW,BW,SW,AW],.inl (by simp[AW,SW])⟩⟩
   ·simp(maxSteps:=1000000)(disch:=(try simp only[awL]);omega)only[awS,sl,↓awU,awY,↓reduceIte,↓reduceDIte,↓Qe,Qu,Qv,Qw,Qx,Qy,Qz,QA,QB,QC,QD,QE,QF,QG,QH,QI,QK]
    first
    | exact ⟨[some 0],rfl,by simp,by simp[HW,BW,SW,AW],.inl (by simp[AW,SW])⟩
    | exact ⟨by rfl,⟨[some 0],rfl,by simp,by simp[HW,BW,SW,AW],.inl (by simp[AW,SW])⟩⟩
  ·rw[decide_eq_true hn,Ago] at hr
   subst hr
   simp(maxSteps:=1000000)(disch:=(try simp only[awL]);omega)only[awS,sl,hn,↓awU,awY,↓reduceIte,↓reduceDIte,↓Qe,Qu,Qv,Qw,Qx,Qy,Qz,QA,QB,QC,QD,QE,QF,QG,QH,QI,QK]
   first
   | exact ⟨[some 0],rfl,by simp,by simp[HW,BW,SW,AW],.inl (by simp[AW,SW])⟩
   | exact ⟨by rfl,⟨[some 0],rfl,by simp,by simp[HW,BW,SW,AW],.inl (by simp[AW,SW])⟩⟩
theorem Kl (g:FuncId) (p:Col→Bool) (l:List Col) (full:Bool) (fv:AV) (x y z:D) (hf:fv=.fn (.func g) [] [.ptr 0 0]) (hl:l.length≤1000000000) (hp:∀ c∈l,Ctr TP G g [.d (.agg (XF c)),.ptr 0 0] [.box [.d x,.d y,.d z]] (.d (.bool (p c))) [.box [.d x,.d y,.d z]]) :
  Ctr TP G 164 [.d (Kw l full),fv] [.box [.d x,.d y,.d z]] (.d (.int .i64 (ixF p l 0))) [.box [.d x,.d y,.d z]]:=by
 subst hf
 refine Ctr.body (M:=M0) Am Tryz.func164 rfl Aes ?_
 have sl:=A9 l
 simp(maxSteps:=1000000)(disch:=(try simp only[awL]);omega)only[sl,Tryz.f164,↓awU,awY,↓reduceIte,↓reduceDIte,↓Qe,Qu,Qv,Qw,Qx,Qy,Qz,QA,QB,QC,QD,QE,QF,QG,QH,QI,QK]
 refine Au.fr 131 (α:=Nat) (fun i=>l.length-i) (fun i=>[(8,.d (.int .i64 i))]) (fun _=>[.box [.d x,.d y,.d z]]) (fun i=>i≤l.length∧ixF p l 0=ixF p (l.drop i) i) 0 ⟨Afv _,rfl⟩ ?_ ?_
 ·exact ⟨[some 0],rfl,by simp,by simp[sA,kA,SW,AW],by simp[HW,BW,SW,AW]⟩
 ·rintro i ⟨h1,h2⟩
  simp only[awK,Ae2,Ae3,reduceIte]
  rw[h2]
  rcases Ae1 i l.length with h | h
  ·have g:=Fp h
   rw[LO (d:=LF) h]
   simp(maxSteps:=1000000)(disch:=(try simp only[awL]);omega)only[sl,g,↓awU,awY,↓reduceIte,↓reduceDIte,↓Qe,Qu,Qv,Qw,Qx,Qy,Qz,QA,QB,QC,QD,QE,QF,QG,QH,QI,QK]
   refine Ab.by (hp _ (EF h)) (by rfl) (by rfl) (by simp) ?_
   cases hx:p (l.getD i LF)
   ·simp(maxSteps:=1000000)(disch:=(try simp only[awL]);omega)only[↓awU,awY,↓reduceIte,↓reduceDIte,↓Qe,Qu,Qv,Qw,Qx,Qy,Qz,QA,QB,QC,QD,QE,QF,QG,QH,QI,QK]
    first
    | exact ⟨i+1,⟨h,rfl⟩,by simp only;omega,⟨[some 0],rfl,by simp,by simp[sA,kA,SW,AW],by simp[HW,BW,SW,AW]⟩⟩
   ·simp(maxSteps:=1000000)(disch:=(try simp only[awL]);omega)only[↓awU,awY,↓reduceIte,↓reduceDIte,↓Qe,Qu,Qv,Qw,Qx,Qy,Qz,QA,QB,QC,QD,QE,QF,QG,QH,QI,QK]
    first
    | exact ⟨[some 0],rfl,by simp,by simp[HW,BW,SW,AW],.inl (by simp[AW,SW])⟩
  ·rw[Af7 h,show ixF p [] (i:Int)=-1 from rfl]
   simp(maxSteps:=1000000)(disch:=(try simp only[awL]);omega)only[↓awU,awY,↓reduceIte,↓reduceDIte,↓Qe,Qu,Qv,Qw,Qx,Qy,Qz,QA,QB,QC,QD,QE,QF,QG,QH,QI,QK]
   first
   | exact ⟨[some 0],rfl,by simp,by simp[HW,BW,SW,AW],.inl (by simp[AW,SW])⟩
theorem H4 (g:FuncId) (p:Col→Bool) (l:List Col) (full:Bool) (x y z:D) (hl:l.length≤1000000000) (hp:∀ c∈l,Ctr TP G g [.d (.agg (XF c)),.ptr 0 0] [.box [.d x,.d y,.d z]] (.d (.bool (p c))) [.box [.d x,.d y,.d z]]) :
  Ctr TP G 124 [.d (Kw l full),.fn (.func g) [] [.ptr 0 0]] [.box [.d x,.d y,.d z]] (.d (.bool (l.any p))) [.box [.d x,.d y,.d z]]:=by
 refine Ctr.body (M:=M0) Am Tryz.func124 rfl AeQ ?_
 simp(maxSteps:=1000000)(disch:=(try simp only[awL]);omega)only[Tryz.f124,↓awU,awY,↓reduceIte,↓reduceDIte,↓Qe,Qu,Qv,Qw,Qx,Qy,Qz,QA,QB,QC,QD,QE,QF,QG,QH,QI,QK]
 refine Ab.by (Kl g p l false _ x y z rfl hl hp) (by rfl) (by rfl) (by simp) ?_
 have hi:=G6 (p:=p) l 0 (AgR _)
 generalize ixF p l 0=q at *
 rcases (by omega:0≤q∨q<0) with h | h
 ·rw[hi.1 h]
  simp(maxSteps:=1000000)(disch:=(try simp only[awL]);omega)only[↓awU,awY,↓reduceIte,↓reduceDIte,↓Qe,Qu,Qv,Qw,Qx,Qy,Qz,QA,QB,QC,QD,QE,QF,QG,QH,QI,QK]
  exact ⟨[some 0],rfl,by simp,by simp[HW,BW,SW,AW],.inl (by simp[AW,SW])⟩
 ·have:l.any p=false:=by cases hx:l.any p with
   | false=>rfl
   | true=>have:=hi.2 hx;omega
  rw[this]
  simp(maxSteps:=1000000)(disch:=(try simp only[awL]);omega)only[↓awU,awY,↓reduceIte,↓reduceDIte,↓Qe,Qu,Qv,Qw,Qx,Qy,Qz,QA,QB,QC,QD,QE,QF,QG,QH,QI,QK]
  exact ⟨[some 0],rfl,by simp,by simp[HW,BW,SW,AW],.inl (by simp[AW,SW])⟩
theorem Wo (t:Tab):DZ t=(PS t.id t.name && (decide (t.cols.length≤64) && (decide (Dm t≤4096) && !t.cols.any (FN (Dm t))))):=by
 unfold DZ
 cases PS t.id t.name
 ·rfl
 ·rw[AdW,AdW]
  cases decide (t.cols.length≤64)
  ·rfl
  ·rw[AdW,AdW]
   obtain ⟨id,name,cols⟩:=t
   cases cols with
   | nil=>simp[Dm]
   | cons c r =>
    have e1:Dm ⟨id,name,c::r⟩=c.cells.length:=rfl
    simp only[e1]
    generalize hn:c.cells.length=n
    by_cases h:n≤4096
    ·rw[decide_eq_true h,AdW,Bool.eq_iff_iff]
     simp only[Agb,Af9,AgI]
     constructor
     ·intro q x hx
      have:=q x hx
      unfold Lz at this
      unfold FN
      simp only[Agk,decide_eq_true_eq] at this
      obtain ⟨q1,q2,q3,q4⟩:=this
      rw[q1,q4,decide_eq_false (fun z=>z q3)]
      decide
     ·intro q x hx
      have:=q x hx
      unfold FN at this
      unfold Lz
      simp only[Af5,Af9,decide_eq_true_eq,not_or,Bool.not_eq_false,Classical.not_not] at this
      obtain ⟨q1,q3,q4⟩:=this
      rw[q1,q4,decide_eq_true q3,decide_eq_true (by omega)]
      rfl
    ·rw[decide_eq_false h,AdY,Agz]
     have:Lz n c=false:=by
      unfold Lz
      rw[decide_eq_false (by omega:¬c.cells.length≤4096)]
      simp
     rw[this,AdY]
theorem Ip (hT:HT G) (t:Tab) (full:Bool) (ht:UR t) (i1:-9223372036854775808≤t.id) (i2:t.id≤9223372036854775807) :
  Ctr TP G 95 [.d (RG t full)] [] (.d (.bool (DZ t))) []:=by
 obtain ⟨h1,h2,h3⟩:=id ht
 rw[Wo]
 obtain ⟨r,hr⟩:∃ r,r=(PS t.id t.name && (decide (t.cols.length≤64) && (decide (Dm t≤4096) && !t.cols.any (FN (Dm t))))):=⟨_,rfl⟩
 rw[←hr]
 unfold PS at hr
 refine Ctr.pure (M:=M0) Am Tryz.func95 rfl go95 ?_
 have rs:=M2 (G:=G) t false (by omega) (fun c hc=>by have:=(h3 c hc).2.1;omega)
 have rn:Dm t≤1000000:=by
  unfold Dm
  split
  ·omega
  ·rename_i c' r' he
   exact (h3 c' (by rw[he];simp)).2.1
 have cf:=H4 (G:=G) 125 (FN (Dm t)) t.cols false (.int .i64 t.id) (S t.name) (Kw t.cols full) (by omega) (fun c hc=>Pk hT t full ht c hc)
 generalize Dm t=n at *
 obtain ⟨id,name,cols⟩:=t
 simp only at *
 have cl:=A9 cols
 rcases (by omega:id<0∨1073741824<id∨(0≤id∧id≤1073741824)) with h | h | h
 ·rw[decide_eq_false (by omega),AdY,AdY] at hr
  subst hr
  simp(maxSteps:=1000000)(disch:=(try simp only[awL]);omega)only[awS,cl,Tryz.f95,↓awU,awY,↓reduceIte,↓reduceDIte,↓Qe,Qu,Qv,Qw,Qx,Qy,Qz,QA,QB,QC,QD,QE,QF,QG,QH,QI,QK]
  first | done | rfl | exact ⟨by rfl,by rfl⟩
 ·rw[decide_eq_false (by omega),AdY,AdY] at hr
  subst hr
  simp(maxSteps:=1000000)(disch:=(try simp only[awL]);omega)only[awS,cl,Tryz.f95,↓awU,awY,↓reduceIte,↓reduceDIte,↓Qe,Qu,Qv,Qw,Qx,Qy,Qz,QA,QB,QC,QD,QE,QF,QG,QH,QI,QK]
  first | done | rfl | exact ⟨by rfl,by rfl⟩
 ·rw[decide_eq_true h,AdW] at hr
  simp(maxSteps:=1000000)(disch:=(try simp only[awL]);omega)only[awS,cl,Tryz.f95,↓awU,awY,↓reduceIte,↓reduceDIte,↓Qe,Qu,Qv,Qw,Qx,Qy,Qz,QA,QB,QC,QD,QE,QF,QG,QH,QI,QK]
  refine Ab.pure (Jx hT name h1) ?_
  cases hf:Dq name
  ·rw[hf,AdY] at hr
   subst hr
   simp(maxSteps:=1000000)(disch:=(try simp only[awL]);omega)only[awS,cl,↓awU,awY,↓reduceIte,↓reduceDIte,↓Qe,Qu,Qv,Qw,Qx,Qy,Qz,QA,QB,QC,QD,QE,QF,QG,QH,QI,QK]
   first | done | rfl | exact ⟨by rfl,by rfl⟩
  ·rw[hf,AdW] at hr
   by_cases h64:cols.length≤64
   ·rw[decide_eq_true h64,AdW] at hr
    simp(maxSteps:=1000000)(disch:=(try simp only[awL]);omega)only[awS,cl,↓awU,awY,↓reduceIte,↓reduceDIte,↓Qe,Qu,Qv,Qw,Qx,Qy,Qz,QA,QB,QC,QD,QE,QF,QG,QH,QI,QK]
    refine Ab.of rs (by rfl) ?_
    by_cases hn:n≤4096
    ·rw[decide_eq_true hn,AdW] at hr
     simp(maxSteps:=1000000)(disch:=(try simp only[awL]);omega)only[awS,cl,↓awU,awY,↓reduceIte,↓reduceDIte,↓Qe,Qu,Qv,Qw,Qx,Qy,Qz,QA,QB,QC,QD,QE,QF,QG,QH,QI,QK]
     refine Ab.by cf (by rfl) (by rfl) (by simp) ?_
     generalize cols.any (FN n)=b at *
     subst hr
     cases b
     ·simp(maxSteps:=1000000)(disch:=(try simp only[awL]);omega)only[awS,cl,↓awU,awY,↓reduceIte,↓reduceDIte,↓Qe,Qu,Qv,Qw,Qx,Qy,Qz,QA,QB,QC,QD,QE,QF,QG,QH,QI,QK]
      first | done | rfl | exact ⟨by rfl,by rfl⟩
     ·simp(maxSteps:=1000000)(disch:=(try simp only[awL]);omega)only[awS,cl,↓awU,awY,↓reduceIte,↓reduceDIte,↓Qe,Qu,Qv,Qw,Qx,Qy,Qz,QA,QB,QC,QD,QE,QF,QG,QH,QI,QK]
      first | done | rfl | exact ⟨by rfl,by rfl⟩
    ·rw[decide_eq_false hn,AdY] at hr
     subst hr
     simp(maxSteps:=1000000)(disch:=(try simp only[awL]);omega)only[awS,cl,↓awU,awY,↓reduceIte,↓reduceDIte,↓Qe,Qu,Qv,Qw,Qx,Qy,Qz,QA,QB,QC,QD,QE,QF,QG,QH,QI,QK]
     first | done | rfl | exact ⟨by rfl,by rfl⟩
   ·rw[decide_eq_false h64,AdY] at hr
    subst hr
    simp(maxSteps:=1000000)(disch:=(try simp only[awL]);omega)only[awS,cl,↓awU,awY,↓reduceIte,↓reduceDIte,↓Qe,Qu,Qv,Qw,Qx,Qy,Qz,QA,QB,QC,QD,QE,QF,QG,QH,QI,QK]
    first | done | rfl | exact ⟨by rfl,by rfl⟩
def Dd (r:List UInt8→Option Cel) (p:List UInt8):Cel:=match r p with
 | some c=>c
 | none=>([],true)
def Mv:List UInt8:=[114,111,119]
def CB (above:List Int):Col:=⟨Mv,above.map fun a=>(Lib.decDigits a.toNat,false)⟩
def Cl (rows:List (List UInt8→Option Cel)) (p:List UInt8):Col:=⟨p,rows.map fun r=>Dd r p⟩
def CW (s:Ly):List Col:=if s.further=true then [CB s.above] else []
def Ca (s:Ly) (id:Int) (name:List UInt8):Tab:=⟨id,name,CW s++s.paths.map (Cl s.rows)⟩
def Eb (s:Ly) (id:Int) (name:List UInt8):Tab × Bool:=if 64<s.paths.length∨4096<s.rows.length then (⟨id,name,[]⟩,false) else (Ca s id name,DZ (Ca s id name))
def JW (n:Nat):Aa:=if n=0 then .row false [] else .box ((AfX n).map fun i=>.mp (4+i))
structure TblH (s:Ly) (P0:List Aa):Prop where
 len:P0.length=4+s.rows.length
 c0:∃ x y z:D,P0[0]?=some (.box [.d (.bool s.further),.lsl 1 1 0 s.above.length,.lsl 2 1 0 s.paths.length,.lsl 3 1 0 s.rows.length,.d x,.d y,.d z])
 c1:P0[1]?=some (.row false (Ax .i64 s.above))
 c2:P0[2]?=some (.row false (strs s.paths))
 c3:P0[3]?=some (JW s.rows.length)
 cm:∀ i,(h:i<s.rows.length)→∃ m:List (D × D),P0[4+i]?=some (.map m)∧GQ m∧∀ p,Fa m (S p)=(s.rows[i] p).map fun c=>.agg (Gd c)
 self:∀ b∈P0,RH P0.length b
 nox:NoX P0
structure LyT (s:Ly):Prop where
 above:∀ a∈s.above,0≤a∧a<10000000
 al:s.above.length≤1000000
 pl:s.paths.length≤1000000
 rl:s.rows.length≤1000000
 ps:∀ p∈s.paths,p.length≤1000000000
 cs:∀ r∈s.rows,∀ p c,r p=some c→c.1.length≤1000000000
abbrev zB:Aa:=.box [.d (.int .i64 0),.d (.str ByteArray.empty),.d (.sl 0 true [])]
abbrev tB (id:Int) (name:List UInt8) (c:AV):Aa:=.box [.d (.int .i64 id),.d (S name),c]
def HV (s:Ly) (k:Nat):List Cel:=(CB (s.above.take k)).cells
theorem Ro (s:Ly) (k:Nat) (h:k≤s.above.length):(HV s k).length=k:=by simp[HV,CB];omega
theorem Va (s:Ly) (k:Nat) (h:k<s.above.length):HV s (k+1)=HV s k++[(Lib.decDigits (s.above.getD k 0).toNat,false)]:=by
 unfold HV CB
 rw[Afs,AdU h,AdV,AdU h]
 simp only[AfW,Age,AfQ,AfT,Af2]
theorem GH (s:Ly):HV s s.above.length=(CB s.above).cells:=by unfold HV;rw[AfP]
def DL (s:Ly) (k:Nat):List Col:=CW s++(s.paths.take k).map (Cl s.rows)
theorem IY (s:Ly) (k:Nat) (h:k≤s.paths.length):(DL s k).length=(CW s).length+k:=by simp[DL];omega
theorem NF (s:Ly) (k:Nat) (h:k<s.paths.length):DL s (k+1)=DL s k++[Cl s.rows (s.paths.getD k [])]:=by
 unfold DL
 rw[Afs,AdU h,AdV,AdU h]
 simp only[AfW,Age,AfQ,AfT,Af2,Af8]
theorem Ri (s:Ly):DL s s.paths.length=CW s++s.paths.map (Cl s.rows):=by unfold DL;rw[AfP]
def Db (s:Ly) (p:List UInt8) (i:Nat):List Cel:=(s.rows.take i).map fun r=>Dd r p
theorem IZ (s:Ly) (p:List UInt8) (i:Nat) (h:i≤s.rows.length):(Db s p i).length=i:=by simp[Db];omega
theorem NJ (s:Ly) (p:List UInt8) (i:Nat) (h:i<s.rows.length):Db s p (i+1)=Db s p i++[Dd s.rows[i] p]:=by
 unfold Db
 rw[Afs,AdU h]
 simp only[AfW,Age,AfQ,AfT]
theorem Rn (s:Ly) (p:List UInt8):Db s p s.rows.length=(Cl s.rows p).cells:=by unfold Db;rw[AfP];rfl
theorem Hi.pre2 {P0 l:List Aa} {v r:AV} {d:D} (hs:∀ b∈P0,RH P0.length b) (hd:sealA (P0++l) v=some d) (hi:∀ j∈AJ v,P0.length≤j) (hr:r=.d (unf d)):Hi P0.length (P0++l) v r P0:=hr▸Hi.pre hs hd hi
theorem Rg {n:Nat} (h:n<10000000):(Lib.decDigits n).length≤21:=by
 have:=Lib.itoa_length_le (n:Int) (by omega) (by omega)
 rwa[Lib.itoa_nonneg] at this
theorem Tn {s:Ly} (hs:LyT s) (hp:¬64<s.paths.length) (id:Int) {name:List UInt8} (hn:name.length≤1000000000):UR (Ca s id name):=by
 obtain ⟨s1,s2,s3,s4,s5,s6⟩:=hs
 have tcl:(CW s).length≤1:=by unfold CW;split<;>simp
 refine ⟨hn,by simp[Ca];omega,fun c hc=>?_⟩
 rcases Agd.1 hc with hc | hc
 ·unfold CW at hc
  split at hc
  ·rw[AgB.1 hc]
   refine ⟨by simp[CB,Mv],by simp[CB];omega,fun x hx=>?_⟩
   obtain ⟨a,ha,rfl⟩:=AfY.1 hx
   obtain ⟨b1,b2⟩:=s1 a ha
   have:=Rg (n:=a.toNat) (by omega)
   simp only
   omega
  ·cases hc
 ·obtain ⟨p,hq,rfl⟩:=AfY.1 hc
  refine ⟨s5 p hq,by simp[Cl];omega,fun x hx=>?_⟩
  obtain ⟨r,hr,rfl⟩:=AfY.1 hx
  unfold Dd
  split
  ·exact s6 r hr p _ (by assumption)
  ·simp
theorem Ut (hT:HT G) (hP:HP G) (s:Ly) (hs:LyT s) (id:Int) (i1:-9223372036854775808≤id) (i2:id≤9223372036854775807) (name:List UInt8) (hn:name.length≤1000000000) {P0:List Aa} (h:TblH s P0) :
  Ctr TP G 56 [.ptr 0 0,.d (.int .i64 id),.d (S name)] P0 (.d (.tup [RG (Eb s id name).1 false,.bool (Eb s id name).2])) P0:=by
 obtain ⟨s1,s2,s3,s4,s5,s6⟩:=hs
 obtain ⟨x,y,z,q0⟩:=h.c0
 have q1:=h.c1
 have q2:=h.c2
 have q3:=h.c3
 have hl:=h.len
 have al:=@ints_length .i64 s.above
 have sl:=@strs_length s.paths
 obtain ⟨r,hr⟩:∃ r,r=Eb s id name:=⟨_,rfl⟩
 rw[←hr]
 unfold Eb at hr
 refine Ctr.body (M:=M0) Am Tryz.func56 rfl go56 ?_ (hx:=h.nox.ok)
 by_cases hp:64<s.paths.length
 ·rw[if_pos (.inl hp)] at hr
  subst hr
  simp(maxSteps:=1000000)(disch:=(try simp only[awL]);omega)only[awS,Tryz.f56,q0,q1,q2,q3,al,sl,awH,↓awU,awY,↓reduceIte,↓reduceDIte,↓Qe,Qu,Qv,Qw,Qx,Qy,Qz,QA,QB,QC,QD,QE,QF,QG,QH,QI,QK]
  exact Hi.pre2 (d:=.tup [.agg [.int .i64 id,S name,.sl 0 true []],.bool false]) h.self (by rfl) (by simp[AJ,idsL]) (by rfl)
 ·by_cases hw:4096<s.rows.length
  ·rw[if_pos (.inr hw)] at hr
   subst hr
   simp(maxSteps:=1000000)(disch:=(try simp only[awL]);omega)only[awS,Tryz.f56,q0,q1,q2,q3,al,sl,awH,↓awU,awY,↓reduceIte,↓reduceDIte,↓Qe,Qu,Qv,Qw,Qx,Qy,Qz,QA,QB,QC,QD,QE,QF,QG,QH,QI,QK]
   first
   | exact Hi.pre2 (d:=.tup [.agg [.int .i64 id,S name,.sl 0 true []],.bool false]) h.self (by rfl) (by simp[AJ,idsL]) (by rfl)
  ·rw[if_neg (by omega)] at hr
   cases hf:s.further with
   | false =>
    rw[hf] at q0
    simp(maxSteps:=1000000)(disch:=(try simp only[awL]);omega)only[awS,Tryz.f56,q0,q1,q2,q3,al,sl,awH,↓awU,awY,↓reduceIte,↓reduceDIte,↓Qe,Qu,Qv,Qw,Qx,Qy,Qz,QA,QB,QC,QD,QE,QF,QG,QH,QI,QK]
    refine Au.fr 1770887431076116955457 (α:=Nat) (fun k=>s.paths.length-k) (fun k=>[(71,.d (.int .i64 k))]) (fun k=>P0++[zB,tB id name (.lsl (P0.length+2) 2 0 ((CW s).length+k)),.row false (BG (DL s k))]) (fun k=>k≤s.paths.length) 0 (Afv _) ?_ ?_
    ·first
     | exact C0.pre [some P0.length,some (P0.length+1),none] h.self (by simp) (by simp) (by simp (disch:=omega) [sA,kA,SW,AW,AP,AZ,A1,AcB,AdT,DL,CW,hf,BG,cut,CB,Mv,GH]) (by simp (disch:=omega) [HW,BW,SW,AW,AP,AZ,A1,AQ,AcB,AdT,DL,CW,hf,BG,cut,CB,Mv,GH])
    ·intro k hkk
     simp only[awK,Ae2,Ae3,reduceIte]
     rcases Ae1 k s.paths.length with hlt | hge
     ·have gk:=strs_getD hlt
      have ck:=IY s k hkk
      have cdl:=A9 (DL s k)
      have csu:=NF s k hlt
      have tcl:(CW s).length≤1:=by unfold CW;split<;>simp
      have cce:BG (DL s (k+1))=BG (DL s k)++[.str (bs (s.paths.getD k [])),.sl s.rows.length false (Bx (Db s (s.paths.getD k []) s.rows.length))]:=by
       rw[csu,NN,Rn]
       simp[BG,Cl]
      generalize hpk:s.paths.getD k []=pk at *
      generalize htc:(CW s).length=tc at *
      simp(maxSteps:=1000000)(disch:=(try simp only[awL]);omega)only[awS,q0,q1,q2,q3,al,sl,gk,awH,↓awU,awY,↓reduceIte,↓reduceDIte,↓Qe,Qu,Qv,Qw,Qx,Qy,Qz,QA,QB,QC,QD,QE,QF,QG,QH,QI,QK]
      refine Au.fr 3630909529516398463705409 (α:=Nat) (fun i=>s.rows.length-i) (fun i=>[(82,.d (.int .i64 i))]) (fun i=>P0++[zB,tB id name (.lsl (P0.length+2) 2 0 (tc+k)),.row false (BG (DL s k)),.box [.d (S pk),.lsl (P0.length+4) 2 0 i],.row false (Bx (Db s pk i))]) (fun i=>i≤s.rows.length) 0 (Afv _) ?_ ?_
      ·first
       | exact C0.pre [some P0.length,some (P0.length+1),some (P0.length+2),some (P0.length+3),none] h.self (by simp) (by simp) (by simp (disch:=omega) [sA,kA,SW,AW,AP,AZ,A1,AcB,AdT,Db,Bx]) (by simp (disch:=omega) [HW,BW,SW,AW,AP,AZ,A1,AQ,AcB,AdT,Db,Bx])
      ·intro i hii
       simp only[awK,Ae2,Ae3,reduceIte]
       rcases Ae1 i s.rows.length with hit | hig
       ·have q3':=q3
        rw[JW,if_neg (by omega)] at q3'
        have rl:((AfX s.rows.length).map fun i=>AV.mp (4+i)).length=s.rows.length:=by simp
        have rg:((AfX s.rows.length).map fun i=>AV.mp (4+i)).getD i .undef=.mp (4+i):=by
         rw[AdV,AfR,AfU hit];rfl
        generalize ((AfX s.rows.length).map fun i=>AV.mp (4+i))=rb at *
        obtain ⟨m,m1,m2,m3⟩:=h.cm i hit
        have kr:=m2.ok
        have cl:=IZ s pk i hii
        have cel:=Bv (Db s pk i)
        have csc:=NJ s pk i hit
        obtain ⟨cf,hcf⟩:=CZ [P0.length+3,P0.length+4,P0.length+5,P0.length+6,P0.length+7] (by simp)
        have c0:=hcf 0 _ rfl
        have c1:=hcf 1 _ rfl
        have c2:=hcf 2 _ rfl
        have c3:=hcf 3 _ rfl
        have c4:=hcf 4 _ rfl
        cases hc:s.rows[i] pk with
        | none =>
         have v2:C4 (.agg [.bool false,.str ByteArray.empty]) m (S pk) true=.tup [.agg [.bool false,.str ByteArray.empty],.bool false]:=by rw[CP,m3,hc];rfl
         have cge:Bx (Db s pk (i+1))=Bx (Db s pk i)++[.bool true,.str ByteArray.empty]:=by
          rw[csc,Fq]
          unfold Dd
          rw[hc]
          rfl
         simp(maxSteps:=1000000)(disch:=(try simp only[awL]);omega)only[awS,q0,q1,q2,q3',m1,kr,rl,rg,v2,al,sl,cel,cl,awH,↓awU,awY,↓reduceIte,↓reduceDIte,↓Qe,Qu,Qv,Qw,Qx,Qy,Qz,QA,QB,QC,QD,QE,QF,QG,QH,QI,QK]
         first
         | exact ⟨by simp[cut],by simp[cut],i+1,hit,by simp only;omega,C0.pre [some P0.length,some (P0.length+1),some (P0.length+2),some (P0.length+3),some (P0.length+7)] h.self (by simp) (by simp) (by simp (disch:=omega) [sA,kA,SW,AW,AP,AZ,A1,AcB,AdT,cge,cut]) (by simp (disch:=omega) [HW,BW,SW,AW,AP,AZ,A1,AQ,AcB,AdT,cge,cut])⟩
         | exact ⟨by simp[cut],i+1,hit,by simp only;omega,C0.pre [some P0.length,some (P0.length+1),some (P0.length+2),some (P0.length+3),some (P0.length+7)] h.self (by simp) (by simp) (by simp (disch:=omega) [sA,kA,SW,AW,AP,AZ,A1,AcB,AdT,cge,cut]) (by simp (disch:=omega) [HW,BW,SW,AW,AP,AZ,A1,AQ,AcB,AdT,cge,cut])⟩
        | some c =>
         have v2:C4 (.agg [.bool false,.str ByteArray.empty]) m (S pk) true=.tup [.agg (Gd c),.bool true]:=by rw[CP,m3,hc];rfl
         have cge:Bx (Db s pk (i+1))=Bx (Db s pk i)++[.bool c.2,.str (bs c.1)]:=by
          rw[csc,Fq]
          unfold Dd
          rw[hc]
          rfl
         obtain ⟨c1',c2'⟩:=c
         cases c2'
         ·simp(maxSteps:=1000000)(disch:=(try simp only[awL]);omega)only[awS,q0,q1,q2,q3',m1,kr,rl,rg,v2,al,sl,cel,cl,awH,↓awU,awY,↓reduceIte,↓reduceDIte,↓Qe,Qu,Qv,Qw,Qx,Qy,Qz,QA,QB,QC,QD,QE,QF,QG,QH,QI,QK]
          first
          | exact ⟨by simp[cut],i+1,hit,by simp only;omega,C0.pre [some P0.length,some (P0.length+1),some (P0.length+2),some (P0.length+3),some (P0.length+7)] h.self (by simp) (by simp) (by simp (disch:=omega) [sA,kA,SW,AW,AP,AZ,A1,AcB,AdT,cge,cut]) (by simp (disch:=omega) [HW,BW,SW,AW,AP,AZ,A1,AQ,AcB,AdT,cge,cut])⟩
         ·simp(maxSteps:=1000000)(disch:=(try simp only[awL]);omega)only[awS,q0,q1,q2,q3',m1,kr,rl,rg,v2,al,sl,cel,cl,awH,↓awU,awY,↓reduceIte,↓reduceDIte,↓Qe,Qu,Qv,Qw,Qx,Qy,Qz,QA,QB,QC,QD,QE,QF,QG,QH,QI,QK]
          first
          | exact ⟨by simp[cut],i+1,hit,by simp only;omega,C0.pre [some P0.length,some (P0.length+1),some (P0.length+2),some (P0.length+3),some (P0.length+7)] h.self (by simp) (by simp) (by simp (disch:=omega) [sA,kA,SW,AW,AP,AZ,A1,AcB,AdT,cge,cut]) (by simp (disch:=omega) [HW,BW,SW,AW,AP,AZ,A1,AQ,AcB,AdT,cge,cut])⟩
       ·obtain rfl:i=s.rows.length:=by omega
        have cl:=IZ s pk s.rows.length (Afw _)
        have cel:=Bv (Db s pk s.rows.length)
        have ccu:cut (Bx (Db s pk s.rows.length)) 0 (s.rows.length*2)=Bx (Db s pk s.rows.length):=cut_all (by omega)
        simp(maxSteps:=1000000)(disch:=(try simp only[awL]);omega)only[awS,q0,q1,q2,q3,al,sl,cel,cl,cdl,ck,ccu,awH,↓awU,awY,↓reduceIte,↓reduceDIte,↓Qe,Qu,Qv,Qw,Qx,Qy,Qz,QA,QB,QC,QD,QE,QF,QG,QH,QI,QK]
        first
        | exact ⟨by simp[cut],k+1,hlt,by simp only;omega,C0.pre [some P0.length,some (P0.length+1),some (P0.length+6)] h.self (by simp) (by simp) (by simp (disch:=omega) [sA,kA,SW,AW,AP,AZ,A1,AcB,AdT,cce,cut,AfJ]) (by simp (disch:=omega) [HW,BW,SW,AW,AP,AZ,A1,AQ,AcB,AdT,cce,cut,AfJ])⟩
        | exact ⟨k+1,hlt,by simp only;omega,C0.pre [some P0.length,some (P0.length+1),some (P0.length+6)] h.self (by simp) (by simp) (by simp (disch:=omega) [sA,kA,SW,AW,AP,AZ,A1,AcB,AdT,cce,AfJ]) (by simp (disch:=omega) [HW,BW,SW,AW,AP,AZ,A1,AQ,AcB,AdT,cce,AfJ])⟩
     ·obtain rfl:k=s.paths.length:=by omega
      have ck:=IY s s.paths.length (Afw _)
      have cdl:=A9 (DL s s.paths.length)
      have tl:(Ca s id name).cols.length=(CW s).length+s.paths.length:=by simp[Ca]
      have cpt:DL s s.paths.length=(Ca s id name).cols:=Ri s
      have ctt:cut (BG (DL s s.paths.length)) 0 (((CW s).length+s.paths.length)*2)=BG (Ca s id name).cols:=by rw[←cpt];exact cut_all (by omega)
      simp(maxSteps:=1000000)(disch:=(try simp only[awL]);omega)only[awS,q0,q1,q2,q3,al,sl,ctt,awH,↓awU,awY,↓reduceIte,↓reduceDIte,↓Qe,Qu,Qv,Qw,Qx,Qy,Qz,QA,QB,QC,QD,QE,QF,QG,QH,QI,QK]
      refine Ab.frozenE (Ip hT (Ca s id name) false (Tn ⟨s1,s2,s3,s4,s5,s6⟩ hp id hn) i1 i2) (by rw[←tl];rfl) ?_
      rw[cpt] at *
      rw[←tl]
      simp(maxSteps:=1000000)(disch:=(try simp only[awL]);omega)only[awS,q0,q1,q2,q3,al,sl,ctt,frz,awH,↓awU,awY,↓reduceIte,↓reduceDIte,↓Qe,Qu,Qv,Qw,Qx,Qy,Qz,QA,QB,QC,QD,QE,QF,QG,QH,QI,QK]
      obtain ⟨cf,hcf⟩:=CZ [P0.length,P0.length+1,P0.length+2] (by simp)
      have c0:=hcf 0 _ rfl
      have c1:=hcf 1 _ rfl
      have c2:=hcf 2 _ rfl
      refine ⟨AE cf (by simp (disch:=omega) only[Bd,AN,AM,A8,A7,and_self]) (by simp only[AfQ,AfT,c0,c1,c2];rfl),?_⟩
      subst hr
      refine Hi.pre2 (d:=.tup [RG (Ca s id name) false,.bool (DZ (Ca s id name))]) h.self ?_ (by simp[AJ,idsL]) (by rfl)
      first
      | (simp[sealA,sealL,Bt,An,Az,AQ,BO,B6,Af4,AdZ,Af8,Af6,AgG,AgD,AgE];exact ⟨rfl,rfl,cut_all (by rw[A9];omega)⟩)
   | true =>
    rw[hf] at q0
    simp(maxSteps:=1000000)(disch:=(try simp only[awL]);omega)only[awS,Tryz.f56,q0,q1,q2,q3,al,sl,awH,↓awU,awY,↓reduceIte,↓reduceDIte,↓Qe,Qu,Qv,Qw,Qx,Qy,Qz,QA,QB,QC,QD,QE,QF,QG,QH,QI,QK]
    refine Au.fr 105553116267329 (α:=Nat) (fun k=>s.above.length-k) (fun k=>[(47,.d (.int .i64 k))]) (fun k=>P0++[zB,tB id name (.d (.sl 0 true [])),.box [.d (.str {data:=#[114,111,119]}),.lsl (P0.length+3) 2 0 k],.row false (Bx (HV s k))]) (fun k=>k≤s.above.length) 0 (Afv _) ?_ ?_
    ·first
     | exact C0.pre [some P0.length,some (P0.length+1),some (P0.length+2),none] h.self (by simp) (by simp) (by simp (disch:=omega) [sA,kA,SW,AW,AP,AZ,A1,AcB,AdT,HV,CB,Bx]) (by simp (disch:=omega) [HW,BW,SW,AW,AP,AZ,A1,AQ,AcB,AdT,HV,CB,Bx])
    ·intro k hkk
     simp only[awK,Ae2,Ae3,reduceIte]
     rcases Ae1 k s.above.length with hlt | hge
     ·have ck:=Ro s k hkk
      have cdl:=Bv (HV s k)
      have csu:=Va s k hlt
      obtain ⟨b1,b2⟩:=s1 _ (EF (d:=0) hlt)
      obtain ⟨m,hm⟩:∃ m:Nat,s.above.getD k 0=m:=⟨(s.above.getD k 0).toNat,by omega⟩
      rw[hm] at csu b1 b2
      simp(maxSteps:=1000000)(disch:=(try simp only[awL]);omega)only[awS,q0,q1,q2,q3,al,sl,hm,cdl,ck,awH,↓awU,awY,↓reduceIte,↓reduceDIte,↓Qe,Qu,Qv,Qw,Qx,Qy,Qz,QA,QB,QC,QD,QE,QF,QG,QH,QI,QK]
      refine Ab.of (LP hP m (by omega)) (by rfl) ?_
      simp(maxSteps:=1000000)(disch:=(try simp only[awL]);omega)only[awS,q0,q1,q2,q3,al,sl,hm,cdl,ck,awH,↓awU,awY,↓reduceIte,↓reduceDIte,↓Qe,Qu,Qv,Qw,Qx,Qy,Qz,QA,QB,QC,QD,QE,QF,QG,QH,QI,QK]
      obtain ⟨cf,hcf⟩:=CZ [P0.length+2,P0.length+3,P0.length+4,P0.length+5] (by simp)
      have c0:=hcf 0 _ rfl
      have c1:=hcf 1 _ rfl
      have c2:=hcf 2 _ rfl
      have c3:=hcf 3 _ rfl
      have cge:Bx (HV s (k+1))=Bx (HV s k)++[.bool false,.str (bs (Lib.decDigits m))]:=by rw[csu,Fq];rfl
      first
      | exact ⟨by simp[cut],AE cf (by simp (disch:=omega) only[Bd,AN,AM,A8,A7,and_self]) (by simp only[AfQ,AfT,c0,c1,c2,c3];rfl),k+1,hlt,by simp only;omega,C0.pre [some P0.length,some (P0.length+1),some (P0.length+2),some (P0.length+5)] h.self (by simp) (by simp) (by simp (disch:=omega) [sA,kA,SW,AW,AP,AZ,A1,AcB,AdT,cge,cut]) (by simp (disch:=omega) [HW,BW,SW,AW,AP,AZ,A1,AQ,AcB,AdT,cge,cut])⟩
     ·obtain rfl:k=s.above.length:=by omega
      have ck:=Ro s s.above.length (Afw _)
      have cdl:=Bv (HV s s.above.length)
      simp(maxSteps:=1000000)(disch:=(try simp only[awL]);omega)only[awS,q0,q1,q2,q3,al,sl,cdl,ck,awH,↓awU,awY,↓reduceIte,↓reduceDIte,↓Qe,Qu,Qv,Qw,Qx,Qy,Qz,QA,QB,QC,QD,QE,QF,QG,QH,QI,QK]
      refine ⟨by simp[cut],?_⟩
      have cda:cut (Bx (HV s s.above.length)) 0 (s.above.length*2)=Bx (CB s.above).cells:=by
       rw[←GH];exact cut_all (by omega)
      rw[cda]
      refine Au.fr 1770887431076116955457 (α:=Nat) (fun k=>s.paths.length-k) (fun k=>[(71,.d (.int .i64 k))]) (fun k=>P0++[zB,tB id name (.lsl (P0.length+2) 2 0 ((CW s).length+k)),.row false (BG (DL s k))]) (fun k=>k≤s.paths.length) 0 (Afv _) ?_ ?_
      ·first
       | exact C0.pre [some P0.length,some (P0.length+1),some (P0.length+5)] h.self (by simp) (by simp) (by simp (disch:=omega) [sA,kA,SW,AW,AP,AZ,A1,AcB,AdT,DL,CW,hf,BG,cut,CB,Mv,GH]) (by simp (disch:=omega) [HW,BW,SW,AW,AP,AZ,A1,AQ,AcB,AdT,DL,CW,hf,BG,cut,CB,Mv,GH])
      ·intro k hkk
       simp only[awK,Ae2,Ae3,reduceIte]
       rcases Ae1 k s.paths.length with hlt | hge
       ·have gk:=strs_getD hlt
        have ck:=IY s k hkk
        have cdl:=A9 (DL s k)
        have csu:=NF s k hlt
        have tcl:(CW s).length≤1:=by unfold CW;split<;>simp
        have cce:BG (DL s (k+1))=BG (DL s k)++[.str (bs (s.paths.getD k [])),.sl s.rows.length false (Bx (Db s (s.paths.getD k []) s.rows.length))]:=by
         rw[csu,NN,Rn]
         simp[BG,Cl]
        generalize hpk:s.paths.getD k []=pk at *
        generalize htc:(CW s).length=tc at *
        simp(maxSteps:=1000000)(disch:=(try simp only[awL]);omega)only[awS,q0,q1,q2,q3,al,sl,gk,awH,↓awU,awY,↓reduceIte,↓reduceDIte,↓Qe,Qu,Qv,Qw,Qx,Qy,Qz,QA,QB,QC,QD,QE,QF,QG,QH,QI,QK]
        refine Au.fr 3630909529516398463705409 (α:=Nat) (fun i=>s.rows.length-i) (fun i=>[(82,.d (.int .i64 i))]) (fun i=>P0++[zB,tB id name (.lsl (P0.length+2) 2 0 (tc+k)),.row false (BG (DL s k)),.box [.d (S pk),.lsl (P0.length+4) 2 0 i],.row false (Bx (Db s pk i))]) (fun i=>i≤s.rows.length) 0 (Afv _) ?_ ?_
        ·first
         | exact C0.pre [some P0.length,some (P0.length+1),some (P0.length+2),some (P0.length+3),none] h.self (by simp) (by simp) (by simp (disch:=omega) [sA,kA,SW,AW,AP,AZ,A1,AcB,AdT,Db,Bx]) (by simp (disch:=omega) [HW,BW,SW,AW,AP,AZ,A1,AQ,AcB,AdT,Db,Bx])
        ·intro i hii
         simp only[awK,Ae2,Ae3,reduceIte]
         rcases Ae1 i s.rows.length with hit | hig
         ·have q3':=q3
          rw[JW,if_neg (by omega)] at q3'
          have rl:((AfX s.rows.length).map fun i=>AV.mp (4+i)).length=s.rows.length:=by simp
          have rg:((AfX s.rows.length).map fun i=>AV.mp (4+i)).getD i .undef=.mp (4+i):=by
           rw[AdV,AfR,AfU hit];rfl
          generalize ((AfX s.rows.length).map fun i=>AV.mp (4+i))=rb at *
          obtain ⟨m,m1,m2,m3⟩:=h.cm i hit
          have kr:=m2.ok
          have cl:=IZ s pk i hii
          have cel:=Bv (Db s pk i)
          have csc:=NJ s pk i hit
          obtain ⟨cf,hcf⟩:=CZ [P0.length+3,P0.length+4,P0.length+5,P0.length+6,P0.length+7] (by simp)
          have c0:=hcf 0 _ rfl
          have c1:=hcf 1 _ rfl
          have c2:=hcf 2 _ rfl
          have c3:=hcf 3 _ rfl
          have c4:=hcf 4 _ rfl
          cases hc:s.rows[i] pk with
          | none =>
           have v2:C4 (.agg [.bool false,.str ByteArray.empty]) m (S pk) true=.tup [.agg [.bool false,.str ByteArray.empty],.bool false]:=by rw[CP,m3,hc];rfl
           have cge:Bx (Db s pk (i+1))=Bx (Db s pk i)++[.bool true,.str ByteArray.empty]:=by
            rw[csc,Fq]
            unfold Dd
            rw[hc]
            rfl
           simp(maxSteps:=1000000)(disch:=(try simp only[awL]);omega)only[awS,q0,q1,q2,q3',m1,kr,rl,rg,v2,al,sl,cel,cl,awH,↓awU,awY,↓reduceIte,↓reduceDIte,↓Qe,Qu,Qv,Qw,Qx,Qy,Qz,QA,QB,QC,QD,QE,QF,QG,QH,QI,QK]
           first
           | exact ⟨by simp[cut],by simp[cut],i+1,hit,by simp only;omega,C0.pre [some P0.length,some (P0.length+1),some (P0.length+2),some (P0.length+3),some (P0.length+7)] h.self (by simp) (by simp) (by simp (disch:=omega) [sA,kA,SW,AW,AP,AZ,A1,AcB,AdT,cge,cut]) (by simp (disch:=omega) [HW,BW,SW,AW,AP,AZ,A1,AQ,AcB,AdT,cge,cut])⟩
           | exact ⟨by simp[cut],i+1,hit,by simp only;omega,C0.pre [some P0.length,some (P0.length+1),some (P0.length+2),some (P0.length+3),some (P0.length+7)] h.self (by simp) (by simp) (by simp (disch:=omega) [sA,kA,SW,AW,AP,AZ,A1,AcB,AdT,cge,cut]) (by simp (disch:=omega) [HW,BW,SW,AW,AP,AZ,A1,AQ,AcB,AdT,cge,cut])⟩
          | some c =>
           have v2:C4 (.agg [.bool false,.str ByteArray.empty]) m (S pk) true=.tup [.agg (Gd c),.bool true]:=by rw[CP,m3,hc];rfl
           have cge:Bx (Db s pk (i+1))=Bx (Db s pk i)++[.bool c.2,.str (bs c.1)]:=by
            rw[csc,Fq]
            unfold Dd
            rw[hc]
            rfl
           obtain ⟨c1',c2'⟩:=c
           cases c2'
           ·simp(maxSteps:=1000000)(disch:=(try simp only[awL]);omega)only[awS,q0,q1,q2,q3',m1,kr,rl,rg,v2,al,sl,cel,cl,awH,↓awU,awY,↓reduceIte,↓reduceDIte,↓Qe,Qu,Qv,Qw,Qx,Qy,Qz,QA,QB,QC,QD,QE,QF,QG,QH,QI,QK]
            first
            | exact ⟨by simp[cut],i+1,hit,by simp only;omega,C0.pre [some P0.length,some (P0.length+1),some (P0.length+2),some (P0.length+3),some (P0.length+7)] h.self (by simp) (by simp) (by simp (disch:=omega) [sA,kA,SW,AW,AP,AZ,A1,AcB,AdT,cge,cut]) (by simp (disch:=omega) [HW,BW,SW,AW,AP,AZ,A1,AQ,AcB,AdT,cge,cut])⟩
           ·simp(maxSteps:=1000000)(disch:=(try simp only[awL]);omega)only[awS,q0,q1,q2,q3',m1,kr,rl,rg,v2,al,sl,cel,cl,awH,↓awU,awY,↓reduceIte,↓reduceDIte,↓Qe,Qu,Qv,Qw,Qx,Qy,Qz,QA,QB,QC,QD,QE,QF,QG,QH,QI,QK]
            first
            | exact ⟨by simp[cut],i+1,hit,by simp only;omega,C0.pre [some P0.length,some (P0.length+1),some (P0.length+2),some (P0.length+3),some (P0.length+7)] h.self (by simp) (by simp) (by simp (disch:=omega) [sA,kA,SW,AW,AP,AZ,A1,AcB,AdT,cge,cut]) (by simp (disch:=omega) [HW,BW,SW,AW,AP,AZ,A1,AQ,AcB,AdT,cge,cut])⟩
         ·obtain rfl:i=s.rows.length:=by omega
          have cl:=IZ s pk s.rows.length (Afw _)
          have cel:=Bv (Db s pk s.rows.length)
          have ccu:cut (Bx (Db s pk s.rows.length)) 0 (s.rows.length*2)=Bx (Db s pk s.rows.length):=cut_all (by omega)
          simp(maxSteps:=1000000)(disch:=(try simp only[awL]);omega)only[awS,q0,q1,q2,q3,al,sl,cel,cl,cdl,ck,ccu,awH,↓awU,awY,↓reduceIte,↓reduceDIte,↓Qe,Qu,Qv,Qw,Qx,Qy,Qz,QA,QB,QC,QD,QE,QF,QG,QH,QI,QK]
          first
          | exact ⟨by simp[cut],k+1,hlt,by simp only;omega,C0.pre [some P0.length,some (P0.length+1),some (P0.length+6)] h.self (by simp) (by simp) (by simp (disch:=omega) [sA,kA,SW,AW,AP,AZ,A1,AcB,AdT,cce,cut,AfJ]) (by simp (disch:=omega) [HW,BW,SW,AW,AP,AZ,A1,AQ,AcB,AdT,cce,cut,AfJ])⟩
          | exact ⟨k+1,hlt,by simp only;omega,C0.pre [some P0.length,some (P0.length+1),some (P0.length+6)] h.self (by simp) (by simp) (by simp (disch:=omega) [sA,kA,SW,AW,AP,AZ,A1,AcB,AdT,cce,AfJ]) (by simp (disch:=omega) [HW,BW,SW,AW,AP,AZ,A1,AQ,AcB,AdT,cce,AfJ])⟩
       ·obtain rfl:k=s.paths.length:=by omega
        have ck:=IY s s.paths.length (Afw _)
        have cdl:=A9 (DL s s.paths.length)
        have tl:(Ca s id name).cols.length=(CW s).length+s.paths.length:=by simp[Ca]
        have cpt:DL s s.paths.length=(Ca s id name).cols:=Ri s
        have ctt:cut (BG (DL s s.paths.length)) 0 (((CW s).length+s.paths.length)*2)=BG (Ca s id name).cols:=by rw[←cpt];exact cut_all (by omega)
        simp(maxSteps:=1000000)(disch:=(try simp only[awL]);omega)only[awS,q0,q1,q2,q3,al,sl,ctt,awH,↓awU,awY,↓reduceIte,↓reduceDIte,↓Qe,Qu,Qv,Qw,Qx,Qy,Qz,QA,QB,QC,QD,QE,QF,QG,QH,QI,QK]
        refine Ab.frozenE (Ip hT (Ca s id name) false (Tn ⟨s1,s2,s3,s4,s5,s6⟩ hp id hn) i1 i2) (by rw[←tl];rfl) ?_
        rw[cpt] at *
        rw[←tl]
        simp(maxSteps:=1000000)(disch:=(try simp only[awL]);omega)only[awS,q0,q1,q2,q3,al,sl,ctt,frz,awH,↓awU,awY,↓reduceIte,↓reduceDIte,↓Qe,Qu,Qv,Qw,Qx,Qy,Qz,QA,QB,QC,QD,QE,QF,QG,QH,QI,QK]
        obtain ⟨cf,hcf⟩:=CZ [P0.length,P0.length+1,P0.length+2] (by simp)
        have c0:=hcf 0 _ rfl
        have c1:=hcf 1 _ rfl
        have c2:=hcf 2 _ rfl
        refine ⟨AE cf (by simp (disch:=omega) only[Bd,AN,AM,A8,A7,and_self]) (by simp only[AfQ,AfT,c0,c1,c2];rfl),?_⟩
        subst hr
        refine Hi.pre2 (d:=.tup [RG (Ca s id name) false,.bool (DZ (Ca s id name))]) h.self ?_ (by simp[AJ,idsL]) (by rfl)
        first
        | (simp[sealA,sealL,Bt,An,Az,AQ,BO,B6,Af4,AdZ,Af8,Af6,AgG,AgD,AgE];exact ⟨rfl,rfl,cut_all (by rw[A9];omega)⟩)
theorem PG {f:Nat→Nat} {r r':List Nat} (h:CT r=false) (hc:∀ b∈r,f b∈r') (b:Nat) (hb:rd r' (f b)=false):rd r b=false:=by
 simp only[rd,Agt,Agx,decide_eq_false_iff_not] at hb ⊢
 exact ⟨fun hm=>hb.1 (hc b hm),h⟩
def Kv (f:Nat→Nat):TR→TR→Prop
 | [],[]=>True
 | t::r,u::v=>(CT t.1=false∧(∀ b∈t.1,f b∈u.1)∧∀ b∈t.2,f b∈u.2)∧Kv f r v
 | _,_=>False
theorem Kv.get {f:Nat→Nat}:∀ {tr ur:TR},Kv f tr ur→∀ (i:Nat) t,tr[i]?=some t→∃ u,ur[i]?=some u∧CT t.1=false∧(∀ b∈t.1,f b∈u.1)∧∀ b∈t.2,f b∈u.2
 | [],[],_,i,t,h=>by simp at h
 | x::r,y::v,hc,i,t,h=>by
   cases i with
   | zero=>simp at h;subst h;exact ⟨y,rfl,hc.1⟩
   | succ i=>simp at h;simpa using Kv.get hc.2 i t h
 | [],_::_,hc,_,_,_=>by simp[Kv] at hc
 | _::_,[],hc,_,_,_=>by simp[Kv] at hc
theorem OH {ops:Array Oper} {x y:Oper} {f:Nat→Nat} {tx ty ux uy:List Nat × List Nat} (h1:CT tx.1=false) (h3:CT ty.1=false)
  (c1:∀ b∈tx.1,f b∈ux.1) (c2:∀ b∈tx.2,f b∈ux.2) (c3:∀ b∈ty.1,f b∈uy.1) (c4:∀ b∈ty.2,f b∈uy.2)
  (h:D4 ops x y ux uy=true):D4 ops x y tx ty=true:=by
 simp only[D4,Agk,Agb,Af9] at h ⊢
 obtain ⟨⟨⟨⟨k1,k2⟩,k3⟩,k4⟩,k5⟩:=h
 refine ⟨⟨⟨⟨k1,k2⟩,k3⟩,fun b hb=>⟨PG h3 c3 b (k4 (f b) (c2 b hb)).1,?_⟩⟩,fun b hb=>PG h1 c1 b (k5 (f b) (c4 b hb))⟩
 have:=(k4 (f b) (c2 b hb)).2
 simp only[Agx,decide_eq_false_iff_not] at this ⊢
 exact fun hm=>this (c4 b hm)
theorem Dr {ops:Array Oper} {tr:TR} (f:Nat→Nat) (ur:TR) (hc:Kv f tr ur) (h:Ds ops ur=true):Ds ops tr=true:=by
 have gz:∀ {i:Nat} {o:Oper} {t:List Nat × List Nat},(ops.toList.zip tr).zipIdx[i]?=some ((o,t),i)→∃ u,(ops.toList.zip ur).zipIdx[i]?=some ((o,u),i)∧CT t.1=false∧(∀ b∈t.1,f b∈u.1)∧∀ b∈t.2,f b∈u.2:=by
  intro i o t hi
  rw[Af0] at hi
  cases hz:(ops.toList.zip tr)[i]? with
  | none=>simp[hz] at hi
  | some p =>
   simp[hz] at hi
   subst hi
   rw[Agh] at hz
   obtain ⟨z1,z2⟩:=hz
   obtain ⟨u,u1,u2⟩:=hc.get i _ z2
   refine ⟨u,?_,u2⟩
   have e:(ops.toList.zip ur)[i]?=some (o,u):=Agh.2 ⟨z1,u1⟩
   rw[Af0,e]
   simp
 have idx:∀ {l:List (Oper × (List Nat × List Nat))} {q:(Oper × (List Nat × List Nat)) × Nat},q∈l.zipIdx→l.zipIdx[q.2]?=some (q.1,q.2):=by
  intro l q hq
  obtain ⟨x,j⟩:=q
  rw[List.mem_zipIdx_iff_getElem?] at hq
  rw[Af0,hq];simp
 simp only[Ds,Agb] at h ⊢
 rintro ⟨⟨o,t⟩,j⟩ hm
 have hj:=idx hm
 obtain ⟨u,u1,u2,u3,u4⟩:=gz hj
 have hh:=h ((o,u),j) (Agy u1)
 simp only[Agk,Agb,decide_eq_true_eq,Af5] at hh ⊢
 refine ⟨hh.1,?_⟩
 rintro ⟨⟨o',t'⟩,i⟩ hi
 have hi2:=List.mem_take_iff_getElem.1 hi
 obtain ⟨k,hk,ek⟩:=hi2
 have hk2:(ops.toList.zip tr).zipIdx[k]?=some ((o',t'),i):=by
  rw[AdU (by omega),ek]
 have hik:i=k:=by
  rw[Af0] at hk2
  cases hz:(ops.toList.zip tr)[k]? with
  | none=>simp[hz] at hk2
  | some p=>simp[hz] at hk2;exact hk2.2.symm
 subst hik
 obtain ⟨v,v1,v2,v3,v4⟩:=gz hk2
 rcases hh.2 ((o',v),i) (by
  refine Agy (i:=i) ?_
  rw[AgC,if_pos (by omega)]
  exact v1) with h1 | h1
 ·exact .inl h1
 ·exact .inr (OH v2 u2 v3 v4 u3 u4 h1)
section
variable {P:Program} {M:BZ} {ops:Array Oper} {rest:List Oper} {s:List AV} {H Hn:List Aa} {tr:TR} {dst:Option Nat} {K:RK} {v:AV}
theorem C2 (base k:Nat):outN [] base k=base+k:=by simp[outN]
theorem Mi:∀ (a b:List (Nat × Aa)) (H:List Aa),applyW H (a++b)=applyW (applyW H a) b
 | [],_,_=>rfl
 | (i,x)::r,b,H=>by simp only[Agj,applyW];exact Mi r b _
theorem Th:∀ (a b:List (Nat × Aa)) (n:Nat),(∀ p∈a,p.1<n)→wOK n (a++b)=wOK n b
 | [],_,_,_=>rfl
 | (i,x)::r,b,n,h=>by
   simp only[Agj,wOK]
   rw[if_pos (h (i,x) (by simp))]
   exact Th r b n fun p hp=>h p (Agc _ hp)
theorem NZ:∀ (a:List (Nat × Aa)) (H:List Aa),(∀ p∈a,p.1<H.length)→(applyW H a).length=H.length
 | [],_,_=>rfl
 | (i,x)::r,H,h=>by
   simp only[applyW]
   rw[if_pos (h (i,x) (by simp)),NZ r _ fun p hp=>by rw[Af4];exact h p (Agc _ hp),Af4]
theorem TJ (f:Nat→Nat) (base:Nat):∀ (l:List Aa) (k:Nat),wOK (base+k) (outW [] base k l)=true
 | [],_=>rfl
 | b::r,k=>by
   simp only[outW,wOK,C2]
   rw[if_neg (by omega)]
   simp only[BEq.rfl,AdW]
   exact TJ f base r (k+1)
theorem Lw (base:Nat):∀ (l:List Aa) (k:Nat) (H:List Aa),H.length=base+k→applyW H (outW [] base k l)=H++l.map (renB (outN [] base))
 | [],_,H,_=>by simp[outW,applyW]
 | b::r,k,H,h=>by
   simp only[outW,applyW,C2]
   rw[if_neg (by omega),Lw base r (k+1) _ (by simp;omega)]
   simp
theorem Ab.newgo {f:FuncId} {ars ars':List AV} {ids:List Nat} {H1:List Aa} (h:Ctr P G f ars' [] v Hn) (ea:ars=ars') (hn:Hn≠[]) (hw:∀ p∈frz H ids,p.1<H.length) (e1:applyW H (frz H ids)=H1)
  (hk:∀ t:List Nat × List Nat,DG P G M ops rest (putA s dst (renA (outN [] H.length) v)) (H1++Hn.map (renB (outN [] H.length))) (tr++[t]) K):Ab P G H f ars [] ids [] (OpC P G M ops rest s H tr dst K):=by
 subst ea
 refine .by h rfl rfl (by simp) ?_
 have hne:Hn.isEmpty=false:=by cases Hn with | nil=>exact absurd rfl hn | cons=>rfl
 have e2:applyW H (frz H ids++outW [] H.length 0 Hn)=H1++Hn.map (renB (outN [] H.length)):=by
  rw[Mi,e1,Lw H.length Hn 0 H1 (by rw[←e1,NZ _ _ hw];rfl)]
 unfold callEff
 rw[hne,Bool.and_false,AdY,if_neg (by simp),OpC_mk,e2,Th _ _ _ hw]
 exact ⟨TJ id H.length Hn 0,hk _⟩
end
theorem Ff (f:Nat→Nat) (b off:Nat):renA f (.ptr b off)=.ptr (f b) off:=by simp[renA]
theorem Ny {β γ:Type} (g:β→γ) (k:D):∀ m:List (D × β),BE k (m.map fun p=>(p.1,g p.2))=(BE k m).map fun p=>(p.1,g p.2)
 | []=>rfl
 | x::r=>by
   rw[AfQ,BE,BE]
   by_cases h:Ce k x.1=true
   ·rw[if_pos h,if_pos h];rfl
   ·rw[if_neg h,if_neg h,Ny g k r,AgN,AgN];rfl
theorem VE {β γ:Type} (g:β→γ) (k:D) (m:List (D × β)):Fa (m.map fun p=>(p.1,g p.2)) k=(Fa m k).map g:=by
 unfold Fa
 rw[Ny]
 cases BE k m<;>rfl
theorem Bz.shift {L:Rl→Nat} {s:Ly} {H:List Aa} (h:Bz L s H) (E:List Aa):Bz (fun a=>outN [] E.length (L a)) s (E++H.map (renB (outN [] E.length))):=by
 have get:∀ {i:Nat} {b:Aa},H[i]?=some b→(E++H.map (renB (outN [] E.length)))[outN [] E.length i]?=some (renB (outN [] E.length) b):=by
  intro i b e
  rw[C2,Af1 (by omega),Af6,AfR,e]
  rfl
 refine ⟨fun a b ha hb e=>h.inj a b ha hb (by simp only[C2] at e;omega),fun a ha=>?_,?_,?_,?_,?_,?_,?_,?_,?_,?_,?_⟩
 ·have:=h.lt a ha
  simp only[C2,AdZ,AgK]
  omega
 ·rw[get h.box]
  simp[renB,renL,renA]
 ·obtain ⟨m,m1,m2,m3⟩:=h.seen
  exact ⟨m,by rw[get m1];simp[renB],m2,m3⟩
 ·rw[get h.above];simp[renB]
 ·rw[get h.paths];simp[renB]
 ·rw[get h.rows]
  unfold IC
  split
  ·simp[renB]
  ·simp only[renB,DR,List.map_map]
   congr 3
 ·rw[get h.lists];simp[renB]
 ·obtain ⟨m,m1,m2,m3⟩:=h.items
  refine ⟨m.map fun p=>(p.1,renA (outN [] E.length) p.2),by rw[get m1];simp[renB],fun e he=>?_,fun p=>?_⟩
  ·obtain ⟨x,hx,rfl⟩:=AfY.1 he
   exact m2 x hx
  ·rw[VE,m3]
   split
   ·rfl
   ·simp[renA]
 ·obtain ⟨m,m1,m2,m3⟩:=h.sev
  exact ⟨m,by rw[get m1];simp[renB],m2,m3⟩
 ·intro i hi
  obtain ⟨m,m1,m2,m3⟩:=h.row i hi
  exact ⟨m,by rw[get m1];simp[renB],m2,m3⟩
 ·intro p hp
  rw[get (h.item p hp)];simp[renB]
theorem NoX.ren {H:List Aa} (h:NoX H) (f:Nat→Nat):NoX (H.map (renB f)):=fun b hb J t e=>by
 obtain ⟨x,hx,rfl⟩:=AfY.1 hb
 cases x<;>simp[renB] at e
end Go.Proofs.YtmidaophnbdcdaaGreatDoor
namespace Go.Proofs.YtmidaophnbdcdaaGreatDoor
open Go Go.Proofs Go.Abs
variable {G:Ad}
def Hw (L:Rl→Nat) (n:Nat):List Nat:=[L (.n 0),L (.n 2),L (.n 3),L (.n 4)]++(AfX n).map fun i=>L (.n (8+i))
def XP (s:Ly) (e:Nat→Nat→Value):Aa:=.box [.d (.bool s.further),.lsl 1 1 0 s.above.length,.lsl 2 1 0 s.paths.length,.lsl 3 1 0 s.rows.length,.d (.val (e 0 4)),.d (.val (e 0 5)),.d (.val (e 0 6))]
def VP (L:Rl→Nat) (n:Nat) (H:List Aa):List Aa:=(AfX n).map fun i=>(H[L (.n (8+i))]?).getD .dead
def RY (L:Rl→Nat) (s:Ly) (H:List Aa) (e:Nat→Nat→Value):List Aa:=[XP s e,.row false (Ax .i64 s.above),.row false (strs s.paths),JW s.rows.length]++VP L s.rows.length H
theorem Ps (L:Rl→Nat) (n:Nat):(Hw L n).length=4+n:=by simp[Hw];omega
theorem VO (L:Rl→Nat) (n:Nat) (H:List Aa):(VP L n H).length=n:=by simp[VP]
theorem Pr (L:Rl→Nat) (s:Ly) (H:List Aa) (e:Nat→Nat→Value):(RY L s H e).length=4+s.rows.length:=by simp only[RY,AdZ,VO,AdX,Ad1]
theorem Tm (L:Rl→Nat) {n i:Nat} (h:i<n):(Hw L n)[4+i]?=some (L (.n (8+i))):=by
 unfold Hw
 rw[Af1 (by simp only[AdX,Ad1];omega)]
 simp only[AdX,Ad1]
 rw[show 4+i-(0+1+1+1+1)=i by omega,AfR,AfU h,AgL]
theorem XO {L:Rl→Nat} {n i:Nat} {H:List Aa} {b:Aa} (h:i<n) (e:H[L (.n (8+i))]?=some b):(VP L n H)[i]?=some b:=by
 unfold VP
 rw[AfR,AfU h,AgL,e]
 rfl
theorem Tl {L:Rl→Nat} {s:Ly} {H:List Aa} {e:Nat→Nat→Value} {i:Nat} {b:Aa} (h:i<s.rows.length) (q:H[L (.n (8+i))]?=some b):(RY L s H e)[4+i]?=some b:=by
 unfold RY
 rw[Af1 (by simp only[AdX,Ad1];omega)]
 simp only[AdX,Ad1]
 rw[show 4+i-(0+1+1+1+1)=i by omega]
 exact XO h q
theorem Pq {L:Rl→Nat} {s:Ly} {H:List Aa} (h:Bz L s H) {e:Nat→Nat→Value} {b:Aa} (hb:b∈RY L s H e) :
  b=XP s e∨b=.row false (Ax .i64 s.above)∨b=.row false (strs s.paths)∨b=JW s.rows.length∨∃ m:List (D × D),b=.map m:=by
 rcases Agd.1 hb with hb | hb
 ·simp only[Ad0,Af3,or_false] at hb
  rcases hb with hb | hb | hb | hb
  ·exact .inl hb
  ·exact .inr (.inl hb)
  ·exact .inr (.inr (.inl hb))
  ·exact .inr (.inr (.inr (.inl hb)))
 ·obtain ⟨i,hi,rfl⟩:=AfY.1 hb
  obtain ⟨m,m1,_⟩:=h.row i (AfV.1 hi)
  exact .inr (.inr (.inr (.inr ⟨m,by rw[m1];rfl⟩)))
theorem Ts (fs:List (Option Nat)) (N:Nat):∀ (l:List Nat),(∀ i∈l,4+i<N)→SW (idf N++fs) (l.map fun i=>.mp (4+i)) (l.map fun i=>.mp (4+i))
 | [],_=>trivial
 | i::r,h=>by
   refine ⟨?_,Ts fs N r fun j hj=>h j (Agc _ hj)⟩
   simp only[AW,AP (h i (by simp))]
theorem tblH {L:Rl→Nat} {s:Ly} {H:List Aa} (h:Bz L s H) (e:Nat→Nat→Value):TblH s (RY L s H e):=by
 have hl:=Pr L s H e
 refine ⟨hl,⟨_,_,_,rfl⟩,rfl,rfl,rfl,fun i hi=>?_,fun b hb fs=>?_,fun b hb J t q=>?_⟩
 ·obtain ⟨m,m1,m2,m3⟩:=h.row i hi
  exact ⟨m,Tl hi m1,m2,m3⟩
 ·rw[hl]
  rcases Pq h hb with rfl | rfl | rfl | rfl | ⟨m,rfl⟩
  ·have k1:=AP (n:=4+s.rows.length) (k:=1) (fs:=fs) (by omega)
   have k2:=AP (n:=4+s.rows.length) (k:=2) (fs:=fs) (by omega)
   have k3:=AP (n:=4+s.rows.length) (k:=3) (fs:=fs) (by omega)
   simp[XP,BW,SW,AW,k1,k2,k3]
  ·simp[BW]
  ·simp[BW]
  ·unfold JW
   split
   ·simp[BW]
   ·simp only[BW]
    exact Ts fs _ _ fun i hi=>by have:=AfV.1 hi;omega
  ·simp[BW]
 ·rcases Pq h hb with rfl | rfl | rfl | rfl | ⟨m,rfl⟩
  ·simp[XP] at q
  ·simp at q
  ·simp at q
  ·unfold JW at q
   split at q<;>simp at q
  ·simp at q
theorem RZ {L:Rl→Nat} {s:Ly} {H:List Aa} (h:Bz L s H):(Hw L s.rows.length).Nodup:=by
 have ok:∀ k,k<8+s.rows.length→Bj s (.n k):=fun k hk=>hk
 have ne:∀ {i j:Nat},i<8+s.rows.length→j<8+s.rows.length→i≠j→¬L (.n i)=L (.n j):=fun hi hj hij=>h.ne (ok _ hi) (ok _ hj) (by simpa using hij)
 unfold Hw
 refine List.nodup_append.2 ⟨?_,?_,?_⟩
 ·simp only[AfZ,Ad0,Af3,or_false,not_or,Agv,and_true,not_false_eq_true]
  exact ⟨⟨ne (by omega) (by omega) (by decide),ne (by omega) (by omega) (by decide),ne (by omega) (by omega) (by decide)⟩,⟨ne (by omega) (by omega) (by decide),ne (by omega) (by omega) (by decide)⟩,ne (by omega) (by omega) (by decide)⟩
 ·refine List.pairwise_map.2 (List.Pairwise.imp_of_mem (fun {a b} ha hb hab=>?_) List.nodup_range)
  have:=AfV.1 ha
  have:=AfV.1 hb
  exact ne (by omega) (by omega) (by omega)
 ·intro a ha b hb
  obtain ⟨i,hi,rfl⟩:=AfY.1 hb
  have hi:=AfV.1 hi
  simp only[Ad0,Af3,or_false] at ha
  rcases ha with rfl | rfl | rfl | rfl
  ·exact ne (by omega) (by omega) (by omega)
  ·exact ne (by omega) (by omega) (by omega)
  ·exact ne (by omega) (by omega) (by omega)
  ·exact ne (by omega) (by omega) (by omega)
theorem El (hT:HT G) (hP:HP G) {L:Rl→Nat} {s:Ly} {H:List Aa} (h:Bz L s H) (hs:LyT s) (id:Int) (i1:-9223372036854775808≤id) (i2:id≤9223372036854775807) (name:List UInt8) (hn:name.length≤1000000000) {k:Eff→Prop}
  (hk:k ⟨.d (.tup [RG (Eb s id name).1 false,.bool (Eb s id name).2]),[],Hw L s.rows.length⟩):Ap TP G H 56 [.ptr (L (.n 0)) 0,.d (.int .i64 id),.d (S name)] k:=by
 refine Ap.view (ars:=[.ptr 0 0,.d (.int .i64 id),.d (S name)]) (Hw L s.rows.length) (RY L s H) (RZ h) (fun e=>by rw[Pr,Ps]) (fun e j b hj=>?_) ?_ (fun e=>Ut hT hP s hs id i1 i2 name hn (tblH h e)) hk
 ·have hj2:j<4+s.rows.length:=by have:=(AfO.1 hj).1;rwa[Ps] at this
  rcases Ae1 j 4 with hlt | hge
  ·rcases (by omega:j=0∨j=1∨j=2∨j=3) with rfl | rfl | rfl | rfl
   ·have:L (.n 0)=b:=by simpa[Hw] using hj
    subst this
    refine ⟨_,_,h.box,rfl,?_⟩
    refine ⟨rfl,fun i x y hx hy=>?_⟩
    have hi:i<7:=by have:=(AfO.1 hx).1;simpa using this
    rcases (by omega:i=0∨i=1∨i=2∨i=3∨i=4∨i=5∨i=6) with rfl | rfl | rfl | rfl | rfl | rfl | rfl<;>simp at hx hy<;>subst hx<;>subst hy
    ·exact .inr (.inl ⟨_,rfl,rfl⟩)
    ·exact .inr (.inr (.inl ⟨_,_,_,_,_,rfl,rfl,rfl⟩))
    ·exact .inr (.inr (.inl ⟨_,_,_,_,_,rfl,rfl,rfl⟩))
    ·exact .inr (.inr (.inl ⟨_,_,_,_,_,rfl,rfl,rfl⟩))
    ·exact .inl rfl
    ·exact .inl rfl
    ·exact .inl rfl
   ·have:L (.n 2)=b:=by simpa[Hw] using hj
    subst this
    exact ⟨_,_,h.above,rfl,rfl,rfl⟩
   ·have:L (.n 3)=b:=by simpa[Hw] using hj
    subst this
    exact ⟨_,_,h.paths,rfl,rfl,rfl⟩
   ·have:L (.n 4)=b:=by simpa[Hw] using hj
    subst this
    refine ⟨_,_,h.rows,rfl,?_⟩
    unfold IC JW
    split
    ·exact ⟨rfl,rfl⟩
    ·refine ⟨by simp,fun i x y hx hy=>?_⟩
     have hi:i<s.rows.length:=by have:=(AfO.1 hx).1;simpa using this
     rw[AfR,AfU hi] at hx hy
     simp at hx hy
     subst hx
     subst hy
     exact .inr (.inr (.inr ⟨_,_,rfl,rfl,Tm L hi⟩))
  ·obtain ⟨i,rfl⟩:∃ i,j=4+i:=⟨j-4,by omega⟩
   have hi:i<s.rows.length:=by omega
   rw[Tm L hi] at hj
   cases hj
   obtain ⟨m,m1,_⟩:=h.row i hi
   exact ⟨_,_,m1,Tl hi m1,rfl⟩
 ·exact ⟨.inr ⟨_,_,_,rfl,rfl,rfl⟩,.inl ⟨_,rfl,rfl,.inl rfl⟩,.inl ⟨_,rfl,rfl,.inl rfl⟩,trivial⟩
theorem VR (L:Rl→Nat) (n:Nat):CT (Hw L n)=false:=rfl
theorem VQ {L:Rl→Nat} {s:Ly} {H:List Aa} (h:Bz L s H) {b:Nat} (hb:b∈Hw L s.rows.length):b<H.length∧∃ k,Bj s (.n k)∧b=L (.n k):=by
 have ok:∀ k,k<8+s.rows.length→Bj s (.n k):=fun k hk=>hk
 rcases Agd.1 hb with hb | hb
 ·simp only[Ad0,Af3,or_false] at hb
  rcases hb with rfl | rfl | rfl | rfl
  ·exact ⟨h.lt _ (ok 0 (by omega)),0,ok 0 (by omega),rfl⟩
  ·exact ⟨h.lt _ (ok 2 (by omega)),2,ok 2 (by omega),rfl⟩
  ·exact ⟨h.lt _ (ok 3 (by omega)),3,ok 3 (by omega),rfl⟩
  ·exact ⟨h.lt _ (ok 4 (by omega)),4,ok 4 (by omega),rfl⟩
 ·obtain ⟨i,hi,rfl⟩:=AfY.1 hb
  have hi:=AfV.1 hi
  exact ⟨h.lt _ (ok _ (by omega)),8+i,ok _ (by omega),rfl⟩
abbrev JK (t:Tab):List D:=[.int .i64 t.id,S t.name,Kw t.cols false]
def B7 (l:List Tab):List D:=l.flatMap JK
theorem Dl:∀ l:List Tab,(B7 l).length=3*l.length
 | []=>rfl
 | o::l=>by
   have ih:=Dl l
   simp only[B7,List.flatMap_cons,AdZ,AdX,Ad1] at ih ⊢
   omega
def Cp:Nat→Ly→Int→List UInt8→List Tab→List Tab × Bool
 | 0,_,_,_,ts=>(ts,true)
 | n+1,s,id,name,ts =>
  if (Eb s (id+ts.length) name).2=true∧ts.length+1≤1024 then
   s.lists.foldl (fun a p=>if a.2=true then Cp n (Ai true (s.it p)) id (name++[46]++p) a.1 else a) (ts++[(Eb s (id+ts.length) name).1],true)
  else (ts++[(Eb s (id+ts.length) name).1],false)
def C6 (n:Nat) (s:Ly) (id:Int) (name:List UInt8) (ts:List Tab) (k:Nat):List Tab × Bool :=
 (s.lists.take k).foldl (fun a p=>if a.2=true then Cp n (Ai true (s.it p)) id (name++[46]++p) a.1 else a) (ts,true)
theorem JI (n:Nat) (s:Ly) (id:Int) (name:List UInt8) (ts:List Tab) {k:Nat} (h:k<s.lists.length):C6 n s id name ts (k+1) =
  if (C6 n s id name ts k).2=true then Cp n (Ai true (s.it (s.lists.getD k []))) id (name++[46]++s.lists.getD k []) (C6 n s id name ts k).1 else C6 n s id name ts k:=by
 unfold C6
 rw[Afs,AdU h,AdV,AdU h]
 simp only[AfW,AgH,AgJ,List.foldl_nil,Af2]
theorem Xt (n:Nat) (s:Ly) (id:Int) (name:List UInt8) (ts:List Tab):C6 n s id name ts s.lists.length=s.lists.foldl (fun a p=>if a.2=true then Cp n (Ai true (s.it p)) id (name++[46]++p) a.1 else a) (ts,true):=by
 unfold C6;rw[AfP]
theorem Uc (n:Nat) (s:Ly) (id:Int) (name:List UInt8) (ts:List Tab):Cp (n+1) s id name ts =
  if (Eb s (id+ts.length) name).2=true∧ts.length+1≤1024 then C6 n s id name (ts++[(Eb s (id+ts.length) name).1]) s.lists.length else (ts++[(Eb s (id+ts.length) name).1],false):=by
 rw[Cp,Xt]
theorem RE:∀ (n:Nat) (s:Ly) (id:Int) (name:List UInt8) (ts:List Tab),ts.length≤1024→(Cp n s id name ts).2=true→(Cp n s id name ts).1.length≤1024
 | 0,_,_,_,ts,h,_=>h
 | n+1,s,id,name,ts,h,ht=>by
   rw[Uc] at ht ⊢
   by_cases c:(Eb s (id+ts.length) name).2=true∧ts.length+1≤1024
   ·rw[if_pos c] at ht ⊢
    have key:∀ k,k≤s.lists.length→(C6 n s id name (ts++[(Eb s (id+ts.length) name).1]) k).2=true→(C6 n s id name (ts++[(Eb s (id+ts.length) name).1]) k).1.length≤1024:=by
     intro k
     induction k with
     | zero=>intro _ _;simp[C6];omega
     | succ k ih =>
      intro hk h2
      rw[JI _ _ _ _ _ (by omega)] at h2 ⊢
      by_cases e:(C6 n s id name (ts++[(Eb s (id+ts.length) name).1]) k).2=true
      ·rw[if_pos e] at h2 ⊢
       exact RE n _ _ _ _ (ih (by omega) e) h2
      ·rw[if_neg e] at h2
       exact absurd h2 e
    exact key _ (Afw _) ht
   ·rw[if_neg c] at ht
    cases ht
theorem JJ (n:Nat) (s:Ly) (id:Int) (name:List UInt8) (ts:List Tab) {k:Nat} (hf:(C6 n s id name ts k).2=false):∀ m,k+m≤s.lists.length→C6 n s id name ts (k+m)=C6 n s id name ts k
 | 0,_=>rfl
 | m+1,h=>by
   have ih:=JJ n s id name ts hf m (by omega)
   rw[←AfJ,JI _ _ _ _ _ (by omega),ih,hf,if_neg (by simp)]
def N2:Nat→Ly→Nat→Prop
 | 0,_,_=>False
 | n+1,s,m=>LyT s∧m≤1000000000∧s.lists.length≤1000000∧s.lists.Nodup∧∀ p∈s.lists,(∀ e∈s.it p,Gm e.2)∧CD (s.it p)≤4000∧N2 n (Ai true (s.it p)) (m+1+p.length)
def JQ (j:Option Nat) (n:Nat):AV:=match j with
 | none=>.d (.sl 0 true [])
 | some j=>.lsl j 3 0 n
def Afu (j:Option Nat) (ts:List Tab) (H:List Aa):Prop:=match j with
 | none=>ts=[]
 | some j=>H[j]?=some (.row false (B7 ts))
abbrev flB (id:Int) (j:Option Nat) (n:Nat):Aa:=.box [.d (.int .i64 id),JQ j n]
def MA:BZ:=fun k=>Agp k 4000056 || Agp k 4000031
theorem ME:MA 4000056=true:=rfl
theorem F4:MA 4000031=true:=rfl
theorem Dz {k:Nat} (h:¬(k=4000056∨k=4000031)):MA k=false:=by
 cases e:MA k with
 | false=>rfl
 | true =>
  unfold MA at e
  rw[Af5] at e
  rcases e with e | e
  ·exact absurd (.inl (AfI e)) h
  ·exact absurd (.inr (AfI e)) h
structure ZL (L:Rl→Nat) (s:Ly) (F:Nat) (j:Option Nat) (id:Int) (ts:List Tab) (H H':List Aa):Prop where
 len:H.length≤H'.length
 nox:NoX H'
 tabs:∃ q,H.length≤q∧H'[F]?=some (flB id (some q) ts.length)∧H'[q]?=some (.row false (B7 ts))
 same:∀ i,i<H.length→i≠F→some i≠j→(∀ p,¬s.it p=[]→i≠L (.i p))→H'[i]?=H[i]?
structure AddA (L:Rl→Nat) (s:Ly) (F:Nat) (j:Option Nat) (id:Int) (name:List UInt8) (ts:List Tab) (H:List Aa):Prop where
 lay:Bz L s H
 nox:NoX H
 i1:-1000000000000≤id
 i2:id≤1000000000000
 cap:ts.length≤1024
 fl:H[F]?=some (flB id j ts.length)
 tabs:Afu j ts H
 fj:some F≠j
 ne:∀ a,Bj s a→L a≠F∧some (L a)≠j
def AddC (G:Ad) (n:Nat):Prop:=∀ {L:Rl→Nat} {s:Ly} {F:Nat} {j:Option Nat} {id:Int} {name:List UInt8} {ts:List Tab} {H:List Aa},N2 n s name.length→AddA L s F j id name ts H →
 ∃ H',Ctr TP G 31 [.ptr F 0,.ptr (L (.n 0)) 0,.d (S name)] H (.d (.bool (Cp n s id name ts).2)) H'∧ZL L s F j id (Cp n s id name ts).1 H H'
def IP (x:List Aa) (l:List Elm) (i:Nat):List Aa:=if l=[] then x else x.set i (.row true (Bl l))
theorem WU (x:List Aa) (l:List Elm) (i:Nat):(IP x l i).length=x.length:=by unfold IP;split<;>simp
structure ZM (n:Nat) (L:Rl→Nat) (s:Ly) (F:Nat) (j:Option Nat) (id:Int) (name:List UInt8) (ts:List Tab) (H:List Aa) (k:Nat) (x:List Aa):Prop where
 p:ZL L s F j id (C6 n s id name ts k).1 H x
 rest:∀ q∈s.lists.drop k,¬s.it q=[]→x[L (.i q)]?=some (.row false (Bl (s.it q)))
 cap:(C6 n s id name ts k).2=true→(C6 n s id name ts k).1.length≤1024
def XI (G:Ad) (n:Nat) (L:Rl→Nat) (s:Ly) (F:Nat) (id:Int) (name:List UInt8) (ts:List Tab) (k:Nat) (x y:List Aa):Prop :=
 ((C6 n s id name ts k).2=false→y=x)∧((C6 n s id name ts k).2=true→∃ H',Ctr TP G 32 [.d (.bool true),.d (ElS (s.it (s.lists.getD k [])) false)] [] (.ptr 2 0) H'∧H'≠[]∧x.length+H'.length≤y.length ∧
  Ctr TP G 31 [.ptr F 0,.ptr (outN [] x.length 2) 0,.d (S (name++[46]++s.lists.getD k []))] (IP x (s.it (s.lists.getD k [])) (L (.i (s.lists.getD k [])))++H'.map (renB (outN [] x.length))) (.d (.bool (C6 n s id name ts (k+1)).2)) y)
theorem RC {n:Nat} (IH:AddC G n) {L:Rl→Nat} {s:Ly} {F:Nat} {j:Option Nat} {id:Int} {name:List UInt8} {ts:List Tab} {H:List Aa} (h:Bz L s H) (i1:-1000000000000≤id) (i2:id≤1000000000000) (hFl:F<H.length)
  (hr:∀ a,Bj s a→L a≠F∧some (L a)≠j) (hnd:s.lists.Nodup) (hok:∀ p∈s.lists,(∀ e∈s.it p,Gm e.2)∧CD (s.it p)≤4000∧N2 n (Ai true (s.it p)) (name.length+1+p.length))
  {k:Nat} (hk:k<s.lists.length) {x:List Aa} (hx:ZM n L s F j id name ts H k x):∃ y,XI G n L s F id name ts k x y∧ZM n L s F j id name ts H (k+1) y:=by
 have hsucc:=JI n s id name ts hk
 obtain ⟨⟨p1,p2,⟨q,q1,q2,q3⟩,p4⟩,hrest,hcap⟩:=hx
 have hdr:∀ r,r∈s.lists.drop (k+1)→r∈s.lists.drop k:=fun r hr=>by
  rw[show s.lists.drop (k+1)=(s.lists.drop k).drop 1 by rw[List.drop_drop]] at hr
  exact List.mem_of_mem_drop hr
 cases e:(C6 n s id name ts k).2 with
 | false =>
  rw[e,if_neg (by simp)] at hsucc
  refine ⟨x,⟨fun _=>rfl,fun c=>(by rw[e] at c;cases c)⟩,⟨?_,fun r hr=>hrest r (hdr r hr),fun c=>(by rw[hsucc,e] at c;cases c)⟩⟩
  rw[hsucc]
  exact ⟨p1,p2,⟨q,q1,q2,q3⟩,p4⟩
 | true =>
  rw[e,if_pos rfl] at hsucc
  have hcap:=hcap e
  have hpm:s.lists.getD k []∈s.lists:=EF hk
  have hpd:s.lists.getD k []∈s.lists.drop k:=by
   rw[AdV,AdU hk,Af2,AfS hk]
   exact List.mem_cons_self
  have hpn:∀ r∈s.lists.drop (k+1),r≠s.lists.getD k []:=by
   intro r hr c
   have:=List.Nodup.sublist (List.drop_sublist k s.lists) hnd
   rw[AfS hk] at this
   rw[AdV,AdU hk] at c
   simp at c
   exact (AfZ.1 this).1 (c▸hr)
  generalize hp:s.lists.getD k []=p at *
  obtain ⟨k1,k2,k3⟩:=hok p hpm
  obtain ⟨L',H',g1,g2,g3,g4⟩:=HO (G:=G) true (s.it p) false k1 k2
  have hl1:=WU x (s.it p) (L (.i p))
  have g5:=g2.shift (IP x (s.it p) (L (.i p)))
  rw[hl1] at g5
  have hH':0<H'.length:=by have:=g2.lt (.n 0) (by show 0<8+_;omega);omega
  have hne:H'≠[]:=by intro c;rw[c] at hH';simp at hH'
  have nx1:NoX (IP x (s.it p) (L (.i p))):=by
   unfold IP
   split
   ·exact p2
   ·exact p2.set _ (by simp)
  have at1:∀ i,i<x.length→(¬s.it p=[]→i≠L (.i p))→(IP x (s.it p) (L (.i p))++H'.map (renB (outN [] x.length)))[i]?=x[i]?:=by
   intro i hi hne
   rw[List.getElem?_append_left (by omega)]
   unfold IP
   split
   ·rfl
   ·rename_i c
    exact Ags fun c2=>hne c c2.symm
  have hFx:F<x.length:=by omega
  have hqx:q<x.length:=(AfO.1 q3).1
  obtain ⟨y,y1,⟨y2,y3,⟨q',y4,y5,y6⟩,y7⟩⟩:=IH (L:=fun a=>outN [] x.length (L' a)) (F:=F) (j:=some q) (id:=id) (name:=name++[46]++p) (ts:=(C6 n s id name ts k).1)
   (H:=IP x (s.it p) (L (.i p))++H'.map (renB (outN [] x.length))) (by
    have:(name++[46]++p).length=name.length+1+p.length:=by simp only[AdZ,AdX,Ad1]
    rw[this];exact k3)
   ⟨g5,nx1.app (g3.ren _),i1,i2,hcap,by rw[at1 F hFx fun c=>(hr (.i p) c).1.symm];exact q2,by
     show _=_
     rw[at1 q hqx fun c c2=>by have:=h.lt (.i p) c;omega];exact q3,by simp;intro c;omega,fun a ha=>⟨by rw[C2];omega,by rw[C2];simp;omega⟩⟩
  have lX:(IP x (s.it p) (L (.i p))++H'.map (renB (outN [] x.length))).length=x.length+H'.length:=by rw[AdZ,hl1,AgK]
  rw[lX] at y2 y4
  have y7':∀ i,i<x.length→i≠F→i≠q→(¬s.it p=[]→i≠L (.i p))→y[i]?=x[i]?:=by
   intro i hi c1 c2 c3
   rw[y7 i (by rw[lX];omega) c1 (by simpa using c2) fun r _=>by rw[C2];omega]
   exact at1 i hi c3
  refine ⟨y,⟨fun c=>(by rw[e] at c;cases c),fun _=>⟨H',by rw[hp];exact g1,hne,y2,?_⟩⟩,⟨?_,fun r hr2 hrn=>?_,fun c=>?_⟩⟩
  ·rw[hp,hsucc]
   have:(fun a=>outN [] x.length (L' a)) (.n 0)=outN [] x.length 2:=by simp only[g4]
   rw[←this]
   exact y1
  ·rw[hsucc]
   refine ⟨by omega,y3,⟨q',by omega,y5,y6⟩,fun i hi c1 c2 c3=>?_⟩
   rw[y7' i (by omega) c1 (by omega) fun c=>c3 p c]
   exact p4 i hi c1 c2 c3
  ·have hlt:=h.lt (.i r) hrn
   rw[y7' _ (by omega) (hr (.i r) hrn).1 (by omega) fun c=>h.ne hrn c (by intro c2;cases c2;exact hpn _ hr2 rfl)]
   exact hrest r (hdr r hr2) hrn
  ·rw[hsucc] at c ⊢
   exact RE n _ _ _ _ hcap c
end Go.Proofs.YtmidaophnbdcdaaGreatDoor
