/-
  Contracts of the functions, one after another.
-/
import Derived.Test.YtmidaophnbdcdaaGreatDoorZbIx5
import Derived.ChangeMaps5
set_option linter.all false
open Go.Abs renaming Bm->HW,DN->BW,CK->SW,Aw->AW,B5->sA,Ap->kZ
open Go.Proofs.Tryz renaming prog->TP
set_option maxHeartbeats 16000000
set_option maxRecDepth 100000
open Go.Abs renaming Ed->Qe
open Nat renaming reduceAdd->Qu,reduceSub->Qv,reduceMul->Qw,reducePow->Qx,reduceDiv->Qy,reduceMod->Qz,reduceEqDiff->QI,reduceBEq->QK
open Int renaming reduceAdd->QA,reduceSub->QB,reduceMul->QC,reducePow->QD,reduceNeg->QE,reduceToNat->QF,reduceLT->QG,reduceLE->QH
open List renaming getD_eq_getElem?_getD->AaZ,getElem?_eq_getElem->Aa0,length_append->Adj,take_length->Adl,length_map->Adm,take_add_one->Adn,map_append->Ado,mem_singleton->Adp,getElem?_append_right->Aet,getElem?_append_left->AeI,append_assoc->AeJ,contains->AeK,take_of_length_le->AeL,append_nil->AeQ,length_singleton->AeR,length_nil->AeT,length_cons->Ae6,elem->Ae7,getElem?_modify->Ae8,mem_append->Afc,mem_map->Afd,all_eq_true->Afg,mem_append_right->Afj,map_congr_left->Afl,foldl_append->Afm,map->Afo,ext_getElem->Afp,getElem_map->Afq,nil_append->Afr,all_append->Afs,any_append->Aft,mem_cons->Afu,take->Afw
open Nat renaming reduceMod->Ac7,reduceDiv->Ada,le_refl->Adf,lt_or_ge->Adi,zero_le->Adk,eq_of_beq_eq_true->AeU,add_assoc->Aff,sub_self->Afh,le_trans->Afi,succ_mul->Afn,beq->Afx
open Option renaming getD_some->Adq,isSome->Afe,getD->Afk
open Bool renaming true_and->Afv
namespace Go.Proofs.YtmidaophnbdcdaaGreatDoor
section
open Go Go.Proofs Go.Abs
def OY (q:PtR):Pt:=if q.2.kind=5 then .l q.1 q.2.kids else .c q.1 (AN q.2)
mutual
def TM:∀ (n:Nd) (front:List UInt8),Dw n front=(DV n front).map OY
 | .mk k t ks l,front=>TN l front ks
def TN:∀ (l:List Nd) (front:List UInt8) (ks:List (List UInt8)),Gs l front ks=(Fo l front ks).map OY
 | [],front,ks=>rfl
 | n::r,front,ks=>by
   rw[EY,Fo,Ado,<-TN r front ks.tail];congr 1;by_cases h6:n.kind=6;·rw[if_pos h6,if_pos h6];exact TM n _
   rw[if_neg h6,if_neg h6];by_cases h5:n.kind=5;·rw[if_pos h5];simp[OY,h5]
   rw[if_neg h5];simp[OY,h5]
end
def DX (l:List PtR) (q:PtR) (p:List UInt8) (b:Bool):A0 (l++[q]) p b=if (A0 l p b).isSome=true then A0 l p b else if isP p b q=true then some q.2 else none:=by
 induction l with
 | nil=>rw[Afr,E1,EF];rfl
 | cons x r ih =>
  rw[List.cons_append,E1,E1,ih];by_cases h:isP p b x=true;·rw[if_pos h,if_pos h];rfl
  rw[if_neg h,if_neg h]
def AcI (p:List UInt8) (b:Bool) (q:PtR):isP p b q=true↔q.1=p/\(decide (q.2.kind=5) == b)=true:=by unfold isP;rw[Bool.and_eq_true,decide_eq_true_iff]
def FF (b:Bool) (acc:List (List UInt8)) (d:List PtR) (q:PtR):Cd b acc (d++[q])=EX b (Cd b acc d) q:=by unfold Cd;rw[Afm];rfl
def JE (R:List (List PtR)) (d:List PtR) (b:Bool):AD (R++[d]) b=Cd b (AD R b) d:=by unfold AD;rw[Afm];rfl
def X7 (b:Bool) (out:List (List UInt8)) (q:PtR) (p:List UInt8):p∈EX b out q↔p∈out\/isP p b q=true:=by
 rw[AcI];unfold EX;split
 ·rename_i h;rw[Afc,Adp];constructor
  ·rintro (h1 | rfl);·exact .inl h1
   exact .inr ⟨rfl,h.1⟩
  rintro (h1 | ⟨rfl,_⟩);·exact .inl h1
  exact .inr rfl
 rename_i h;constructor;·exact .inl
 rintro (h1 | ⟨rfl,h2⟩);·exact h1
 exact Classical.byContradiction fun h3=>h ⟨h2,h3⟩
def Hd (b:Bool) (p:List UInt8):∀ (d:List PtR) (acc:List (List UInt8)),p∈Cd b acc d↔p∈acc\/(A0 d p b).isSome=true
 | [],acc=>by simp[Cd,EF]
 | q::d,acc=>by
   have ih:=Hd b p d (EX b acc q);show p∈Cd b (EX b acc q) d↔_
   rw[ih,X7,E1];by_cases h:isP p b q=true;·rw[if_pos h];simp[h]
   rw[if_neg h];simp[h]
abbrev Sj:List UInt8->Option Cel:=fun _=>none
structure AaU (s:Ly) (f:Bool) (A:List Int) (R:List (List PtR)):Prop where
 fu:s.further=f
 ab:s.above=A
 pa:s.paths=AD R false
 li:s.lists=AD R true
 rl:s.rows.length=R.length
 ro:∀ i,i<R.length->∀ p,(s.rows.getD i Sj) p=(A0 (R.getD i []) p false).map AN
 sv:∀ p,s.sv p<=R.length/\(s.sv p=0↔p∉AD R true)
 it:∀ p,s.it p=Cg R p R.length
structure ML (s:Ly) (f:Bool) (A:List Int) (R:List (List PtR)) (d:List PtR):Prop where
 fu:s.further=f
 ab:s.above=A
 pa:s.paths=Cd false (AD R false) d
 li:s.lists=Cd true (AD R true) d
 rl:s.rows.length=R.length+1
 ro:∀ i,i<R.length->∀ p,(s.rows.getD i Sj) p=(A0 (R.getD i []) p false).map AN
 rc:∀ p,(s.rows.getD R.length Sj) p=(A0 d p false).map AN
 sv:∀ p,(A0 d p true).isSome=true->s.sv p=R.length+1
 sn:∀ p,A0 d p true=none->s.sv p<=R.length/\(s.sv p=0↔p∉AD R true)
 it:∀ p,s.it p=Cg R p R.length++(((A0 d p true).getD noN).kids.map fun n=>((R.length:Int),n))
def AaU.row {s:Ly} {f:Bool} {A:List Int} {R:List (List PtR)} (h:AaU s f A R) (a:Int):ML (s.row a) f (A++[a]) R []:=by
 refine ⟨h.fu,by simp[Ly.row,h.ab],h.pa,h.li,by simp[Ly.row,h.rl],fun i hi p=>?_,fun p=>?_,fun p hp=>by simp[EF] at hp,fun p _=>h.sv p,fun p=>by rw[EF];exact (h.it p).trans (by simp[noN,Nd.kids])⟩;·rw[<-h.ro i hi p,AaZ,AaZ];simp only[Ly.row];rw[AeI (by rw[h.rl];exact hi)]
 rw[EF,AaZ];simp only[Ly.row];rw[Aet (by rw[h.rl];exact Adf _),h.rl,Afh];rfl
def ML.part {s:Ly} {f:Bool} {A:List Int} {R:List (List PtR)} {d:List PtR} (h:ML s f A R d) (q:PtR):ML (s.part (OY q)) f A R (d++[q]):=by
 obtain ⟨qp,n⟩:=q;by_cases h5:n.kind=5
 ·have e:OY (qp,n)=.l qp n.kids:=by simp[OY,h5]
  have pf:∀ p,isP p false (qp,n)=false:=fun p=>by simp[isP,h5]
  have pt:∀ p,isP p true (qp,n)=decide (qp=p):=fun p=>by simp[isP,h5]
  have c1:∀ p,A0 (d++[(qp,n)]) p false=A0 d p false:=fun p=>by rw[DX,pf];cases A0 d p false<;>rfl
  have c2:Cd false (AD R false) (d++[(qp,n)])=Cd false (AD R false) d:=by rw[FF];unfold EX;rw[if_neg];simp[h5]
  rw[e];show ML (s.list qp n.kids) f A R _
  by_cases hs:(A0 d qp true).isSome=true
  ·have hsv:=h.sv qp hs;have e2:s.list qp n.kids=s:=(by unfold Ly.list;rw[if_pos (by rw[hsv,h.rl])])
   have c3:∀ p,A0 (d++[(qp,n)]) p true=A0 d p true:=fun p=>by
    rw[DX,pt];by_cases hp:qp=p;·subst hp;rw[if_pos hs]
    cases A0 d p true<;>simp[hp]
   rw[e2];refine ⟨h.fu,h.ab,by rw[c2];exact h.pa,?_,h.rl,h.ro,fun p=>by rw[c1];exact h.rc p,fun p hp=>h.sv p (by rw[<-c3];exact hp),fun p hp=>h.sn p (by rw[<-c3];exact hp),fun p=>by rw[c3];exact h.it p⟩;rw[FF,h.li];unfold EX;rw[if_neg];rintro ⟨_,h2⟩;exact h2 ((Hd true qp d _).2 (.inr hs))
  have hn:A0 d qp true=none:=by simpa using hs
  obtain ⟨v1,v2⟩:=h.sn qp hn;have e2:s.list qp n.kids={s with lists:=if s.sv qp=0 then s.lists++[qp] else s.lists,sv:=CO s.sv qp s.rows.length,it:=CO s.it qp (s.it qp++n.kids.map fun k=>((s.rows.length:Int)-1,k))}:=by unfold Ly.list;rw[if_neg (by rw[h.rl];omega)]
  rw[e2];have c3:∀ p,¬p=qp->A0 (d++[(qp,n)]) p true=A0 d p true:=fun p hp=>by rw[DX,pt];cases A0 d p true<;>simp[Ne.symm hp]
  have c4:A0 (d++[(qp,n)]) qp true=some n:=by rw[DX,hn,pt];simp
  refine ⟨h.fu,h.ab,by rw[c2];exact h.pa,?_,h.rl,h.ro,fun p=>by rw[c1];exact h.rc p,fun p hp=>?_,fun p hp=>?_,fun p=>?_⟩
  ·show (if s.sv qp=0 then s.lists++[qp] else s.lists)=_
   rw[FF,<-h.li];unfold EX;have m1:qp∈s.lists↔qp∈AD R true:=(by rw[h.li,Hd];simp[hn])
   by_cases hz:s.sv qp=0;·rw[if_pos hz,if_pos ⟨by simp[h5],fun hm=>v2.1 hz (m1.1 hm)⟩]
   rw[if_neg hz,if_neg];rintro ⟨_,h2⟩;exact hz (v2.2 fun hm=>h2 (m1.2 hm))
  ·show CO s.sv qp s.rows.length p=_
   by_cases e:p=qp;·subst e;rw[Dc,h.rl]
   rw[CN _ _ e];exact h.sv p (by rw[<-c3 p e];exact hp)
  ·show CO s.sv qp s.rows.length p<=_/\(CO s.sv qp s.rows.length p=0↔_)
   by_cases e:p=qp;·subst e;rw[c4] at hp;cases hp
   rw[CN _ _ e];exact h.sn p (by rw[<-c3 p e];exact hp)
  show CO s.it qp _ p=_
  by_cases e:p=qp;·subst e;rw[Dc,c4,h.it p,hn];simp only[Option.getD_none,Adq,h.rl];rw[show noN.kids=[] from rfl,List.map_nil,AeQ];congr 1;refine Afl fun k _=>?_;rw[Int.natCast_add,Int.natCast_one,Int.add_sub_cancel]
  rw[CN _ _ e,c3 p e];exact h.it p
 have e:OY (qp,n)=.c qp (AN n):=by simp[OY,h5]
 have pt:∀ p,isP p true (qp,n)=false:=fun p=>by simp[isP,h5]
 have pf:∀ p,isP p false (qp,n)=decide (qp=p):=fun p=>by simp[isP,h5]
 have c1:∀ p,A0 (d++[(qp,n)]) p true=A0 d p true:=fun p=>by rw[DX,pt];cases A0 d p true<;>rfl
 have c2:Cd true (AD R true) (d++[(qp,n)])=Cd true (AD R true) d:=by rw[FF];unfold EX;rw[if_neg];simp[h5]
 rw[e];show ML (s.single qp (AN n)) f A R _
 have hr1:s.rows.length-1=R.length:=by rw[h.rl];rfl
 refine ⟨h.fu,h.ab,?_,by rw[c2];exact h.li,by rw[Ly.single_rows];exact h.rl,fun i hi p=>?_,fun p=>?_,fun p hp=>h.sv p (by rw[<-c1];exact hp),fun p hp=>h.sn p (by rw[<-c1];exact hp),fun p=>by rw[c1];exact h.it p⟩
 ·show (if qp∈s.paths then s.paths else s.paths++[qp])=_
  rw[FF,<-h.pa];unfold EX;by_cases hm:qp∈s.paths;·rw[if_pos hm,if_neg (fun c=>c.2 hm)]
  rw[if_neg hm,if_pos ⟨by simp[h5],hm⟩]
 ·rw[<-h.ro i hi p];simp only[Ly.single];rw[AaZ,AaZ,Ae8];have hne:¬s.rows.length-1=i:=by omega
  simp only[if_neg hne];simp
 simp only[Ly.single];have hg:R.length<s.rows.length:=by rw[h.rl];omega
 have hrc:=h.rc p;have hrq:=h.rc qp;rw[AaZ,Aa0 hg,Adq] at hrc hrq;rw[AaZ,Ae8,Aa0 hg];simp only[if_pos hr1,Option.map_eq_map,Option.map_some,Adq,J1];by_cases ep:p=qp
 ·subst ep;rw[if_pos rfl,hrq,DX,pf];cases A0 d p false<;>simp
 rw[if_neg ep,hrc,DX,pf];cases A0 d p false<;>simp[Ne.symm ep]
def ML.parts {f:Bool} {A:List Int} {R:List (List PtR)}:∀ (l:List PtR) {s:Ly} {d:List PtR},ML s f A R d->ML (s.parts (l.map OY)) f A R (d++l)
 | [],s,d,h=>by rw[AeQ];exact h
 | q::l,s,d,h=>by have:=ML.parts l (h.part q);rw[AeJ] at this;exact this
def ML.done {s:Ly} {f:Bool} {A:List Int} {R:List (List PtR)} {d:List PtR} (h:ML s f A R d):AaU s f A (R++[d]):=by
 have gl:∀ i,i<R.length->(R++[d]).getD i []=R.getD i []:=fun i hi=>by rw[AaZ,AeI hi,AaZ]
 have ge:(R++[d]).getD R.length []=d:=by rw[AaZ,Aet (Adf _),Afh];rfl
 refine ⟨h.fu,h.ab,by rw[JE];exact h.pa,by rw[JE];exact h.li,by rw[h.rl];simp,fun i hi p=>?_,fun p=>?_,fun p=>?_⟩
 ·rcases Adi i R.length with hi2 | hi2
  ·rw[gl i hi2];exact h.ro i hi2 p
  obtain rfl:i=R.length:=by simp at hi;omega
  rw[ge];exact h.rc p
 ·rw[JE,Hd,Adj,AeR];by_cases hs:(A0 d p true).isSome=true;·rw[h.sv p hs];refine ⟨Adf _,⟨fun hx=>by omega,fun hx=>absurd (.inr hs) hx⟩⟩
  obtain ⟨v1,v2⟩:=h.sn p (by simpa using hs);refine ⟨by omega,v2.trans ⟨fun hx hy=>hy.elim hx hs,fun hx hy=>hx (.inl hy)⟩⟩
 have hk:∀ k,k<=R.length->Cg (R++[d]) p k=Cg R p k:=by
  intro k;induction k with
  | zero=>intro _;rfl
  | succ k ih=>intro hk;rw[EE,EE,ih (by omega),gl k (by omega)]
 rw[Adj,AeR,EE,hk _ (Adf _),ge];exact h.it p
end
section
open Go Go.Proofs Go.Abs
def Uo {E:List Elm} {k:Nat} (h:k<E.length) {β:Type} (g:Elm->β):(E.take (k+1)).map g=(E.take k).map g++[g (E.getD k noE)]:=by rw[Adn,Aa0 h,AaZ,Aa0 h,Ado];rfl
def Z8 (f:Bool) (E:List Elm):∀ k,k<=E.length->AaU (gK true f E k) f ((E.take k).map (·.1)) (A6 (E.take k))
 | 0,_=>⟨rfl,rfl,rfl,rfl,rfl,fun i hi=>by simp[A6] at hi,fun p=>⟨Adf _,⟨fun _=>by simp[A6,AD],fun _=>rfl⟩⟩,fun p=>rfl⟩
 | k+1,hk=>by have ih:=Z8 f E k (by omega);have h1:=((ih.row (E.getD k noE).1).parts (DV (E.getD k noE).2 [])).done;rw[Gg true f E (by omega)];unfold A6 at h1 ⊢;rw[Uo (by omega),Uo (by omega)];unfold Ly.elm;rw[if_pos rfl,TM];exact h1
def Ok {E:List Elm} (f:Bool) (h:E.any A4=false):AaU (Av f E) f (E.map (·.1)) (A6 E):=by have:=Z8 f E E.length (Adf _);rw[Adl] at this;rw[<-Sw,h];exact this
structure ValS (s:Ly) (f:Bool) (l:List Elm):Prop where
 fu:s.further=f
 ab:s.above=l.map (·.1)
 pa:s.paths=if l=[] then [] else [CY]
 li:s.lists=[]
 rl:s.rows.length=l.length
 ro:∀ i,i<l.length->(s.rows.getD i Sj) CY=some (AN (l.getD i noE).2)
def Z7 (f:Bool) (E:List Elm):∀ k,k<=E.length->ValS (gK false f E k) f (E.take k)
 | 0,_=>⟨rfl,rfl,rfl,rfl,rfl,fun i hi=>by simp at hi⟩
 | k+1,hk=>by
   have ih:=Z7 f E k (by omega);have tk:E.take (k+1)=E.take k++[E.getD k noE]:=(by rw[Adn,Aa0 (by omega),AaZ,Aa0 (by omega)];rfl)
   have tl:(E.take k).length=k:=(by rw[List.length_take];omega);rw[Gg false f E (by omega),tk];generalize E.getD k noE=e at *;generalize gK false f E k=s at *;generalize E.take k=l at *;have he:s.elm false e=(s.row e.1).single CY (AN e.2):=rfl;rw[he];have hr:(s.row e.1).rows=s.rows++[Sj]:=rfl;refine ⟨ih.fu,?_,?_,ih.li,by rw[Ly.single_rows,hr];simp[ih.rl],fun i hi=>?_⟩
   ·show s.above++[e.1]=_
    rw[ih.ab,Ado];rfl
   ·show (if CY∈s.paths then s.paths else s.paths++[CY])=_
    rw[ih.pa];by_cases hl:l=[];·simp[hl]
    simp[hl]
   show (((s.rows++[Sj]).modify ((s.rows++[Sj]).length-1) fun r=>J1 r CY (AN e.2)).getD i Sj) CY=_
   have hl1:(s.rows++[Sj]).length-1=l.length:=(by simp[ih.rl]);rw[hl1,AaZ,Ae8];rcases Adi i l.length with h | h
   ·have hne:¬l.length=i:=(by omega);have:=ih.ro i h;rw[AaZ] at this;rw[AeI (by rw[ih.rl];exact h),AaZ,AeI h,<-AaZ (l:=l),<-this];simp only[if_neg hne];simp
   obtain rfl:i=l.length:=by simp at hi;omega
   rw[Aet (by rw[ih.rl];exact Adf _),ih.rl,Afh,AaZ,Aet (Adf _),Afh];simp[J1]
def Uk {E:List Elm} (f:Bool) (h:E.any A4=true):ValS (Av f E) f E:=by have:=Z7 f E E.length (Adf _);rw[Adl] at this;rw[<-Sw,h];exact this
def Ws (f:Bool) (E:List Elm) (id:Int) (name:List UInt8):E6 (Av f E) id name=DS f E id name:=by
 unfold E6 DS Ep Yr Rn;cases h:E.any A4 with
 | true =>
  have hs:=Uk f h;have hne:¬E=[]:=fun c=>by subst c;cases h
  rw[if_pos rfl,hs.fu,hs.ab,hs.pa,if_neg hne];congr 2;show [DP (Av f E).rows CY]=_
  unfold DP;congr 2;refine Afp (by simp[hs.rl]) fun i h1 h2=>?_;have hi:i<E.length:=by simpa using h2
  have:=hs.ro i hi;rw[AaZ,Aa0 (by simpa using h1),Adq,AaZ,Aa0 hi,Adq] at this;simp only[Afq,FQ,this]
 | false =>
  have hs:=Ok f h;rw[hs.fu,hs.ab,hs.pa];simp only[Bool.false_eq_true,reduceIte];congr 2;refine Afl fun p _=>?_;unfold DP UB;congr 1;refine Afp (by simp[hs.rl]) fun i h1 h2=>?_;have hi:i<(A6 E).length:=by simpa using h2
  have:=hs.ro i hi p;rw[AaZ,Aa0 (by simpa using h1),Adq,AaZ,Aa0 hi,Adq] at this;simp only[Afq,FQ,Rp,this];cases A0 (A6 E)[i] p false<;>rfl
def Lt (f:Bool) (E:List Elm):(Av f E).lists=if E.any A4=true then [] else AD (A6 E) true:=by
 cases h:E.any A4 with
 | true=>rw[if_pos rfl];exact (Uk f h).li
 | false=>rw[if_neg (by simp)];exact (Ok f h).li
def Sq {E:List Elm} (f:Bool) (h:E.any A4=false) (p:List UInt8):(Av f E).it p=Cg (A6 E) p E.length:=by rw[(Ok f h).it p,Li]
def On:∀ (n a:Nat) (E:List Elm) (m:Nat),16<=a+n->Ct E<=4000->(∀ e∈E,AH e.2 a=true/\0<=e.1/\e.1<1000000)->m+n*16501<=1000000000->Gv (n+1) E m
 | 0,a,E,m,ha,hz,ho,hm=>by
   have hl:E=[]:=by
    cases E with
    | nil=>rfl
    | cons e r =>have:=(EA (ho e (by simp)).1).deep;omega
   subst hl;exact ⟨by omega,hz,(fun e he=>by cases he),fun _ p hp=>by cases hp⟩
 | n+1,a,E,m,ha,hz,ho,hm=>by obtain ⟨h1,h2,h3,h4,h5⟩:=FI (a:=a) true E hz ho;refine ⟨by omega,hz,fun e he=>⟨Ks e.2 _ (ho e he).1,(ho e he).2.1,(ho e he).2.2,Afi (AbM he) hz⟩,fun hn p hp=>?_⟩;have hl:=Lt true E;rw[if_neg (by rw[hn];simp)] at hl;have hp3:=h3 p;have hpl:=h1.ls p (by rw[hl];exact hp);have hit:=fun e he=>h1.it p e he;rw[Sq true hn p] at hp3 hit;exact ⟨by omega,On n (a+1) _ _ (by omega) (by omega) hit (by rw[Afn] at hm;omega)⟩
def AaC (t:List Tab):Prop:=(∃ x∈t,Ck x=false)\/1024<t.length
def Oi (t:List Tab):Prop:=t.all Ck=true/\t.length<=1024
def AcW (r:List Tab × Bool) (t:List Tab):Prop:=(r.2=true->t=r.1/\Oi t)/\(r.2=false->AaC t)
def LA:∀ (n:Nat) (ts:List Tab) (name:List UInt8) (id:Int) (f:Bool) (E:List Elm),∃ e,Dd n ts name id f E=ts++e
 | 0,ts,_,_,_,_=>⟨[],(AeQ _).symm⟩
 | n+1,ts,name,id,f,E=>by
   rw[Eh];split;·exact ⟨[],(AeQ _).symm⟩
   split;·exact ⟨_,rfl⟩
   have key:∀ k,k<=(AD (A6 E) true).length->∃ e,C2 n name id E (ts++[DS f E (id+ts.length) name]) k=ts++e:=by
    intro k;induction k with
    | zero=>intro _;exact ⟨_,rfl⟩
    | succ k ih =>intro hk;obtain ⟨e,he⟩:=ih (by omega);obtain ⟨e2,he2⟩:=LA n (C2 n name id E (ts++[DS f E (id+ts.length) name]) k) (name++[46]++(AD (A6 E) true).getD k []) id true (Cg (A6 E) ((AD (A6 E) true).getD k []) E.length);exact ⟨e++e2,by rw[Dm _ _ _ _ _ (by omega),he2,he,AeJ]⟩
   exact key _ (Adf _)
def AaC.app {t:List Tab} (h:AaC t) (e:List Tab):AaC (t++e):=by
 rcases h with ⟨x,hx,h⟩ | h
 ·exact .inl ⟨x,List.mem_append_left _ hx,h⟩
 exact .inr (by rw[Adj];omega)
def Q3 (n:Nat) (name:List UInt8) (id:Int) (E:List Elm) (ts:List Tab):∀ k,k<=(AD (A6 E) true).length->∃ e,C2 n name id E ts k=ts++e
 | 0,_=>⟨[],(AeQ _).symm⟩
 | k+1,hk=>by obtain ⟨e,he⟩:=Q3 n name id E ts k (by omega);obtain ⟨e2,he2⟩:=LA n (C2 n name id E ts k) (name++[46]++(AD (A6 E) true).getD k []) id true (Cg (A6 E) ((AD (A6 E) true).getD k []) E.length);exact ⟨e++e2,by rw[Dm _ _ _ _ _ (by omega),he2,he,AeJ]⟩
def Oi.snoc {t:List Tab} (h:t.all Ck=true) {x:Tab} (hx:Ck x=true) (hl:t.length+1<=1024):Oi (t++[x]):=by refine ⟨by rw[Afs,h];simp[hx],by simpa using hl⟩
def Vw {t:Tab} (h:64<t.cols.length):Ck t=false:=by unfold Ck;rw[show decide (t.cols.length<=64)=false from decide_eq_false (by omega)];simp
def Wu {a:Nat} (f:Bool) (E:List Elm) (hz:Ct E<=4000) (ho:∀ e∈E,AH e.2 a=true/\0<=e.1/\e.1<1000000) (id:Int) (name:List UInt8) :
  (D8 (Av f E) id name).2=Ck (DS f E id name)/\((D8 (Av f E) id name).2=true->(D8 (Av f E) id name).1=DS f E id name):=by
 obtain ⟨h1,h2,h3,h4,h5⟩:=FI (a:=a) f E hz ho;have hl:=Ei E;rw[<-Ws];unfold D8;by_cases h:64<(Av f E).paths.length
 ·rw[if_pos (.inl h)];have:Ck (E6 (Av f E) id name)=false:=Vw (by simp[E6];omega);rw[this];exact ⟨rfl,fun c=>by cases c⟩
 rw[if_neg (by omega)];exact ⟨rfl,fun _=>rfl⟩
def AaG:∀ (n a:Nat) (f:Bool) (E:List Elm) (id:Int) (name:List UInt8) (ts:List Tab),16<=a+n->Ct E<=4000->(∀ e∈E,AH e.2 a=true/\0<=e.1/\e.1<1000000)->Oi ts ->
  AcW (FX (n+1) (Av f E) id name ts) (Dd (n+1) ts name id f E):=by
 intro n;induction n with
 | zero =>
  intro a f E id name ts ha hz ho hg;have hl:E=[]:=by
   cases E with
   | nil=>rfl
   | cons e r =>have:=(EA (ho e (by simp)).1).deep;omega
  subst hl;obtain ⟨t1,t2⟩:=Wu (a:=a) f [] hz ho (id+ts.length) name;have ln:(Av f []).lists=[]:=rfl;have q1:¬1024<ts.length:=by have:=hg.2;omega
  have q2:¬([]:List Elm).any A4=true:=by simp
  rw[Na,Eh,if_neg q1,if_neg q2,ln];show AcW _ (ts++[DS f [] (id+ts.length) name])
  by_cases c:(D8 (Av f []) (id+ts.length) name).2=true/\ts.length+1<=1024
  ·rw[if_pos c];refine ⟨fun _=>⟨?_,Oi.snoc hg.1 (by rw[<-t1];exact c.1) c.2⟩,fun x=>by cases x⟩;show _=ts++[(D8 (Av f []) (id+ts.length) name).1]
   rw[t2 c.1]
  rw[if_neg c];refine ⟨(fun x=>by cases x),fun _=>?_⟩;by_cases c1:(D8 (Av f []) (id+ts.length) name).2=true;·exact .inr (by rw[Adj,AeR];have:¬ts.length+1<=1024:=fun h=>c ⟨c1,h⟩;omega)
  exact .inl ⟨_,Afj _ (Adp.2 rfl),by rw[<-t1];simpa using c1⟩
 | succ n IH =>
  intro a f E id name ts ha hz ho hg;obtain ⟨t1,t2⟩:=Wu (a:=a) f E hz ho (id+ts.length) name;obtain ⟨h1,h2,h3,h4,h5⟩:=FI (a:=a) f E hz ho;have q1:¬1024<ts.length:=by have:=hg.2;omega
  rw[Na,Eh,if_neg q1];by_cases c:(D8 (Av f E) (id+ts.length) name).2=true/\ts.length+1<=1024
  ·rw[if_pos c,t2 c.1];have hg1:Oi (ts++[DS f E (id+ts.length) name]):=Oi.snoc hg.1 (by rw[<-t1];exact c.1) c.2;generalize ts++[DS f E (id+ts.length) name]=T1 at *;have ln:=Lt f E;by_cases hn:E.any A4=true
   ·rw[if_pos hn] at ln;rw[if_pos hn,ln];exact ⟨fun _=>⟨rfl,hg1⟩,fun x=>by cases x⟩
   have hn':E.any A4=false:=(by simpa using hn);rw[if_neg hn] at ln;rw[if_neg hn,ln];have key:∀ k,k<=(AD (A6 E) true).length->AcW (Dp (n+1) (Av f E) id name T1 k) (C2 (n+1) name id E T1 k):=by
    intro k;induction k with
    | zero=>intro _;exact ⟨fun _=>⟨rfl,hg1⟩,fun x=>by cases x⟩
    | succ k ih =>
     intro hk;have ih:=ih (by omega);rw[Jj _ _ _ _ _ (by rw[ln];omega),Dm _ _ _ _ _ (by omega)];rw[ln];have hp:(AD (A6 E) true).getD k []∈AD (A6 E) true:=Cs (by omega);generalize (AD (A6 E) true).getD k []=p at *;by_cases e:(Dp (n+1) (Av f E) id name T1 k).2=true
     ·rw[if_pos e];obtain ⟨e1,e2⟩:=ih.1 e;rw[<-e1,Sq f hn' p];have hp3:=h3 p;have hit:=fun e he=>h1.it p e he;rw[Sq f hn' p] at hp3 hit;exact IH (a+1) true _ id _ _ (by omega) (by omega) hit e2
     rw[if_neg e];have e0:(Dp (n+1) (Av f E) id name T1 k).2=false:=(by simpa using e)
     obtain ⟨x,hx⟩:=LA (n+1) (C2 (n+1) name id E T1 k) (name++[46]++p) id true (Cg (A6 E) p E.length);exact ⟨(fun q=>by rw[e0] at q;cases q),fun _=>by rw[hx];exact (ih.2 e0).app x⟩
   exact key _ (Adf _)
  rw[if_neg c];refine ⟨(fun x=>by cases x),fun _=>?_⟩;have hb:AaC (ts++[DS f E (id+ts.length) name]):=by
   by_cases c1:(D8 (Av f E) (id+ts.length) name).2=true;·exact .inr (by rw[Adj,AeR];have:¬ts.length+1<=1024:=fun h=>c ⟨c1,h⟩;omega)
   exact .inl ⟨_,Afj _ (Adp.2 rfl),by rw[<-t1];simpa using c1⟩
  split;·exact hb
  obtain ⟨x,hx⟩:=Q3 (n+1) name id E (ts++[DS f E (id+ts.length) name]) _ (Adf _);rw[hx];exact hb.app x
def R7 (N:Nat) (name:List UInt8) (id:Int) (n:Nd):List Tab × Int :=
 if AH n 0=true/\Lib.validD name=true/\5<=n.kind/\(CQ n).any Ca=false then
  (if (Dd N [] name id false (BT n)).all Ck=true/\(Dd N [] name id false (BT n)).length<=1024 then (Dd N [] name id false (BT n),0) else ([],3))
 else ([],1)
def Oq {n:Nd} (h:AH n 0=true) (hz:nsz n<=4000):Ct (BT n)<=4000/\∀ e∈BT n,AH e.2 0=true/\0<=e.1/\e.1<1000000:=by
 have o:=EA h;have hk:∀ k∈CQ n,AH k 0=true:=fun k hk=>by
  unfold CQ at hk;split at hk;·exact I5 k 0 (o.kids k hk)
  rw[Adp.1 hk];exact h
 refine ⟨?_,fun e he=>?_⟩
 ·unfold BT;rw[KG];unfold CQ;split;·have:=Dx n;omega
  simp only[Cf];omega
 obtain ⟨k,hk2,rfl⟩:=Afd.1 he;exact ⟨hk k hk2,by simp,by simp⟩
def Aab {n:Nd} (hz:nsz n<=4000) (name:List UInt8) (id:Int):Om 17 name id n=R7 17 name id n:=by
 unfold Om R7;by_cases h:AH n 0=true
 ·obtain ⟨z1,z2⟩:=Oq h hz;have hr:=AaG 16 0 false (BT n) id name [] (by omega) z1 z2 ⟨rfl,by simp⟩;by_cases h2:(CQ n).any Ca=false
  ·by_cases h3:Lib.validD name=true
   ·have h5:5<=n.kind:=by
     unfold CQ at h2;split at h2;·rename_i e;rw[e];decide
     have:Ca n=false:=by simpa using h2
     simp only[Ca,decide_eq_false_iff_not,Classical.not_not] at this;rw[this];decide
    have q1:AH n 0=true/\(CQ n).any Ca=false/\Lib.validD name=true:=⟨h,h2,h3⟩;have q2:AH n 0=true/\Lib.validD name=true/\5<=n.kind/\(CQ n).any Ca=false:=⟨h,h3,h5,h2⟩;rw[if_pos q1,if_pos q2];cases hb:(FX 17 (Av false (BT n)) id name []).2 with
    | true =>obtain ⟨e1,e2,e3⟩:=hr.1 hb;have q3:(Dd 17 [] name id false (BT n)).all Ck=true/\(Dd 17 [] name id false (BT n)).length<=1024:=⟨e2,e3⟩;rw[if_pos q3,e1];rfl
    | false =>
     have q3:¬((Dd 17 [] name id false (BT n)).all Ck=true/\(Dd 17 [] name id false (BT n)).length<=1024):=by
      rintro ⟨c1,c2⟩;rcases hr.2 hb with ⟨x,hx,hx2⟩ | hl
      ·rw[Afg.1 c1 x hx] at hx2;cases hx2
      have hl':1024<(Dd 17 [] name id false (BT n)).length:=hl;exact absurd c2 (by omega)
     rw[if_neg q3];rfl
   have q1:¬(AH n 0=true/\(CQ n).any Ca=false/\Lib.validD name=true):=fun c=>h3 c.2.2;have q2:¬(AH n 0=true/\Lib.validD name=true/\5<=n.kind/\(CQ n).any Ca=false):=fun c=>h3 c.2.1;rw[if_neg q1,if_neg q2]
  have q1:¬(AH n 0=true/\(CQ n).any Ca=false/\Lib.validD name=true):=fun c=>h2 c.2.1;have q2:¬(AH n 0=true/\Lib.validD name=true/\5<=n.kind/\(CQ n).any Ca=false):=fun c=>h2 c.2.2.2;rw[if_neg q1,if_neg q2]
 have q1:¬(AH n 0=true/\(CQ n).any Ca=false/\Lib.validD name=true):=fun c=>h c.1;have q2:¬(AH n 0=true/\Lib.validD name=true/\5<=n.kind/\(CQ n).any Ca=false):=fun c=>h c.1;rw[if_neg q1,if_neg q2]
end
section
open Go Go.Proofs Go.Abs
variable {G:Ah}
def MR7:Ci:=fun k=>Afx k 5000178 || Afx k 4000034
def Acs:T4 MR7 (some 178)=true:=rfl
def Mn:MR7 4000034=true:=rfl
def AB {k:Nat} (h:¬(k=5000178\/k=4000034)):MR7 k=false:=by
 cases e:MR7 k with
 | false=>rfl
 | true =>
  unfold MR7 at e;rcases Bool.or_eq_true _ _▸e with e | e
  ·exact absurd (.inl (AeU e)) h
  exact absurd (.inr (AeU e)) h
def YG {E:List Elm} {k:Nat} (h:k<E.length):(E.take (k+1)).any A4=((E.take k).any A4 || Ca (E.getD k noE).2):=by rw[Adn,Aa0 h,Aft,AaZ,Aa0 h];simp[A4]
def GS {E:List Elm} {k:Nat} (h:k<E.length):(E.map (·.2)).getD k noN=(E.getD k noE).2:=by rw[AaZ,List.getElem?_map,Aa0 h,AaZ,Aa0 h];rfl
def OQ (E:List Elm) (k:Nat):Bool:=!(E.take k).any A4
def LK (E:List Elm):OQ E 0=true:=rfl
def RA {E:List Elm} {k:Nat} (h:k<E.length):OQ E (k+1)=(OQ E k && !Ca ((E.map (·.2)).getD k noN)):=by rw[GS h];unfold OQ;rw[YG h,Bool.not_or]
def UL (E:List Elm):OQ E E.length=!E.any A4:=by unfold OQ;rw[Adl]
def DC (E:List Elm) (k:Nat):List Cel:=(E.take k).map fun e=>AN e.2
def IL (E:List Elm) (k:Nat) (h:k<=E.length):(DC E k).length=k:=by simp[DC];omega
def Nh {E:List Elm} {k:Nat} (h:k<E.length):DC E (k+1)=DC E k++[AN ((E.map (·.2)).getD k noN)]:=by rw[GS h];unfold DC;rw[Adn,Aa0 h,AaZ,Aa0 h,Ado];rfl
def Ph (E:List Elm):DC E E.length=E.map fun e=>AN e.2:=by unfold DC;rw[Adl]
def UC (f:Bool) (E:List Elm):(Yr f E).length<=1:=by unfold Yr;split<;>simp
def EV (E:List Elm) (k:Nat):List (List PtR):=A6 (E.take k)
def PE (E:List Elm) (k:Nat) (h:k<=E.length):(EV E k).length=k:=by simp[EV,A6];omega
def NF {E:List Elm} {k:Nat} (h:k<E.length):EV E (k+1)=EV E k++[DV ((E.map (·.2)).getD k noN) []]:=by rw[GS h];unfold EV A6;rw[Adn,Aa0 h,AaZ,Aa0 h,Ado];rfl
def PF (E:List Elm):EV E E.length=A6 E:=by unfold EV;rw[Adl]
def PG (a b:List (List PtR)):Cu (a++b)=Cu a++Cu b:=by simp[Cu]
def Lh:∀ E:List Elm,HD (A6 E)<=Ct E
 | []=>Adf _
 | e::r=>by
   have ih:=Lh r;have h:=JG e.2 [];have h2:=Dx e.2;show (DV e.2 []).length+HD (A6 r)<=nsz e.2+Ct r
   omega
def Nr:∀ {l:List (List PtR)} {r:List PtR},r∈l->r.length<=HD l
 | [],_,h=>by cases h
 | x::l,r,h=>by
   rcases Afu.1 h with rfl | h
   ·simp[HD]
   have:=Nr h;simp only[HD];omega
def CF (R:List (List PtR)) (p:List UInt8) (i:Nat):List Cel:=(R.take i).map (Rp p)
def Jh (R:List (List PtR)) (p:List UInt8) (i:Nat) (h:i<=R.length):(CF R p i).length=i:=by simp[CF];omega
def OD {R:List (List PtR)} (p:List UInt8) {i:Nat} (h:i<R.length):CF R p (i+1)=CF R p i++[Rp p (R.getD i [])]:=by unfold CF;rw[Adn,Aa0 h,AaZ,Aa0 h,Ado];rfl
def Rr (R:List (List PtR)) (p:List UInt8):CF R p R.length=(UB R p).cells:=by unfold CF;rw[Adl];rfl
def CE (R:List (List PtR)) (ps:List (List UInt8)) (k:Nat):List Col:=(ps.take k).map (UB R)
def Rk (R:List (List PtR)) (ps:List (List UInt8)) (k:Nat) (h:k<=ps.length):(CE R ps k).length=k:=by simp[CE];omega
def OB (R:List (List PtR)) {ps:List (List UInt8)} {k:Nat} (h:k<ps.length):CE R ps (k+1)=CE R ps k++[UB R (ps.getD k [])]:=by unfold CE;rw[Adn,Aa0 h,AaZ,Aa0 h,Ado];rfl
def Rm (R:List (List PtR)) (ps:List (List UInt8)):CE R ps ps.length=ps.map (UB R):=by unfold CE;rw[Adl]
def F7 (b:Nat):List Elm->AV
 | []=>.d .esl
 | e::r=>.lsl b 1 0 (e::r).length
def F6:List Elm->Ae
 | []=>.dead
 | e::r=>.row false (AF .i64 ((e::r).map (·.1)))
def L0:List Elm->D
 | []=>.esl
 | e::r=>.sl (e::r).length false (AF .i64 ((e::r).map (·.1)))
def FG (R:List (List PtR)) (p:List UInt8) {a:Nat}:∀ b,a<=b->(Cg R p a).length<=(Cg R p b).length
 | 0,h=>by obtain rfl:a=0:=by omega
           exact Adf _
 | b+1,h=>by
   by_cases e:a=b+1;·subst e;exact Adf _
   have:=FG R p (a:=a) b (by omega);rw[EE,Adj];omega
def Pz (b:Nat) (a:List Elm) (e:Elm):F7 b (a++[e])=.lsl b 1 0 (a.length+1):=by cases a<;>simp[F7]
def Py (a:List Elm) (e:Elm):F6 (a++[e])=.row false (AF .i64 (a.map (·.1))++[.int .i64 e.1]):=by cases a<;>simp[F6,AF]
def EU (b:Nat) {a:List Elm} (h:¬a=[]):F7 b a=.lsl b 1 0 a.length:=by cases a with | nil=>exact absurd rfl h | cons e r=>rfl
def ET {a:List Elm} (h:¬a=[]):F6 a=.row false (AF .i64 (a.map (·.1))):=by cases a with | nil=>exact absurd rfl h | cons e r=>rfl
def Ie {a:List Elm} (h:¬a=[]):L0 a=.sl a.length false (AF .i64 (a.map (·.1))):=by cases a with | nil=>exact absurd rfl h | cons e r=>rfl
def IZ (b:Nat):F7 b []=.d .esl:=rfl
def IY:F6 []=.dead:=rfl
def mkK (i:Nat) (kd:List Nd) (j:Nat):List Elm:=(kd.take j).map fun n=>((i:Int),n)
def ZO (i:Nat) (kd:List Nd):mkK i kd 0=[]:=rfl
def Abq (i:Nat) (kd:List Nd) (j:Nat) (h:j<=kd.length):(mkK i kd j).length=j:=by simp[mkK];omega
def ZP (i:Nat) {kd:List Nd} {j:Nat} (h:j<kd.length):mkK i kd (j+1)=mkK i kd j++[((i:Int),kd.getD j noN)]:=by unfold mkK;rw[Adn,Aa0 h,AaZ,Aa0 h,Ado];rfl
def W2 (i:Nat) (kd:List Nd):mkK i kd kd.length=kd.map fun n=>((i:Int),n):=by unfold mkK;rw[Adl]
def Gz (acc:List Elm) (i:Nat) (kd:List Nd) (j:Nat):List Elm:=acc++mkK i kd j
def RH (acc:List Elm) (i:Nat) (kd:List Nd):Gz acc i kd 0=acc:=by unfold Gz;rw[ZO,AeQ]
def UP (acc:List Elm) (i:Nat) (kd:List Nd) (j:Nat) (h:j<=kd.length):(Gz acc i kd j).length=acc.length+j:=by unfold Gz;rw[Adj,Abq i kd j h]
def RI (acc:List Elm) (i:Nat) {kd:List Nd} {j:Nat} (h:j<kd.length):Gz acc i kd (j+1)=Gz acc i kd j++[((i:Int),kd.getD j noN)]:=by unfold Gz;rw[ZP i h,AeJ]
def Oo:∀ {n:Nat} {E:List Elm} {m:Nat},Gv n E m->E.length<=4000/\m<=1000000000
 | 0,_,_,h=>h.elim
 | n+1,E,m,h=>⟨Afi (Ei E) h.2.1,h.1⟩
def Jc:∀ (n:Nat) (ts:List Tab) (name:List UInt8) (id:Int) (f:Bool) (E:List Elm),ts.length<=1025->(Dd n ts name id f E).length<=1025
 | 0,ts,_,_,_,_,h=>h
 | n+1,ts,name,id,f,E,h=>by
   rw[Eh];split;·exact h
   split;·simp;omega
   have key:∀ k,k<=(AD (A6 E) true).length->(C2 n name id E (ts++[DS f E (id+ts.length) name]) k).length<=1025:=by
    intro k;induction k with
    | zero=>intro _;rw[VQ];simp;omega
    | succ k ih=>intro hk;rw[Dm _ _ _ _ _ (by omega)];exact Jc n _ _ _ _ _ (ih (by omega))
   exact key _ (Adf _)
def Lz (n:Nat) (name:List UInt8) (id:Int) (E:List Elm) (ts:List Tab) (h:ts.length<=1025):∀ k,k<=(AD (A6 E) true).length->(C2 n name id E ts k).length<=1025
 | 0,_=>h
 | k+1,hk=>by rw[Dm _ _ _ _ _ (by omega)];exact Jc n _ _ _ _ _ (Lz n name id E ts h k (by omega))
def Hj {n:Nat} {E0 E:List Elm} {m:Nat} (h:Gv n E0 m) {ts:List Tab} (ht:1024<ts.length) (name:List UInt8) (id:Int) (f:Bool):Dd n ts name id f E=ts:=by
 cases n with
 | zero=>exact h.elim
 | succ n=>rw[Eh,if_pos ht]
def S4 (G:Ah) (n:Nat):Prop:=∀ (E:List Elm) (ts:List Tab) (name:List UInt8) (id:Int) (full:Bool),Gv n E name.length->ts.length<=1024->-1000000000000<=id->id<=1000000000000 ->
  Ctr TP G 34 [.lsl 0 3 0 ts.length,.d (S name),.d (.int .i64 id),.d (NdS (E.map (·.2)) full),.d (L0 E)] [.row false (AQ ts)] (.lsl 1 3 0 (Dd n ts name id true E).length) [.dead,.row false (AQ (Dd n ts name id true E))]
def G6 (E:List Elm) (ts:List Tab) (name:List UInt8) (id:Int) (full:Bool) (ht:1024<ts.length) (ht2:ts.length<=1000000) (w:D) :
  Ctr TP G 34 [.lsl 0 3 0 ts.length,.d (S name),.d (.int .i64 id),.d (NdS (E.map (·.2)) full),.d w] [.row false (AQ ts)] (.lsl 0 3 0 ts.length) [.row false (AQ ts)]:=by
 have tl:=Bq ts;refine Ctr.body (M:=MR7) Am Tryz.func34 rfl AcK ?_;simp(disch:=(try simp only[Ab]);omega)only[AB,Tryz.f34,↓Aa,Ac,Qu,Qv];first
 | exact ⟨[some 0],rfl,by simp,by simp[HW,BW],.inl (by simp[AW])⟩
def Vr (hP:HP G) (n:Nat) (IH:S4 G n):S4 G (n+1):=by
 intro E ts name id full hok ht i1 i2;obtain ⟨r,hr⟩:∃ r,r=Dd (n+1) ts name id true E:=⟨_,rfl⟩;rw[<-hr];rw[Eh,if_neg (by omega)] at hr;obtain ⟨o1,o2,o3,o4⟩:=hok;have el:=Ei E;have tl:=Bq ts;have sl:=Ay (E.map (·.2));have ml:(E.map (·.2)).length=E.length:=by simp
 obtain ⟨jd,hj⟩:∃ jd,id+(ts.length:Int)=jd:=⟨_,rfl⟩;rw[hj] at hr;obtain ⟨C0,hC0⟩:∃ C0,C0=Yr true E:=⟨_,rfl⟩;have hc1:C0.length<=1:=by rw[hC0];exact UC _ _
 obtain ⟨s,hs⟩:∃ s:Ly,s.above=E.map (·.1):=⟨⟨true,E.map (·.1),[],[],[],fun _=>0,fun _=>[]⟩,rfl⟩;have hC:C0=[B0 s.above]:=by rw[hC0,hs];rfl
 have sn:s.above.length=E.length:=by rw[hs];simp
 have al:=@ints_length .i64 s.above;refine Ctr.body (M:=MR7) Am Tryz.func34 rfl AcK ?_;by_cases hE:E=[];case' pos =>
  have hw:L0 E=.esl:=by rw[hE];rfl
  have hsa:s.above=[]:=by rw[hs,hE];rfl
  rw[hw];simp(disch:=(try simp only[Ab]);omega)only[AB,hj,Tryz.f34,↓Aa,Ac,↓reduceIte,Qu,Qv];refine Ak.fr 54043195528452111 (α:=Nat) (fun k=>0-k) (fun k=>[(56,.d (.int .i64 k))]) (fun k=>[.row false (AQ ts),tB jd name (.d (.sl 0 true [])),.box [.d (.str {data:=#[114,111,119]}),.d (.sl 0 true [])]]) (fun k=>k<=0) 0 (Adk _) ⟨[some 0,some 1,some 2],rfl,by simp,by simp[sA,kZ,SW,AW],by simp[HW,BW,SW,AW]⟩ ?_;intro k hkk;obtain rfl:k=0:=by omega
  simp only[Bi,Ac7,Ada];simp(disch:=(try simp only[Ab]);omega)only[AB,↓Aa,Ac,↓reduceIte,Qu,Qw,Qz];refine ⟨by simp[cut],?_⟩;refine Ak.fr 113336795588871485130767 (α:=Nat) (fun k=>E.length-k) (fun k=>[(15,.d (.bool (OQ E k))),(77,.d (.int .i64 k))]) (fun k=>[.row false (AQ ts),tB jd name (.lsl 2 2 0 C0.length),.row false (AM C0)]) (fun k=>k<=E.length) 0 (Adk _) ⟨[some 0,some 1,some 4],rfl,by simp,by simp[sA,kZ,SW,AW,LK],by simp[HW,BW,SW,AW,hC,AM,AE,B0,Mv,hsa,cut]⟩ ?_;intro k hkk;simp only[Bi,Ac7,Ada]
 case' neg =>
  obtain ⟨m,hm⟩:∃ m,E.length=m+1:=⟨E.length-1,by have:=List.length_pos_iff.2 hE;omega⟩;have hw:L0 E=.sl (m+1) false (AF .i64 s.above):=by rw[Ie hE,hm,hs]
  rw[hw];simp(disch:=(try simp only[Ab]);omega)only[AB,hj,Tryz.f34,↓Aa,Ac,↓reduceIte,Qu,Qv];refine Ak.fr 54043195528452111 (α:=Nat) (fun k=>m+1-k) (fun k=>[(56,.d (.int .i64 k))]) (fun k=>[.row false (AQ ts),tB jd name (.d (.sl 0 true [])),.box [.d (.str {data:=#[114,111,119]}),.lsl 3 2 0 k],.row false (AE (FN s k))]) (fun k=>k<=m+1) 0 (Adk _) ⟨[some 0,some 1,some 2,none],rfl,by simp,by simp[sA,kZ,SW,AW],by simp[HW,BW,SW,AW,FN,B0,AE]⟩ ?_;intro k hkk;simp only[Bi,Ac7,Ada];rcases Adi k (m+1) with hlt | hge
  case inl =>
   have ck:=KM s k (by omega);have cdl:=Az (FN s k);have csu:=Rg s k (by omega);have gk:(AF .i64 s.above).getD k .nilp=.int .i64 (s.above.getD k 0):=ints_getD (by omega);have hb:0<=s.above.getD k 0/\s.above.getD k 0<1000000:=(by have hx:=Cs (d:=(0:Int)) (show k<s.above.length by omega);rw[hs] at hx;obtain ⟨e,he,hx⟩:=Afd.1 hx;rw[hs,<-hx];exact ⟨(o3 e he).2.1,(o3 e he).2.2.1⟩)
   obtain ⟨b3,b4⟩:=hb;obtain ⟨q,hq⟩:∃ q:Nat,s.above.getD k 0=q:=⟨(s.above.getD k 0).toNat,by omega⟩;rw[hq] at csu b3 b4 gk;simp(disch:=(try simp only[Ab]);omega)only[AB,al,sn,hm,gk,↓Aa,Ac,↓reduceIte,Qu];refine Ad.of (JL hP q (by omega)) (by rfl) ?_;simp(disch:=(try simp only[Ab]);omega)only[AB,cdl,ck,↓Aa,Ac,↓reduceIte,Qu,Qw,Qz];have cge:AE (FN s (k+1))=AE (FN s k)++[.bool false,.str (bs (Lib.decDigits q))]:=(by rw[csu,CB];rfl)
   exact ⟨by simp[cut],by rfl,k+1,hlt,by simp only;omega,⟨[some 0,some 1,some 2,some 5],rfl,by simp,by simp[SW,AW],by simp[HW,BW,SW,AW,cge,cut]⟩⟩
  obtain rfl:k=m+1:=by omega
  have ck:=KM s (m+1) (by omega);have cdl:=Az (FN s (m+1));simp(disch:=(try simp only[Ab]);omega)only[AB,hm,↓Aa,Ac,↓reduceIte,Qu,Qw,Qz];refine ⟨by simp[cut],?_⟩;have e1:(B0 s.above).cells.length=m+1:=by unfold B0;simp[sn,hm]
  have cda:cut (AE (FN s (m+1))) 0 ((m+1)*2)=AE (B0 s.above).cells:=by have e2:FN s (m+1)=(B0 s.above).cells:=(by rw[<-hm,<-sn,GV]);rw[e2];exact cut_all (by rw[Az,e1];omega)
  rw[cda];clear ck cdl cda e1 hge;refine Ak.fr 113336795588871485130767 (α:=Nat) (fun k=>E.length-k) (fun k=>[(15,.d (.bool (OQ E k))),(77,.d (.int .i64 k))]) (fun k=>[.row false (AQ ts),tB jd name (.lsl 2 2 0 C0.length),.row false (AM C0)]) (fun k=>k<=E.length) 0 (Adk _) ⟨[some 0,some 1,some 5],rfl,by simp,by simp[sA,kZ,SW,AW,LK],by simp[HW,BW,SW,AW,hC,AM,B0,Mv,cut,KX,S,bs,sn,hm]⟩ ?_;intro k hkk;simp only[Bi,Ac7,Ada]
 all_goals
  clear hw;rcases Adi k E.length with hlt | hge
  ·have g:=BM (l:=E.map (·.2)) (k:=k) (by omega);have hsu:=RA hlt;generalize (E.map (·.2)).getD k noN=kid at *;generalize OQ E k=bk at *;obtain ⟨ka,kb,kc,kd⟩:=kid;have hnr:Ca (.mk ka kb kc kd)=decide (¬ka=6):=rfl;rw[hnr] at hsu;by_cases c6:ka=6
   ·subst c6;cases bk
    ·simp(disch:=(try simp only[Ab]);omega)only[AB,ml,sl,g,ndC,↓Aa,Ac,↓reduceIte,Qu];first
     | exact ⟨k+1,hlt,by simp only;omega,⟨[some 0,some 1,some 2],rfl,by simp,by simp[SW,AW,hsu],by simp[HW,BW,SW,AW]⟩⟩
    simp(disch:=(try simp only[Ab]);omega)only[AB,ml,sl,g,ndC,↓Aa,Ac,↓reduceIte,Qu];first
    | exact ⟨k+1,hlt,by simp only;omega,⟨[some 0,some 1,some 2],rfl,by simp,by simp[SW,AW,hsu],by simp[HW,BW,SW,AW]⟩⟩
   cases bk
   ·simp(disch:=(try simp only[Ab]);omega)only[AB,ml,sl,g,ndC,↓Aa,Ac,↓reduceIte,Qu];first
    | exact ⟨k+1,hlt,by simp only;omega,⟨[some 0,some 1,some 2],rfl,by simp,by simp[SW,AW,hsu,c6],by simp[HW,BW,SW,AW]⟩⟩
   simp(disch:=(try simp only[Ab]);omega)only[AB,ml,sl,g,ndC,c6,↓Aa,Ac,↓reduceIte,Qu];first
   | exact ⟨k+1,hlt,by simp only;omega,⟨[some 0,some 1,some 2],rfl,by simp,by simp[SW,AW,hsu,c6],by simp[HW,BW,SW,AW]⟩⟩
  obtain rfl:k=E.length:=by omega
  have hal:=UL E;have c0l:=AX C0;cases hnr:E.any A4 with
  | true =>
   rw[hnr] at hal;have hfin:r=ts++[⟨jd,name,C0++[⟨CY,E.map fun e=>AN e.2⟩]⟩]:=(by rw[hr,if_pos hnr];unfold DS Rn;rw[if_pos hnr,hC0])
   simp(disch:=(try simp only[Ab]);omega)only[AB,ml,hal,↓Aa,Ac,↓reduceIte,Qu];refine Ak.fr 7427640235712281649395009537 (α:=Nat) (fun k=>E.length-k) (fun k=>[(93,.d (.int .i64 k))]) (fun k=>[.row false (AQ ts),tB jd name (.lsl 2 2 0 C0.length),.row false (AM C0),.box [.d (.str {data:=#[118,97,108,117,101]}),.lsl 4 2 0 k],.row false (AE (DC E k))]) (fun k=>k<=E.length) 0 (Adk _) ?_ ?_
   ·first
    | exact ⟨[some 0,some 1,some 2,some 3,none],rfl,by simp,by simp[sA,kZ,SW,AW],by simp[HW,BW,SW,AW,DC,AE]⟩
   intro k hkk;simp only[Bi,Ac7,Ada];rcases Adi k E.length with hlt | hge
   ·have g:=BM (l:=E.map (·.2)) (k:=k) (by omega);have ck:=IL E k hkk;have cdl:=Az (DC E k);have csu:=Nh hlt;generalize (E.map (·.2)).getD k noN=kid at *;have hce:=D3 (G:=G) kid;generalize hcn:AN kid=cc at *;obtain ⟨ka,kb,kc,kd⟩:=kid;obtain ⟨cc1,cc2⟩:=cc;simp(disch:=(try simp only[Ab]);omega)only[AB,ml,sl,g,ndC,↓Aa,Ac,↓reduceIte,Qu];refine Ad.of hce (by rfl) ?_;simp(disch:=(try simp only[Ab]);omega)only[AB,cdl,ck,↓Aa,Ac,↓reduceIte,Qu,Qw,Qz];have cge:AE (DC E (k+1))=AE (DC E k)++[.bool cc2,.str (bs cc1)]:=(by rw[csu,CB];rfl)
    first
    | exact ⟨by simp[cut],by rfl,k+1,hlt,by simp only;omega,⟨[some 0,some 1,some 2,some 3,some 7],rfl,by simp,by simp[SW,AW],by simp[HW,BW,SW,AW,cge,cut]⟩⟩
   obtain rfl:k=E.length:=by omega
   have ck:=IL E E.length (Adf _);have cdl:=Az (DC E E.length);have cva:=Ph E;have ccu:cut (AE (DC E E.length)) 0 (E.length*2)=AE (E.map fun e=>AN e.2):=(by rw[cva];exact cut_all (by rw[Az];simp;omega))
   simp(disch:=(try simp only[Ab]);omega)only[AB,c0l,ccu,tl,↓Aa,Ac,↓reduceIte,Qu,Qw,Qz];have hcd:AM (C0++[⟨CY,E.map fun e=>AN e.2⟩])=AM C0++[D.str {data:=#[118,97,108,117,101]},D.sl E.length false (AE (Afo (fun e=>AN e.snd) E))]:=(by rw[Fy];simp[AM,KX,CY,S,bs])
   have hrl:r.length=ts.length+1:=(by rw[hfin];simp);have htr:AQ r=AQ ts++[.int .i64 jd,D.str (bs name),D.sl (C0.length+1) false (AM C0++[D.str {data:=#[118,97,108,117,101]},D.sl E.length false (AE (Afo (fun e=>AN e.snd) E))])]:=(by rw[hfin,Lb];simp[AQ,HY,hcd,S]);have ctk:Afw ((C0.length+1)*2) (AM C0++[D.str {data:=#[118,97,108,117,101]},D.sl E.length false (AE (Afo (fun e=>AN e.snd) E))])=AM C0++[D.str {data:=#[118,97,108,117,101]},D.sl E.length false (AE (Afo (fun e=>AN e.snd) E))]:=AeL (by simp[c0l];omega);first
   | exact ⟨by simp[cut],by simp[cut],[some 0,some 8],rfl,by simp,by simp[HW,BW,htr,cut,ctk],.inl (by simp[AW,hrl])⟩
  | false =>
   rw[hnr] at hal;obtain ⟨R,hR⟩:∃ R,R=A6 E:=⟨_,rfl⟩;simp(disch:=(try simp only[Ab]);omega)only[AB,ml,hal,↓Aa,Ac,Qu];refine Ak.fr 124615124604835863084731911901284359 (α:=Nat) (fun k=>E.length-k) (fun k=>[(21,.lsl 3 1 0 k),(117,.d (.int .i64 k))]) (fun k=>[.row false (AQ ts),tB jd name (.lsl 2 2 0 C0.length),.row false (AM C0),.row false (Cu (EV E k))]) (fun k=>k<=E.length) 0 (Adk _) ?_ ?_
   ·first
    | exact ⟨[some 0,some 1,some 2,none],rfl,by simp,by simp[sA,kZ,SW,AW],by simp[HW,BW,SW,AW,EV,A6,Cu]⟩
   intro k hkk;simp only[Bi,Ac7,Ada];rcases Adi k E.length with hlt | hge
   ·have g:=BM (l:=E.map (·.2)) (k:=k) (by omega);have rkl:=PE E k hkk;have rdl:=Ea (EV E k);have rsu:=NF hlt;have hkm:(E.getD k noE)∈E:=Cs hlt;have hk6:=rec6 hnr _ hkm;obtain ⟨hk1,hk2,hk3,hk4⟩:=o3 _ hkm;have hkd:=GS hlt;rw[<-hkd] at hk6 hk1 hk4;generalize (E.map (·.2)).getD k noN=kid at *;have hpa:=rparts_spec (G:=G) _ kid (Adf _) hk6 hk1 (by omega) [] (by simp;omega);generalize DV kid []=pk at *;obtain ⟨ka,kb,kc,kd⟩:=kid;simp(disch:=(try simp only[Ab]);omega)only[AB,ml,sl,g,ndC,↓Aa,Ac,↓reduceIte,Qu];refine Ad.of hpa (by rfl) ?_;have cge:Cu (EV E (k+1))=Cu (EV E k)++[PtS pk false]:=(by rw[rsu,PG];rfl)
    simp(disch:=(try simp only[Ab]);omega)only[AB,rdl,rkl,↓Aa,Ac,↓reduceIte,Qu];first
    | exact ⟨by simp[cut],k+1,hlt,by simp only;omega,⟨[some 0,some 1,some 2,some 6],rfl,by simp,by simp[sA,kZ,SW,AW],by simp[HW,BW,SW,AW,cge,cut]⟩⟩
    | exact ⟨k+1,hlt,by simp only;omega,⟨[some 0,some 1,some 2,some 6],rfl,by simp,by simp[SW,AW],by simp[HW,BW,SW,AW,cge]⟩⟩
   obtain rfl:k=E.length:=by omega
   rw[PF,<-hR];have rkl:R.length=E.length:=(by rw[hR];exact Li E)
   have rsm:HD R<=4000:=(by rw[hR];exact Afi (Lh E) o2);have rdl:=Ea R;have rmm:∀ q∈R,q.length<=500000:=fun q hq=>by have:=Nr hq;omega
   have rcu:cut (Cu R) 0 E.length=Cu R:=cut_all (by omega);simp(disch:=(try simp only[Ab]);omega)only[AB,rcu,↓Aa,Ac,↓reduceIte,Qu];refine Ad.frozenE (F5 (G:=G) R false false (by omega) (by omega) rmm) (by rw[<-rkl]) ?_;have psl:=Ez false R R.length (Adf _);rw[Adl] at psl;obtain ⟨ps,hps⟩:∃ ps,ps=AD R false:=⟨_,rfl⟩;rw[<-hps] at psl ⊢;simp(disch:=(try simp only[Ab]);omega)only[AB,↓Aa,Ac,↓reduceIte,Qu];have CCl:∀ k,k<=ps.length->(C0++CE R ps k).length=C0.length+k:=fun k hk=>by rw[Adj,Rk R ps k hk]
   refine Ak.fr 1020847100762815390390123822295306733575 (α:=Nat) (fun k=>ps.length-k) (fun k=>[(130,.d (.int .i64 k))]) (fun k=>[.row false (AQ ts),tB jd name (.lsl 2 2 0 (C0.length+k)),.row false (AM (C0++CE R ps k)),.row true (Cu R)]) (fun k=>k<=ps.length) 0 (Adk _) ?_ ?_
   ·first
    | exact ⟨[some 0,some 1,some 2,some 3],rfl,by simp,by simp[sA,kZ,SW,AW],by simp[HW,BW,SW,AW,CE]⟩
   intro k hkk;simp only[Bi,Ac7,Ada];rcases Adi k ps.length with hlt | hge
   ·have gk:=strs_getD hlt;have psn:=@strs_length ps;have hcl:=CCl k hkk;have cdl:=AX (C0++CE R ps k);have csu:=OB R hlt;generalize hpk:ps.getD k []=pk at *;have cge:AM (C0++CE R ps (k+1))=AM (C0++CE R ps k)++[.str (bs pk),.sl E.length false (AE (CF R pk E.length))]:=by
     rw[csu,<-AeJ,Fy (C0++CE R ps k),<-rkl,Rr];simp[AM,UB,KX]
    generalize C0++CE R ps k=CC at *;simp(disch:=(try simp only[Ab]);omega)only[AB,gk,psn,↓Aa,Ac,↓reduceIte,Qu];refine Ak.fr 263718834363727309184115320759620466640903 (α:=Nat) (fun i=>E.length-i) (fun i=>[(138,.d (.int .i64 i))]) (fun i=>[.row false (AQ ts),tB jd name (.lsl 2 2 0 (C0.length+k)),.row false (AM CC),.row true (Cu R),.box [.d (S pk),.lsl 5 2 0 i],.row false (AE (CF R pk i))]) (fun i=>i<=E.length) 0 (Adk _) ?_ ?_
    ·first
     | exact ⟨[some 0,some 1,some 2,some 3,some 4,none],rfl,by simp,by simp[sA,kZ,SW,AW],by simp[HW,BW,SW,AW,CF,AE]⟩
    intro i hii;simp only[Bi,Ac7,Ada];rcases Adi i E.length with hit | hig
    ·have rg:=GI (l:=R) (k:=i) (by omega);have hq:=rmm _ (Cs (d:=([]:List PtR)) (show i<R.length by omega));have cel:=Az (CF R pk i);have ckl:=Jh R pk i (by omega);have csc:=OD pk (show i<R.length by omega);generalize R.getD i []=q at *;have hfi:=F9 (G:=G) q false pk false (by omega);unfold Rp at csc;cases hfo:A0 q pk false with
     | none =>
      rw[hfo] at hfi csc;have hce:=D3 (G:=G) (.mk 1 [] [] []);rw[show AN (.mk 1 [] [] [])=([],true) by simp[AN,Nd.kind]] at hce;have cgi:AE (CF R pk (i+1))=AE (CF R pk i)++[.bool true,.str (bs [])]:=(by rw[csc,CB];rfl)
      simp(disch:=(try simp only[Ab]);omega)only[AB,rdl,rkl,rg,↓Aa,Ac,↓reduceIte,Qu];refine Ad.of hfi (by rfl) ?_;simp(disch:=(try simp only[Ab]);omega)only[AB,JO,noN,ndC,Afe,Afk,↓Aa,Ac,↓reduceIte,Qu];refine Ad.of hce (by rfl) ?_;simp(disch:=(try simp only[Ab]);omega)only[AB,cel,ckl,↓Aa,Ac,↓reduceIte,Qu,Qw,Qz];first
      | exact ⟨by simp[cut],by rfl,i+1,hit,by simp only;omega,⟨[some 0,some 1,some 2,some 3,some 4,some 8],rfl,by simp,by simp[SW,AW],by simp[HW,BW,SW,AW,cgi,cut]⟩⟩
     | some nn =>
      rw[hfo] at hfi csc;simp only at csc;have hce:=D3 (G:=G) nn;generalize hcn:AN nn=cc at *;obtain ⟨ka,kb,kc,kd⟩:=nn;obtain ⟨cc1,cc2⟩:=cc;have cgi:AE (CF R pk (i+1))=AE (CF R pk i)++[.bool cc2,.str (bs cc1)]:=(by rw[csc,CB];rfl)
      simp(disch:=(try simp only[Ab]);omega)only[AB,rdl,rkl,rg,↓Aa,Ac,↓reduceIte,Qu];refine Ad.of hfi (by rfl) ?_;simp(disch:=(try simp only[Ab]);omega)only[AB,JO,ndC,Afe,Afk,↓Aa,Ac,↓reduceIte,Qu];refine Ad.of hce (by rfl) ?_;simp(disch:=(try simp only[Ab]);omega)only[AB,cel,ckl,↓Aa,Ac,↓reduceIte,Qu,Qw,Qz];first
      | exact ⟨by simp[cut],by rfl,i+1,hit,by simp only;omega,⟨[some 0,some 1,some 2,some 3,some 4,some 8],rfl,by simp,by simp[SW,AW],by simp[HW,BW,SW,AW,cgi,cut]⟩⟩
    obtain rfl:i=E.length:=by omega
    have cel:=Az (CF R pk E.length);have ckl:=Jh R pk E.length (by omega);have ccu:cut (AE (CF R pk E.length)) 0 (E.length*2)=AE (CF R pk E.length):=cut_all (by omega);simp(disch:=(try simp only[Ab]);omega)only[AB,cdl,hcl,ccu,↓Aa,Ac,↓reduceIte,Qu,Qw,Qz];first
    | exact ⟨by simp[cut],k+1,hlt,by simp only;omega,⟨[some 0,some 1,some 7,some 3],rfl,by simp,by simp[SW,AW],by simp[HW,BW,SW,AW,cge,cut,Aff]⟩⟩
    | exact ⟨by simp[cut],by rfl,k+1,hlt,by simp only;omega,⟨[some 0,some 1,some 7,some 3],rfl,by simp,by simp[sA,kZ,SW,AW],by simp[HW,BW,SW,AW,cge,cut,Aff]⟩⟩
   obtain rfl:k=ps.length:=by omega
   have hcl:=CCl ps.length (Adf _);have cdl:=AX (C0++CE R ps ps.length);have hct:DS true E jd name=⟨jd,name,C0++CE R ps ps.length⟩:=(by unfold DS Rn;rw[if_neg (by rw[hnr];simp),hC0,Rm,hps,hR])
   generalize C0++CE R ps ps.length=CC at *;have ccu:cut (AM CC) 0 ((C0.length+ps.length)*2)=AM CC:=cut_all (by omega);simp(disch:=(try simp only[Ab]);omega)only[AB,rcu,ccu,tl,↓Aa,Ac,↓reduceIte,Qu,Qw,Qz];refine ⟨by simp[cut],?_⟩;refine Ad.frozenE (F5 (G:=G) R false true (by omega) (by omega) rmm) (by rw[<-rkl]) ?_;have qsl:=Ez true R R.length (Adf _);rw[Adl] at qsl;obtain ⟨T1,hT1⟩:∃ T1,T1=ts++[DS true E jd name]:=⟨_,rfl⟩;have hfin:r=C2 n name id E T1 (AD (A6 E) true).length:=(by rw[hr,if_neg (by rw[hnr];simp),hT1])
   have t1l:T1.length=ts.length+1:=(by rw[hT1];simp);have flk:=Lz n name id E T1 (by omega);have fls:=fun k=>@Dm n name id E T1 k;have ok4:=o4 hnr;rw[<-hR] at hfin flk fls ok4;have fl0:C2 n name id E T1 0=T1:=rfl;have tcd:AQ T1=AQ ts++[.int .i64 jd,D.str (bs name),D.sl (C0.length+ps.length) false (AM CC)]:=by rw[hT1,Lb,hct];simp[AQ,HY,S,hcl]
   skip
   obtain ⟨qs,hqs⟩:∃ qs,qs=AD R true:=⟨_,rfl⟩;rw[<-hqs] at qsl hfin flk fls ok4 ⊢;simp(disch:=(try simp only[Ab]);omega)only[AB,↓Aa,Ac,↓reduceIte,Qu];refine Ak.fr 8979466059761067529443439612208842872766049546141702 (α:=Nat) (fun k=>qs.length-k) (fun k=>[(0,.lsl 1 3 0 (C2 n name id E T1 k).length),(21,.lsl 2 1 0 E.length),(173,.d (.int .i64 k))]) (fun k=>[.dead,.row false (AQ (C2 n name id E T1 k)),.row true (Cu R)]) (fun k=>k<=qs.length) 0 (Adk _) ?_ ?_
   ·rw[fl0];first
    | exact ⟨[some 0,some 5,some 3],rfl,by simp,by simp[sA,kZ,SW,AW,t1l],by simp[HW,BW,tcd,cut]⟩
   intro k hkk;have fk:=flk k hkk;simp only[Bi,Ac7,Ada];rcases Adi k qs.length with hlt | hge
   ·have fks:=fls k hlt;have gk:=strs_getD hlt;have qsn:=@strs_length qs;have okp:=ok4 _ (Cs (d:=([]:List UInt8)) hlt);generalize hpk:qs.getD k []=pk at *;obtain ⟨pk1,okp⟩:=okp;obtain ⟨kz,kn⟩:=Oo okp;generalize hTk:C2 n name id E T1 k=Tk at *;have tkl:=Bq Tk;simp(disch:=(try simp only[Ab]);omega)only[AB,gk,qsn,↓Aa,Ac,↓reduceIte,Qu];refine Ak.fr 2319695398771609111772888566487284408797896136508571655 (α:=Nat) (fun i=>E.length-i) (fun i=>[(33,.lsl 3 4 0 (Cg R pk i).length),(34,F7 4 (Cg R pk i)),(181,.d (.int .i64 i))]) (fun i=>[.dead,.row false (AQ Tk),.row true (Cu R),.row false (AA ((Cg R pk i).map (·.2))),F6 (Cg R pk i)]) (fun i=>i<=E.length) 0 (Adk _) ?_ ?_
    ·first
     | exact ⟨[some 0,some 1,some 2,some 3,some 4],rfl,by simp,by simp[sA,kZ,SW,AW,Hg,F7],by simp[HW,BW,Hg,F6,AA]⟩
    intro i hii;have hkm:=FG R pk E.length hii;simp only[Bi,Ac7,Ada];rcases Adi i E.length with hit | hig
    ·have rg:=GI (l:=R) (k:=i) (by omega);have hq:=rmm _ (Cs (d:=([]:List PtR)) (show i<R.length by omega));have hkm1:=FG R pk E.length (a:=i+1) hit;have hks:=EE R pk i;have hfi:=F9 (G:=G) (R.getD i []) false pk true (by omega);unfold So at hks;generalize R.getD i []=q at *;generalize Cg R pk i=acc at *;unfold JO at hfi;generalize (A0 q pk true).isSome=fb at *;generalize (A0 q pk true).getD noN=nn at *;obtain ⟨ka,kb,kc,kd⟩:=nn;have hkd:(Nd.mk ka kb kc kd).kids=kd:=rfl;rw[hkd] at hks;rw[hks,Adj,Adm] at hkm1;have nkd:=Ay kd;simp(disch:=(try simp only[Ab]);omega)only[AB,rdl,rkl,rg,↓Aa,Ac,↓reduceIte,Qu];refine Ad.of hfi (by rfl) ?_;simp(disch:=(try simp only[Ab]);omega)only[AB,ndC,↓Aa,Ac,↓reduceIte,Qu];rw[<-W2 i kd] at hks;change Cg R pk (i+1)=Gz acc i kd kd.length at hks;refine Ak.fr 37667995098800587969843226121866786399390168041199442591751 (α:=Nat) (fun j=>kd.length-j) (fun j=>[(33,.lsl 3 4 0 (Gz acc i kd j).length),(34,F7 4 (Gz acc i kd j)),(195,.d (.int .i64 j))]) (fun j=>[.dead,.row false (AQ Tk),.row true (Cu R),.row false (AA ((Gz acc i kd j).map (·.2))),F6 (Gz acc i kd j)]) (fun j=>j<=kd.length) 0 (Adk _) ?_ ?_
     ·rw[RH];by_cases ha:acc=[]
      ·subst ha;first
       | exact ⟨[some 0,some 1,some 2,some 3,some 4],rfl,by simp,by simp[sA,kZ,SW,AW,F7],by simp[HW,BW,F6]⟩
      have ra0:=EU 4 ha;have rx0:=ET ha;first
      | exact ⟨[some 0,some 1,some 2,some 3,some 4],rfl,by simp,by simp[sA,kZ,SW,AW,ra0],by simp[HW,BW,rx0]⟩
     intro j hjj;simp only[Bi,Ac7,Ada];rcases Adi j kd.length with hjt | hjg
     ·have g:=BM (l:=kd) (k:=j) hjt;have mks:=RI acc i hjt;have mkl:=UP acc i kd j (by omega);generalize Gz acc i kd j=a1 at *;generalize kd.getD j noN=kid at *;have ra:=Pz 4 a1 ((i:Int),kid);have rx:=Py a1 ((i:Int),kid);have rn:AA ((a1++[((i:Int),kid)]).map (·.2))=AA (a1.map (·.2))++ndC kid:=(by rw[Ado,EZ];simp[AA])
      have anl:=Ay (a1.map (·.2));rw[Adm] at anl;have anl2:=@ints_length .i64 (a1.map (·.1));rw[Adm] at anl2;rw[<-mks] at ra rx rn;have mkl1:(Gz acc i kd (j+1)).length=a1.length+1:=(by rw[mks];simp)
      obtain ⟨kka,kkb,kkc,kkd⟩:=kid;by_cases ha:a1=[]
      ·subst ha;simp(disch:=(try simp only[Ab]);omega)only[AB,g,ndC,nkd,IZ,IY,↓Aa,Ac,↓reduceIte,Qu,Qw,Qz];first
       | exact ⟨by simp[cut],by simp[AA],j+1,hjt,by simp only;omega,⟨[some 0,some 1,some 2,some 7,some 9],rfl,by simp,by simp only[ra,mkl1];simp[SW,AW],by simp only[rx,rn];simp[HW,BW,cut,ndC,AA,AF]⟩⟩
       | exact ⟨by simp[cut],j+1,hjt,by simp only;omega,⟨[some 0,some 1,some 2,some 7,some 9],rfl,by simp,by simp only[ra,mkl1];simp[sA,kZ,SW,AW],by simp only[rx,rn];simp[HW,BW,SW,AW,cut,ndC,AA,AF]⟩⟩
      have ra0:=EU 4 ha;have rx0:=ET ha;simp(disch:=(try simp only[Ab]);omega)only[AB,g,ndC,nkd,ra0,rx0,anl,anl2,↓Aa,Ac,↓reduceIte,Qu,Qw,Qz];first
      | exact ⟨by simp[cut],by simp[AA],j+1,hjt,by simp only;omega,⟨[some 0,some 1,some 2,some 7,some 9],rfl,by simp,by simp only[ra,mkl1];simp[sA,kZ,SW,AW],by simp only[rx,rn];simp[HW,BW,SW,AW,cut,ndC]⟩⟩
      | exact ⟨by simp[cut],j+1,hjt,by simp only;omega,⟨[some 0,some 1,some 2,some 7,some 9],rfl,by simp,by simp only[ra,mkl1];simp[SW,AW],by simp only[rx,rn];simp[HW,BW,cut,ndC]⟩⟩
     obtain rfl:j=kd.length:=by omega
     rw[<-hks];simp(disch:=(try simp only[Ab]);omega)only[AB,↓Aa,Ac,Qu];by_cases ha:Cg R pk (i+1)=[]
     ·rw[ha];first
      | exact ⟨i+1,hit,by simp only;omega,⟨[some 0,some 1,some 2,some 3,some 4],rfl,by simp,by simp[SW,AW,ha,F7],by simp[HW,BW,ha,F6]⟩⟩
     have ra0:=EU 4 ha;have rx0:=ET ha;first
     | exact ⟨i+1,hit,by simp only;omega,⟨[some 0,some 1,some 2,some 3,some 4],rfl,by simp,by simp[SW,AW,ra0],by simp[HW,BW,rx0]⟩⟩
    obtain rfl:i=E.length:=by omega
    generalize Cg R pk E.length=KK at *;have anl:=Ay (KK.map (·.2));rw[Adm] at anl;have anl2:=@ints_length .i64 (KK.map (·.1));rw[Adm] at anl2;by_cases hK:KK=[]
    ·subst hK;simp(disch:=(try simp only[Ab]);omega)only[Af,AB,IZ,IY,Mn,↓Aa,Ac,Qu];refine Aq.list false [1] (by simp) ?_;unfold Hq;simp(disch:=(try simp only[Ab]);omega)only[AB,↓Aa,Ac,↓reduceIte,Qu,QK];have okp2:Gv n ([]:List Elm) (name++[46]++pk).length:=by
      have e2:(name++[46]++pk).length=name.length+1+pk.length:=(by simp only[Adj,Ae6,AeT]);rw[e2];exact okp
     by_cases hT:1024<Tk.length
     ·rw[Hj okp hT] at fks;have hc:=G6 (G:=G) ([]:List Elm) Tk (name++[46]++pk) id false hT (by omega) (L0 ([]:List Elm))
      skip
      refine ⟨_,_,[],hc,by simp,.inl rfl,?_⟩;simp(disch:=(try simp only[Ab]);omega)only[outW,outN,renA,renB,dropW,AeK,Ae7,Ac,↓reduceIte,Qu];first
      | exact ⟨k+1,hlt,by simp only;omega,⟨[some 0,some 1,some 2],rfl,by simp,by simp[SW,AW,fks],by simp[HW,BW,fks]⟩⟩
      | exact ⟨by rfl,k+1,hlt,by simp only;omega,⟨[some 0,some 1,some 2],rfl,by simp,by simp[sA,kZ,SW,AW,fks],by simp[HW,BW,SW,AW,fks]⟩⟩
     have hc:=IH ([]:List Elm) Tk (name++[46]++pk) id false okp2 (by omega) i1 i2;rw[<-fks] at hc
     skip
     refine ⟨_,_,[],hc,by simp,.inl rfl,?_⟩;simp(disch:=(try simp only[Ab]);omega)only[outW,outN,renA,renB,dropW,AeK,Ae7,Ac,↓reduceIte,Qu,Qv];first
     | exact ⟨k+1,hlt,by simp only;omega,⟨[some 0,some 5,some 2],rfl,by simp,by simp[SW,AW],by simp[HW,BW]⟩⟩
     | exact ⟨by rfl,k+1,hlt,by simp only;omega,⟨[some 0,some 5,some 2],rfl,by simp,by simp[sA,kZ,SW,AW],by simp[HW,BW,SW,AW]⟩⟩
    have ra0:=EU 4 hK;have rx0:=ET hK;simp(disch:=(try simp only[Ab]);omega)only[Af,AB,ra0,rx0,Mn,↓Aa,Ac,Qu];refine Aq.list false [1] (by simp) ?_;unfold Hq;have cuk:cut (AA (KK.map (·.2))) 0 (KK.length*4)=AA (KK.map (·.2)):=cut_all (by omega);have tki:Afw KK.length (KK.map (·.1))=KK.map (·.1):=AeL (by simp);simp(disch:=(try simp only[Ab]);omega)only[AB,cuk,tki,↓Aa,Ac,↓reduceIte,Qu,QK];have okp2:Gv n KK (name++[46]++pk).length:=(by have e2:(name++[46]++pk).length=name.length+1+pk.length:=(by simp only[Adj,Ae6,AeT]);rw[e2];exact okp)
    by_cases hT:1024<Tk.length
    ·rw[Hj okp hT] at fks;have hc:=G6 (G:=G) KK Tk (name++[46]++pk) id false hT (by omega) (L0 KK);rw[Ie hK] at hc;unfold NdS at hc;rw[Adm] at hc;refine ⟨_,_,[],hc,by simp,.inl rfl,?_⟩;simp(disch:=(try simp only[Ab]);omega)only[outW,outN,renA,renB,dropW,AeK,Ae7,Ac,↓reduceIte,Qu];first
     | exact ⟨k+1,hlt,by simp only;omega,⟨[some 0,some 1,some 2],rfl,by simp,by simp[SW,AW,fks],by simp[HW,BW,fks]⟩⟩
     | exact ⟨by rfl,k+1,hlt,by simp only;omega,⟨[some 0,some 1,some 2],rfl,by simp,by simp[sA,kZ,SW,AW,fks],by simp[HW,BW,SW,AW,fks]⟩⟩
    have hc:=IH KK Tk (name++[46]++pk) id false okp2 (by omega) i1 i2;rw[<-fks] at hc;rw[Ie hK] at hc;unfold NdS at hc;rw[Adm] at hc;refine ⟨_,_,[],hc,by simp,.inl rfl,?_⟩;simp(disch:=(try simp only[Ab]);omega)only[outW,outN,renA,renB,dropW,AeK,Ae7,Ac,↓reduceIte,Qu,Qv];first
    | exact ⟨k+1,hlt,by simp only;omega,⟨[some 0,some 5,some 2],rfl,by simp,by simp[SW,AW],by simp[HW,BW]⟩⟩
    | exact ⟨by rfl,k+1,hlt,by simp only;omega,⟨[some 0,some 5,some 2],rfl,by simp,by simp[sA,kZ,SW,AW],by simp[HW,BW,SW,AW]⟩⟩
   obtain rfl:k=qs.length:=by omega
   rw[<-hfin] at fk ⊢;have tkl:=Bq r;have ccu:cut (AQ r) 0 (r.length*3)=AQ r:=cut_all (by omega);simp(disch:=(try simp only[Ab]);omega)only[AB,↓Aa,Ac,Qu];first | exact ⟨[some 0,some 1],rfl,by simp,by simp[HW,BW],.inl (by simp[AW])⟩
def XO (n:Nat) (IH:S4 G n) (E:List Elm) (name:List UInt8) (id:Int) (full:Bool) (hok:Gv (n+1) E name.length) (i1:-1000000000000<=id) (i2:id<=1000000000000) :
  Ctr TP G 34 [.d (.val (.slice none 0 0)),.d (S name),.d (.int .i64 id),.d (NdS (E.map (·.2)) full),.d (.val (.slice none 0 0))] [] (.d (Mm (Dd (n+1) [] name id false E) false)) []:=by
 obtain ⟨ts,hts⟩:∃ ts:List Tab,ts=[]:=⟨_,rfl⟩;rw[<-hts];obtain ⟨r,hr⟩:∃ r,r=Dd (n+1) ts name id false E:=⟨_,rfl⟩;rw[<-hr];rw[Eh,if_neg (by rw[hts];simp)] at hr;obtain ⟨o1,o2,o3,o4⟩:=hok;have el:=Ei E;have tl:=Bq ts;have sl:=Ay (E.map (·.2));have ml:(E.map (·.2)).length=E.length:=by simp
 obtain ⟨jd,hj0⟩:∃ jd,id+(ts.length:Int)=jd:=⟨_,rfl⟩;rw[hj0] at hr;have hj:id+(0:Int)=jd:=by rw[<-hj0,hts];rfl
 obtain ⟨C0,hC0⟩:∃ C0,C0=Yr false E:=⟨_,rfl⟩;have hc1:C0.length<=1:=by rw[hC0];exact UC _ _
 have hC:C0=[]:=hC0;refine Ctr.pure (M:=MR7) Am Tryz.func34 rfl AcK ?_;simp(disch:=(try simp only[Ab]);omega)only[AB,ml,hj,Tryz.f34,↓Aa,Ac,↓reduceIte,Qu,Qv];refine Ak.fr 113336795588871485130767 (α:=Nat) (fun k=>E.length-k) (fun k=>[(15,.d (.bool (OQ E k))),(77,.d (.int .i64 k))]) (fun k=>[tB jd name (.lsl 1 2 0 C0.length),.row false (AM C0)]) (fun k=>k<=E.length) 0 (Adk _) ?_ ?_
 ·first
  | exact ⟨[some 0,none],rfl,by simp,by simp[sA,kZ,SW,AW,LK],by simp[HW,BW,SW,AW,hC,AM]⟩
 intro k hkk;simp only[Bi,Ac7,Ada];rcases Adi k E.length with hlt | hge
 ·have g:=BM (l:=E.map (·.2)) (k:=k) (by omega);have hsu:=RA hlt;generalize (E.map (·.2)).getD k noN=kid at *;generalize OQ E k=bk at *;obtain ⟨ka,kb,kc,kd⟩:=kid;have hnr:Ca (.mk ka kb kc kd)=decide (¬ka=6):=rfl;rw[hnr] at hsu;by_cases c6:ka=6
  ·subst c6;cases bk
   ·simp(disch:=(try simp only[Ab]);omega)only[AB,ml,sl,g,ndC,↓Aa,Ac,↓reduceIte,Qu];first
    | exact ⟨k+1,hlt,by simp only;omega,⟨[some 0,some 1],rfl,by simp,by simp[SW,AW,hsu],by simp[HW,BW,SW,AW]⟩⟩
   simp(disch:=(try simp only[Ab]);omega)only[AB,ml,sl,g,ndC,↓Aa,Ac,↓reduceIte,Qu];first
   | exact ⟨k+1,hlt,by simp only;omega,⟨[some 0,some 1],rfl,by simp,by simp[SW,AW,hsu],by simp[HW,BW,SW,AW]⟩⟩
  cases bk
  ·simp(disch:=(try simp only[Ab]);omega)only[AB,ml,sl,g,ndC,↓Aa,Ac,↓reduceIte,Qu];first
   | exact ⟨k+1,hlt,by simp only;omega,⟨[some 0,some 1],rfl,by simp,by simp[SW,AW,hsu,c6],by simp[HW,BW,SW,AW]⟩⟩
  simp(disch:=(try simp only[Ab]);omega)only[AB,ml,sl,g,ndC,c6,↓Aa,Ac,↓reduceIte,Qu];first
  | exact ⟨k+1,hlt,by simp only;omega,⟨[some 0,some 1],rfl,by simp,by simp[SW,AW,hsu,c6],by simp[HW,BW,SW,AW]⟩⟩
 obtain rfl:k=E.length:=by omega
 have hal:=UL E;have c0l:=AX C0;cases hnr:E.any A4 with
 | true =>
  rw[hnr] at hal;have hfin:r=ts++[⟨jd,name,C0++[⟨CY,E.map fun e=>AN e.2⟩]⟩]:=by rw[hr,if_pos hnr];unfold DS Rn;rw[if_pos hnr,hC0]
  simp(disch:=(try simp only[Ab]);omega)only[AB,ml,hal,↓Aa,Ac,↓reduceIte,Qu];refine Ak.fr 7427640235712281649395009537 (α:=Nat) (fun k=>E.length-k) (fun k=>[(93,.d (.int .i64 k))]) (fun k=>[tB jd name (.lsl 1 2 0 C0.length),.row false (AM C0),.box [.d (.str {data:=#[118,97,108,117,101]}),.lsl 3 2 0 k],.row false (AE (DC E k))]) (fun k=>k<=E.length) 0 (Adk _) ?_ ?_
  ·first
   | exact ⟨[some 0,some 1,some 2,none],rfl,by simp,by simp[sA,kZ,SW,AW],by simp[HW,BW,SW,AW,DC,AE]⟩
  intro k hkk;simp only[Bi,Ac7,Ada];rcases Adi k E.length with hlt | hge
  ·have g:=BM (l:=E.map (·.2)) (k:=k) (by omega);have ck:=IL E k hkk;have cdl:=Az (DC E k);have csu:=Nh hlt;generalize (E.map (·.2)).getD k noN=kid at *;have hce:=D3 (G:=G) kid;generalize hcn:AN kid=cc at *;obtain ⟨ka,kb,kc,kd⟩:=kid;obtain ⟨cc1,cc2⟩:=cc;simp(disch:=(try simp only[Ab]);omega)only[AB,ml,sl,g,ndC,↓Aa,Ac,↓reduceIte,Qu];refine Ad.of hce (by rfl) ?_;simp(disch:=(try simp only[Ab]);omega)only[AB,cdl,ck,↓Aa,Ac,↓reduceIte,Qu,Qw,Qz];have cge:AE (DC E (k+1))=AE (DC E k)++[.bool cc2,.str (bs cc1)]:=(by rw[csu,CB];rfl)
   first
   | exact ⟨by simp[cut],by rfl,k+1,hlt,by simp only;omega,⟨[some 0,some 1,some 2,some 6],rfl,by simp,by simp[SW,AW],by simp[HW,BW,SW,AW,cge,cut]⟩⟩
  obtain rfl:k=E.length:=by omega
  have ck:=IL E E.length (Adf _);have cdl:=Az (DC E E.length);have cva:=Ph E;have ccu:cut (AE (DC E E.length)) 0 (E.length*2)=AE (E.map fun e=>AN e.2):=by rw[cva];exact cut_all (by rw[Az];simp;omega)
  simp(disch:=(try simp only[Ab]);omega)only[AB,c0l,ccu,↓Aa,Ac,↓reduceIte,↓Qe,Qu,Qw,Qz];have hcd:AM (C0++[⟨CY,E.map fun e=>AN e.2⟩])=AM C0++[D.str {data:=#[118,97,108,117,101]},D.sl E.length false (AE (Afo (fun e=>AN e.snd) E))]:=by rw[Fy];simp[AM,KX,CY,S,bs]
  subst hfin;rw[hts];refine ⟨by simp[cut],by simp[cut],?_⟩;simp[cut,AQ,HY,hcd,S];exact AeL (by simp[c0l];omega)
 | false =>
  rw[hnr] at hal;obtain ⟨R,hR⟩:∃ R,R=A6 E:=⟨_,rfl⟩;simp(disch:=(try simp only[Ab]);omega)only[AB,ml,hal,↓Aa,Ac,Qu];refine Ak.fr 124615124604835863084731911901284359 (α:=Nat) (fun k=>E.length-k) (fun k=>[(21,.lsl 2 1 0 k),(117,.d (.int .i64 k))]) (fun k=>[tB jd name (.lsl 1 2 0 C0.length),.row false (AM C0),.row false (Cu (EV E k))]) (fun k=>k<=E.length) 0 (Adk _) ?_ ?_
  ·first
   | exact ⟨[some 0,some 1,none],rfl,by simp,by simp[sA,kZ,SW,AW],by simp[HW,BW,SW,AW,EV,A6,Cu]⟩
  intro k hkk;simp only[Bi,Ac7,Ada];rcases Adi k E.length with hlt | hge
  ·have g:=BM (l:=E.map (·.2)) (k:=k) (by omega);have rkl:=PE E k hkk;have rdl:=Ea (EV E k);have rsu:=NF hlt;have hkm:(E.getD k noE)∈E:=Cs hlt;have hk6:=rec6 hnr _ hkm;obtain ⟨hk1,hk2,hk3,hk4⟩:=o3 _ hkm;have hkd:=GS hlt;rw[<-hkd] at hk6 hk1 hk4;generalize (E.map (·.2)).getD k noN=kid at *;have hpa:=rparts_spec (G:=G) _ kid (Adf _) hk6 hk1 (by omega) [] (by simp;omega);generalize DV kid []=pk at *;obtain ⟨ka,kb,kc,kd⟩:=kid;simp(disch:=(try simp only[Ab]);omega)only[AB,ml,sl,g,ndC,↓Aa,Ac,↓reduceIte,Qu];refine Ad.of hpa (by rfl) ?_;have cge:Cu (EV E (k+1))=Cu (EV E k)++[PtS pk false]:=(by rw[rsu,PG];rfl)
   simp(disch:=(try simp only[Ab]);omega)only[AB,rdl,rkl,↓Aa,Ac,↓reduceIte,Qu];first
   | exact ⟨by simp[cut],k+1,hlt,by simp only;omega,⟨[some 0,some 1,some 5],rfl,by simp,by simp[sA,kZ,SW,AW],by simp[HW,BW,SW,AW,cge,cut]⟩⟩
   | exact ⟨k+1,hlt,by simp only;omega,⟨[some 0,some 1,some 5],rfl,by simp,by simp[SW,AW],by simp[HW,BW,SW,AW,cge]⟩⟩
  obtain rfl:k=E.length:=by omega
  rw[PF,<-hR];have rkl:R.length=E.length:=by rw[hR];exact Li E
  have rsm:HD R<=4000:=by rw[hR];exact Afi (Lh E) o2
  have rdl:=Ea R;have rmm:∀ q∈R,q.length<=500000:=fun q hq=>by have:=Nr hq;omega
  have rcu:cut (Cu R) 0 E.length=Cu R:=cut_all (by omega);simp(disch:=(try simp only[Ab]);omega)only[AB,rcu,↓Aa,Ac,↓reduceIte,Qu];refine Ad.frozenE (F5 (G:=G) R false false (by omega) (by omega) rmm) (by rw[<-rkl]) ?_;have psl:=Ez false R R.length (Adf _);rw[Adl] at psl;obtain ⟨ps,hps⟩:∃ ps,ps=AD R false:=⟨_,rfl⟩;rw[<-hps] at psl ⊢;simp(disch:=(try simp only[Ab]);omega)only[AB,↓Aa,Ac,↓reduceIte,Qu];have CCl:∀ k,k<=ps.length->(C0++CE R ps k).length=C0.length+k:=fun k hk=>by rw[Adj,Rk R ps k hk]
  refine Ak.fr 1020847100762815390390123822295306733575 (α:=Nat) (fun k=>ps.length-k) (fun k=>[(130,.d (.int .i64 k))]) (fun k=>[tB jd name (.lsl 1 2 0 (C0.length+k)),.row false (AM (C0++CE R ps k)),.row true (Cu R)]) (fun k=>k<=ps.length) 0 (Adk _) ?_ ?_
  ·first
   | exact ⟨[some 0,some 1,some 2],rfl,by simp,by simp[sA,kZ,SW,AW],by simp[HW,BW,SW,AW,CE]⟩
  intro k hkk;simp only[Bi,Ac7,Ada];rcases Adi k ps.length with hlt | hge
  ·have gk:=strs_getD hlt;have psn:=@strs_length ps;have hcl:=CCl k hkk;have cdl:=AX (C0++CE R ps k);have csu:=OB R hlt;generalize hpk:ps.getD k []=pk at *;have cge:AM (C0++CE R ps (k+1))=AM (C0++CE R ps k)++[.str (bs pk),.sl E.length false (AE (CF R pk E.length))]:=by
    rw[csu,<-AeJ,Fy (C0++CE R ps k),<-rkl,Rr];simp[AM,UB,KX]
   generalize C0++CE R ps k=CC at *;simp(disch:=(try simp only[Ab]);omega)only[AB,gk,psn,↓Aa,Ac,↓reduceIte,Qu];refine Ak.fr 263718834363727309184115320759620466640903 (α:=Nat) (fun i=>E.length-i) (fun i=>[(138,.d (.int .i64 i))]) (fun i=>[tB jd name (.lsl 1 2 0 (C0.length+k)),.row false (AM CC),.row true (Cu R),.box [.d (S pk),.lsl 4 2 0 i],.row false (AE (CF R pk i))]) (fun i=>i<=E.length) 0 (Adk _) ?_ ?_
   ·first
    | exact ⟨[some 0,some 1,some 2,some 3,none],rfl,by simp,by simp[sA,kZ,SW,AW],by simp[HW,BW,SW,AW,CF,AE]⟩
   intro i hii;simp only[Bi,Ac7,Ada];rcases Adi i E.length with hit | hig
   ·have rg:=GI (l:=R) (k:=i) (by omega);have hq:=rmm _ (Cs (d:=([]:List PtR)) (show i<R.length by omega));have cel:=Az (CF R pk i);have ckl:=Jh R pk i (by omega);have csc:=OD pk (show i<R.length by omega);generalize R.getD i []=q at *;have hfi:=F9 (G:=G) q false pk false (by omega);unfold Rp at csc;cases hfo:A0 q pk false with
    | none =>
     rw[hfo] at hfi csc;have hce:=D3 (G:=G) (.mk 1 [] [] []);rw[show AN (.mk 1 [] [] [])=([],true) by simp[AN,Nd.kind]] at hce;have cgi:AE (CF R pk (i+1))=AE (CF R pk i)++[.bool true,.str (bs [])]:=(by rw[csc,CB];rfl)
     simp(disch:=(try simp only[Ab]);omega)only[AB,rdl,rkl,rg,↓Aa,Ac,↓reduceIte,Qu];refine Ad.of hfi (by rfl) ?_;simp(disch:=(try simp only[Ab]);omega)only[AB,JO,noN,ndC,Afe,Afk,↓Aa,Ac,↓reduceIte,Qu];refine Ad.of hce (by rfl) ?_;simp(disch:=(try simp only[Ab]);omega)only[AB,cel,ckl,↓Aa,Ac,↓reduceIte,Qu,Qw,Qz];first
     | exact ⟨by simp[cut],by rfl,i+1,hit,by simp only;omega,⟨[some 0,some 1,some 2,some 3,some 7],rfl,by simp,by simp[SW,AW],by simp[HW,BW,SW,AW,cgi,cut]⟩⟩
    | some nn =>
     rw[hfo] at hfi csc;simp only at csc;have hce:=D3 (G:=G) nn;generalize hcn:AN nn=cc at *;obtain ⟨ka,kb,kc,kd⟩:=nn;obtain ⟨cc1,cc2⟩:=cc;have cgi:AE (CF R pk (i+1))=AE (CF R pk i)++[.bool cc2,.str (bs cc1)]:=(by rw[csc,CB];rfl)
     simp(disch:=(try simp only[Ab]);omega)only[AB,rdl,rkl,rg,↓Aa,Ac,↓reduceIte,Qu];refine Ad.of hfi (by rfl) ?_;simp(disch:=(try simp only[Ab]);omega)only[AB,JO,ndC,Afe,Afk,↓Aa,Ac,↓reduceIte,Qu];refine Ad.of hce (by rfl) ?_;simp(disch:=(try simp only[Ab]);omega)only[AB,cel,ckl,↓Aa,Ac,↓reduceIte,Qu,Qw,Qz];first
     | exact ⟨by simp[cut],by rfl,i+1,hit,by simp only;omega,⟨[some 0,some 1,some 2,some 3,some 7],rfl,by simp,by simp[SW,AW],by simp[HW,BW,SW,AW,cgi,cut]⟩⟩
   obtain rfl:i=E.length:=by omega
   have cel:=Az (CF R pk E.length);have ckl:=Jh R pk E.length (by omega);have ccu:cut (AE (CF R pk E.length)) 0 (E.length*2)=AE (CF R pk E.length):=cut_all (by omega);simp(disch:=(try simp only[Ab]);omega)only[AB,cdl,hcl,ccu,↓Aa,Ac,↓reduceIte,Qu,Qw,Qz];first
   | exact ⟨by simp[cut],k+1,hlt,by simp only;omega,⟨[some 0,some 6,some 2],rfl,by simp,by simp[SW,AW],by simp[HW,BW,SW,AW,cge,cut,Aff]⟩⟩
   | exact ⟨by simp[cut],by rfl,k+1,hlt,by simp only;omega,⟨[some 0,some 6,some 2],rfl,by simp,by simp[sA,kZ,SW,AW],by simp[HW,BW,SW,AW,cge,cut,Aff]⟩⟩
  obtain rfl:k=ps.length:=by omega
  have hcl:=CCl ps.length (Adf _);have cdl:=AX (C0++CE R ps ps.length);have hct:DS false E jd name=⟨jd,name,C0++CE R ps ps.length⟩:=by unfold DS Rn;rw[if_neg (by rw[hnr];simp),hC0,Rm,hps,hR]
  generalize C0++CE R ps ps.length=CC at *;have ccu:cut (AM CC) 0 ((C0.length+ps.length)*2)=AM CC:=cut_all (by omega);simp(disch:=(try simp only[Ab]);omega)only[AB,rcu,ccu,↓Aa,Ac,↓reduceIte,Qu,Qw,Qz];refine ⟨by simp[cut],?_⟩;refine Ad.frozenE (F5 (G:=G) R false true (by omega) (by omega) rmm) (by rw[<-rkl]) ?_;have qsl:=Ez true R R.length (Adf _);rw[Adl] at qsl;obtain ⟨T1,hT1⟩:∃ T1,T1=ts++[DS false E jd name]:=⟨_,rfl⟩;have hfin:r=C2 n name id E T1 (AD (A6 E) true).length:=by rw[hr,if_neg (by rw[hnr];simp),hT1]
  have t1l:T1.length=ts.length+1:=by rw[hT1];simp
  have flk:=Lz n name id E T1 (by omega);have fls:=fun k=>@Dm n name id E T1 k;have ok4:=o4 hnr;rw[<-hR] at hfin flk fls ok4;have fl0:C2 n name id E T1 0=T1:=rfl;have tcd:AQ T1=AQ ts++[.int .i64 jd,D.str (bs name),D.sl (C0.length+ps.length) false (AM CC)]:=by rw[hT1,Lb,hct];simp[AQ,HY,S,hcl]
  rw[hts] at tcd t1l;simp only[AQ,List.flatMap_nil,Afr,AeT] at tcd t1l;change AQ T1=_ at tcd;obtain ⟨qs,hqs⟩:∃ qs,qs=AD R true:=⟨_,rfl⟩;rw[<-hqs] at qsl hfin flk fls ok4 ⊢;simp(disch:=(try simp only[Ab]);omega)only[AB,↓Aa,Ac,↓reduceIte,Qu];refine Ak.fr 8979466059761067529443439612208842872766049546141702 (α:=Nat) (fun k=>qs.length-k) (fun k=>[(0,.lsl 0 3 0 (C2 n name id E T1 k).length),(21,.lsl 1 1 0 E.length),(173,.d (.int .i64 k))]) (fun k=>[.row false (AQ (C2 n name id E T1 k)),.row true (Cu R)]) (fun k=>k<=qs.length) 0 (Adk _) ?_ ?_
  ·rw[fl0];first
   | exact ⟨[some 4,some 2],rfl,by simp,by simp[sA,kZ,SW,AW,t1l],by simp[HW,BW,tcd,cut]⟩
  intro k hkk;have fk:=flk k hkk;simp only[Bi,Ac7,Ada];rcases Adi k qs.length with hlt | hge
  ·have fks:=fls k hlt;have gk:=strs_getD hlt;have qsn:=@strs_length qs;have okp:=ok4 _ (Cs (d:=([]:List UInt8)) hlt);generalize hpk:qs.getD k []=pk at *;obtain ⟨pk1,okp⟩:=okp;obtain ⟨kz,kn⟩:=Oo okp;generalize hTk:C2 n name id E T1 k=Tk at *;have tkl:=Bq Tk;simp(disch:=(try simp only[Ab]);omega)only[AB,gk,qsn,↓Aa,Ac,↓reduceIte,Qu];refine Ak.fr 2319695398771609111772888566487284408797896136508571655 (α:=Nat) (fun i=>E.length-i) (fun i=>[(33,.lsl 2 4 0 (Cg R pk i).length),(34,F7 3 (Cg R pk i)),(181,.d (.int .i64 i))]) (fun i=>[.row false (AQ Tk),.row true (Cu R),.row false (AA ((Cg R pk i).map (·.2))),F6 (Cg R pk i)]) (fun i=>i<=E.length) 0 (Adk _) ?_ ?_
   ·first
    | exact ⟨[some 0,some 1,some 2,some 3],rfl,by simp,by simp[sA,kZ,SW,AW,Hg,F7],by simp[HW,BW,Hg,F6,AA]⟩
   intro i hii;have hkm:=FG R pk E.length hii;simp only[Bi,Ac7,Ada];rcases Adi i E.length with hit | hig
   ·have rg:=GI (l:=R) (k:=i) (by omega);have hq:=rmm _ (Cs (d:=([]:List PtR)) (show i<R.length by omega));have hkm1:=FG R pk E.length (a:=i+1) hit;have hks:=EE R pk i;have hfi:=F9 (G:=G) (R.getD i []) false pk true (by omega);unfold So at hks;generalize R.getD i []=q at *;generalize Cg R pk i=acc at *;unfold JO at hfi;generalize (A0 q pk true).isSome=fb at *;generalize (A0 q pk true).getD noN=nn at *;obtain ⟨ka,kb,kc,kd⟩:=nn;have hkd:(Nd.mk ka kb kc kd).kids=kd:=rfl;rw[hkd] at hks;rw[hks,Adj,Adm] at hkm1;have nkd:=Ay kd;simp(disch:=(try simp only[Ab]);omega)only[AB,rdl,rkl,rg,↓Aa,Ac,↓reduceIte,Qu];refine Ad.of hfi (by rfl) ?_;simp(disch:=(try simp only[Ab]);omega)only[AB,ndC,↓Aa,Ac,↓reduceIte,Qu];rw[<-W2 i kd] at hks;change Cg R pk (i+1)=Gz acc i kd kd.length at hks;refine Ak.fr 37667995098800587969843226121866786399390168041199442591751 (α:=Nat) (fun j=>kd.length-j) (fun j=>[(33,.lsl 2 4 0 (Gz acc i kd j).length),(34,F7 3 (Gz acc i kd j)),(195,.d (.int .i64 j))]) (fun j=>[.row false (AQ Tk),.row true (Cu R),.row false (AA ((Gz acc i kd j).map (·.2))),F6 (Gz acc i kd j)]) (fun j=>j<=kd.length) 0 (Adk _) ?_ ?_
    ·rw[RH];by_cases ha:acc=[]
     ·subst ha;first
      | exact ⟨[some 0,some 1,some 2,some 3],rfl,by simp,by simp[sA,kZ,SW,AW,F7],by simp[HW,BW,F6]⟩
     have ra0:=EU 3 ha;have rx0:=ET ha;first
     | exact ⟨[some 0,some 1,some 2,some 3],rfl,by simp,by simp[sA,kZ,SW,AW,ra0],by simp[HW,BW,rx0]⟩
    intro j hjj;simp only[Bi,Ac7,Ada];rcases Adi j kd.length with hjt | hjg
    ·have g:=BM (l:=kd) (k:=j) hjt;have mks:=RI acc i hjt;have mkl:=UP acc i kd j (by omega);generalize Gz acc i kd j=a1 at *;generalize kd.getD j noN=kid at *;have ra:=Pz 3 a1 ((i:Int),kid);have rx:=Py a1 ((i:Int),kid);have rn:AA ((a1++[((i:Int),kid)]).map (·.2))=AA (a1.map (·.2))++ndC kid:=(by rw[Ado,EZ];simp[AA])
     have anl:=Ay (a1.map (·.2));rw[Adm] at anl;have anl2:=@ints_length .i64 (a1.map (·.1));rw[Adm] at anl2;rw[<-mks] at ra rx rn;have mkl1:(Gz acc i kd (j+1)).length=a1.length+1:=(by rw[mks];simp)
     obtain ⟨kka,kkb,kkc,kkd⟩:=kid;by_cases ha:a1=[]
     ·subst ha;simp(disch:=(try simp only[Ab]);omega)only[AB,g,ndC,nkd,IZ,IY,↓Aa,Ac,↓reduceIte,Qu,Qw,Qz];first
      | exact ⟨by simp[cut],by simp[AA],j+1,hjt,by simp only;omega,⟨[some 0,some 1,some 6,some 8],rfl,by simp,by simp only[ra,mkl1];simp[SW,AW],by simp only[rx,rn];simp[HW,BW,cut,ndC,AA,AF]⟩⟩
      | exact ⟨by simp[cut],j+1,hjt,by simp only;omega,⟨[some 0,some 1,some 6,some 8],rfl,by simp,by simp only[ra,mkl1];simp[sA,kZ,SW,AW],by simp only[rx,rn];simp[HW,BW,SW,AW,cut,ndC,AA,AF]⟩⟩
     have ra0:=EU 3 ha;have rx0:=ET ha;simp(disch:=(try simp only[Ab]);omega)only[AB,g,ndC,nkd,ra0,rx0,anl,anl2,↓Aa,Ac,↓reduceIte,Qu,Qw,Qz];first
     | exact ⟨by simp[cut],by simp[AA],j+1,hjt,by simp only;omega,⟨[some 0,some 1,some 6,some 8],rfl,by simp,by simp only[ra,mkl1];simp[sA,kZ,SW,AW],by simp only[rx,rn];simp[HW,BW,SW,AW,cut,ndC]⟩⟩
     | exact ⟨by simp[cut],j+1,hjt,by simp only;omega,⟨[some 0,some 1,some 6,some 8],rfl,by simp,by simp only[ra,mkl1];simp[SW,AW],by simp only[rx,rn];simp[HW,BW,cut,ndC]⟩⟩
    obtain rfl:j=kd.length:=by omega
    rw[<-hks];simp(disch:=(try simp only[Ab]);omega)only[AB,↓Aa,Ac,Qu];by_cases ha:Cg R pk (i+1)=[]
    ·rw[ha];first
     | exact ⟨i+1,hit,by simp only;omega,⟨[some 0,some 1,some 2,some 3],rfl,by simp,by simp[SW,AW,ha,F7],by simp[HW,BW,ha,F6]⟩⟩
    have ra0:=EU 3 ha;have rx0:=ET ha;first
    | exact ⟨i+1,hit,by simp only;omega,⟨[some 0,some 1,some 2,some 3],rfl,by simp,by simp[SW,AW,ra0],by simp[HW,BW,rx0]⟩⟩
   obtain rfl:i=E.length:=by omega
   generalize Cg R pk E.length=KK at *;have anl:=Ay (KK.map (·.2));rw[Adm] at anl;have anl2:=@ints_length .i64 (KK.map (·.1));rw[Adm] at anl2;by_cases hK:KK=[]
   ·subst hK;simp(disch:=(try simp only[Ab]);omega)only[Af,AB,IZ,IY,Mn,↓Aa,Ac,Qu];refine Aq.list false [0] (by simp) ?_;unfold Hq;simp(disch:=(try simp only[Ab]);omega)only[AB,↓Aa,Ac,↓reduceIte,Qu,QK];have okp2:Gv n ([]:List Elm) (name++[46]++pk).length:=by
     have e2:(name++[46]++pk).length=name.length+1+pk.length:=(by simp only[Adj,Ae6,AeT]);rw[e2];exact okp
    by_cases hT:1024<Tk.length
    ·rw[Hj okp hT] at fks;have hc:=G6 (G:=G) ([]:List Elm) Tk (name++[46]++pk) id false hT (by omega) (L0 ([]:List Elm))
     skip
     refine ⟨_,_,[],hc,by simp,.inl rfl,?_⟩;simp(disch:=(try simp only[Ab]);omega)only[outW,outN,renA,renB,dropW,AeK,Ae7,Ac,↓reduceIte,Qu];first
     | exact ⟨k+1,hlt,by simp only;omega,⟨[some 0,some 1],rfl,by simp,by simp[SW,AW,fks],by simp[HW,BW,fks]⟩⟩
     | exact ⟨by rfl,k+1,hlt,by simp only;omega,⟨[some 0,some 1],rfl,by simp,by simp[sA,kZ,SW,AW,fks],by simp[HW,BW,SW,AW,fks]⟩⟩
    have hc:=IH ([]:List Elm) Tk (name++[46]++pk) id false okp2 (by omega) i1 i2;rw[<-fks] at hc
    skip
    refine ⟨_,_,[],hc,by simp,.inl rfl,?_⟩;simp(disch:=(try simp only[Ab]);omega)only[outW,outN,renA,renB,dropW,AeK,Ae7,Ac,↓reduceIte,Qu,Qv];first
    | exact ⟨k+1,hlt,by simp only;omega,⟨[some 4,some 1],rfl,by simp,by simp[SW,AW],by simp[HW,BW]⟩⟩
    | exact ⟨by rfl,k+1,hlt,by simp only;omega,⟨[some 4,some 1],rfl,by simp,by simp[sA,kZ,SW,AW],by simp[HW,BW,SW,AW]⟩⟩
   have ra0:=EU 3 hK;have rx0:=ET hK;simp(disch:=(try simp only[Ab]);omega)only[Af,AB,ra0,rx0,Mn,↓Aa,Ac,Qu];refine Aq.list false [0] (by simp) ?_;unfold Hq;have cuk:cut (AA (KK.map (·.2))) 0 (KK.length*4)=AA (KK.map (·.2)):=cut_all (by omega);have tki:Afw KK.length (KK.map (·.1))=KK.map (·.1):=AeL (by simp);simp(disch:=(try simp only[Ab]);omega)only[AB,cuk,tki,↓Aa,Ac,↓reduceIte,Qu,QK];have okp2:Gv n KK (name++[46]++pk).length:=(by have e2:(name++[46]++pk).length=name.length+1+pk.length:=(by simp only[Adj,Ae6,AeT]);rw[e2];exact okp)
   by_cases hT:1024<Tk.length
   ·rw[Hj okp hT] at fks;have hc:=G6 (G:=G) KK Tk (name++[46]++pk) id false hT (by omega) (L0 KK);rw[Ie hK] at hc;unfold NdS at hc;rw[Adm] at hc;refine ⟨_,_,[],hc,by simp,.inl rfl,?_⟩;simp(disch:=(try simp only[Ab]);omega)only[outW,outN,renA,renB,dropW,AeK,Ae7,Ac,↓reduceIte,Qu];first
    | exact ⟨k+1,hlt,by simp only;omega,⟨[some 0,some 1],rfl,by simp,by simp[SW,AW,fks],by simp[HW,BW,fks]⟩⟩
    | exact ⟨by rfl,k+1,hlt,by simp only;omega,⟨[some 0,some 1],rfl,by simp,by simp[sA,kZ,SW,AW,fks],by simp[HW,BW,SW,AW,fks]⟩⟩
   have hc:=IH KK Tk (name++[46]++pk) id false okp2 (by omega) i1 i2;rw[<-fks] at hc;rw[Ie hK] at hc;unfold NdS at hc;rw[Adm] at hc;refine ⟨_,_,[],hc,by simp,.inl rfl,?_⟩;simp(disch:=(try simp only[Ab]);omega)only[outW,outN,renA,renB,dropW,AeK,Ae7,Ac,↓reduceIte,Qu,Qv];first
   | exact ⟨k+1,hlt,by simp only;omega,⟨[some 4,some 1],rfl,by simp,by simp[SW,AW],by simp[HW,BW]⟩⟩
   | exact ⟨by rfl,k+1,hlt,by simp only;omega,⟨[some 4,some 1],rfl,by simp,by simp[sA,kZ,SW,AW],by simp[HW,BW,SW,AW]⟩⟩
  obtain rfl:k=qs.length:=by omega
  rw[<-hfin] at fk ⊢;have tkl:=Bq r;have ccu:cut (AQ r) 0 (r.length*3)=AQ r:=cut_all (by omega);simp(disch:=(try simp only[Ab]);omega)only[AB,ccu,↓Aa,Ac,↓Qe,Qu];first | done | rfl
def PD (hP:HP G):∀ n,S4 G n
 | 0=>fun E ts name id full h=>h.elim
 | n+1=>Vr hP n (PD hP n)
def Aa9 (id:Int) (t:Tab):Prop:=Sd t/\id<=t.id/\t.id<=id+1025
def Wv {a:Nat} (f:Bool) (E:List Elm) (hz:Ct E<=4000) (ho:∀ e∈E,AH e.2 a=true/\0<=e.1/\e.1<1000000) (id:Int) {name:List UInt8} (hn:name.length<=1000000000):Sd (DS f E id name):=by
 obtain ⟨h1,h2,h3,h4,h5⟩:=FI (a:=a) f E hz ho;obtain ⟨s1,s2,s3,s4,s5,s6⟩:=Oj (a:=a) f E hz ho;have hb:=h2.paths;rw[<-Ws];generalize Av f E=s at *;have tcl:(Ep s).length<=1:=by unfold Ep;split<;>simp
 refine ⟨hn,by simp[E6];omega,fun c hc=>?_⟩;rcases Afc.1 hc with hc | hc
 ·unfold Ep at hc;split at hc;·rw[Adp.1 hc];refine ⟨by simp[B0,Mv],by simp[B0];omega,fun x hx=>?_⟩;obtain ⟨a,ha,rfl⟩:=Afd.1 hx;obtain ⟨b1,b2⟩:=s1 a ha;have:=Us (n:=a.toNat) (by omega);simp only;omega
  cases hc
 obtain ⟨p,hq,rfl⟩:=Afd.1 hc;refine ⟨s5 p hq,by simp[DP];omega,fun x hx=>?_⟩;obtain ⟨r,hr,rfl⟩:=Afd.1 hx;unfold FQ;split;·exact s6 r hr p _ (by assumption)
 simp
def Ul:∀ (n a:Nat) (f:Bool) (E:List Elm) (id:Int) (name:List UInt8) (ts:List Tab),16<=a+n->Ct E<=4000->(∀ e∈E,AH e.2 a=true/\0<=e.1/\e.1<1000000)->name.length+n*16501<=1000000000 ->
  (∀ t∈ts,Aa9 id t)->∀ t∈Dd (n+1) ts name id f E,Aa9 id t:=by
 intro n;induction n with
 | zero =>
  intro a f E id name ts ha hz ho hn ht;have hl:E=[]:=by
   cases E with
   | nil=>rfl
   | cons e r =>have:=(EA (ho e (by simp)).1).deep;omega
  subst hl;rw[Eh];split;·exact ht
  have q2:¬([]:List Elm).any A4=true:=by simp
  rw[if_neg q2];intro t hx;rcases Afc.1 hx with hx | hx
  ·exact ht t hx
  rw[Adp.1 hx];exact ⟨Wv (a:=a) f [] hz ho _ (by omega),by simp only[DS];omega,by simp only[DS];omega⟩
 | succ n IH =>
  intro a f E id name ts ha hz ho hn ht;rw[Eh];split;·exact ht
  have ht1:∀ t∈ts++[DS f E (id+ts.length) name],Aa9 id t:=by
   intro t hx;rcases Afc.1 hx with hx | hx
   ·exact ht t hx
   rw[Adp.1 hx];exact ⟨Wv (a:=a) f E hz ho _ (by rw[Afn] at hn;omega),by simp only[DS];omega,by simp only[DS];omega⟩
  split;·exact ht1
  rename_i hn1 hn2;have hn':E.any A4=false:=by simpa using hn2
  obtain ⟨h1,h2,h3,h4,h5⟩:=FI (a:=a) true E hz ho;have ln:=Lt true E;rw[if_neg hn2] at ln;have key:∀ k,k<=(AD (A6 E) true).length->∀ t∈C2 (n+1) name id E (ts++[DS f E (id+ts.length) name]) k,Aa9 id t:=by
   intro k;induction k with
   | zero=>intro _;exact ht1
   | succ k ih =>intro hk;rw[Dm _ _ _ _ _ (by omega)];have hp:(AD (A6 E) true).getD k []∈AD (A6 E) true:=Cs (by omega);generalize (AD (A6 E) true).getD k []=p at *;have hpl:=h1.ls p (by rw[ln];exact hp);have hp3:=h3 p;have hit:=fun e he=>h1.it p e he;rw[Sq true hn' p] at hp3 hit;exact IH (a+1) true _ id _ _ (by omega) (by omega) hit (by rw[Afn] at hn;simp;omega) (ih (by omega))
  exact key _ (Adf _)
def MR8:Ci:=fun k=>Afx k 5000047
def Acr:T4 MR8 (some 47)=true:=rfl
def CL {k:Nat} (h:¬(k=5000047)):MR8 k=false:=by
 cases e:MR8 k with
 | false=>rfl
 | true=>exact absurd (AeU e) h
def Xg {T:List Tab} {k:Nat} (h:k<T.length):(T.take (k+1)).all Ck=((T.take k).all Ck && Ck (T.getD k noT)):=by rw[Adn,Aa0 h,Afs,AaZ,Aa0 h];simp
def NI (hT:HT G) (hP:HP G) (n:Nd) (hz:szN n) (h4:nsz n<=4000) (name:List UInt8) (hn:name.length<=1000000) (id:Int) (i1:-1000000000000<=id) (i2:id<=1000000000000) :
  Ctr TP G 14 [.d (S name),.d (.int .i64 id),.d (NdD n)] [] (.d (Aac (R7 17 name id n))) []:=by
 obtain ⟨r,hr⟩:∃ r,r=R7 17 name id n:=⟨_,rfl⟩;rw[<-hr];unfold R7 at hr;have hV:=O1 (G:=G) hT n hz (WY n);refine Ctr.pure (M:=MR8) Am Tryz.func14 rfl go14 ?_;cases hok:AH n 0 with
 | false =>rw[hok] at hV;rw[if_neg (by rw[hok];simp)] at hr;subst hr;obtain ⟨k,t,ks,l⟩:=n;simp(disch:=(try simp only[Ab]);omega)only[CL,ndC,Tryz.f14,↓Aa,Ac,↓reduceIte,Qu,Qv];refine Ad.of hV (by rfl) ?_;simp(disch:=(try simp only[Ab]);omega)only[CL,↓Aa,Ac,↓reduceIte,↓Qe];first | done | rfl
 | true =>
  rw[hok] at hV;obtain ⟨z1,z2⟩:=Oq hok h4;have hf:=On 16 0 (BT n) name.length (by omega) z1 z2 (by omega);have hc:=fun full=>XO (G:=G) 16 (PD hP 16) (BT n) name id full hf i1 i2;have hzT:=Ul 16 0 false (BT n) id name [] (by omega) z1 z2 (by omega) (fun t h=>by cases h);have hTl:=Jc 17 [] name id false (BT n) (by simp);have hEl:(BT n).map (·.2)=CQ n:=by unfold BT;rw[List.map_map];exact List.map_id _
  rw[hEl] at hc;have hcon:=EA hok;generalize Dd (16+1) [] name id false (BT n)=T at *;obtain ⟨k,t,ks,l⟩:=n;cases hv:Lib.validD name with
  | false =>rw[if_neg (by rw[hv];simp)] at hr;subst hr;simp(disch:=(try simp only[Ab]);omega)only[CL,ndC,Tryz.f14,↓Aa,Ac,↓reduceIte,Qu,Qv];refine Ad.of hV (by rfl) ?_;simp(disch:=(try simp only[Ab]);omega)only[CL,↓Aa,Ac,↓reduceIte,Qu];refine Ad.of (D9 hT name (by omega)) (by rfl) ?_;rw[hv];simp(disch:=(try simp only[Ab]);omega)only[CL,↓Aa,Ac,↓reduceIte,↓Qe];first | done | rfl
  | true =>
   simp(disch:=(try simp only[Ab]);omega)only[CL,ndC,Tryz.f14,↓Aa,Ac,↓reduceIte,Qu,Qv];refine Ad.of hV (by rfl) ?_;simp(disch:=(try simp only[Ab]);omega)only[CL,↓Aa,Ac,↓reduceIte,Qu];refine Ad.of (D9 hT name (by omega)) (by rfl) ?_;rw[hv];simp(disch:=(try simp only[Ab]);omega)only[CL,↓Aa,Ac,↓reduceIte,↓Qe,Qu,Qw,Qz];have k1:1<=k/\k<=6:=hcon.kind;have tl:=Bq T;have nl:=Ay l;have hll:l.length<=4000:=(by have:=Dx (.mk k t ks l);have:=DG l;simp only[Nd.kids] at *;omega)
   by_cases k5:k<5;·rw[if_neg (fun c=>by have h5:5<=k:=c.2.2.1;omega)] at hr;subst hr;simp(disch:=(try simp only[Ab]);omega)only[Ac];first | done | rfl
   rcases (by omega:k=5\/k=6) with rfl | rfl
   ·have hL:CQ (.mk 5 t ks l)=l:=rfl;rw[hL] at hr hc;simp(disch:=(try simp only[Ab]);omega)only[Ac];refine Ak.fr 51539607811 (α:=Nat) (fun x=>l.length-x) (fun x=>[(36,.d (.int .i64 x))]) (fun _=>[]) (fun x=>x<=l.length/\(l.take x).any Ca=false) 0 ⟨Adk _,rfl⟩ ?_ ?_
    ·first
     | exact ⟨[],rfl,by simp,by simp[sA,kZ,SW,AW],by simp[HW]⟩
    rintro x ⟨hx,hxa⟩;simp only[Bi,Ac7,Ada];rcases Adi x l.length with h | h
    ·have g:=BM h;have hm:=Cs (d:=noN) h;have hsu:(l.take (x+1)).any Ca=Ca (l.getD x noN):=by
      rw[Adn,Aa0 h,Aft,hxa,AaZ,Aa0 h];simp
     generalize l.getD x noN=kid at *;obtain ⟨ka,kb,kc,kd⟩:=kid;have hnr:Ca (.mk ka kb kc kd)=decide (¬ka=6):=rfl;rw[hnr] at hsu;by_cases c6:ka=6
     ·subst c6;simp(disch:=(try simp only[Ab]);omega)only[CL,nl,g,ndC,↓Aa,Ac,↓reduceIte,Qu];first
      | exact ⟨x+1,⟨h,by rw[hsu];rfl⟩,by simp only;omega,⟨[],rfl,by simp,by simp[SW,AW],by simp[HW]⟩⟩
     have hany:l.any Ca=true:=List.any_eq_true.2 ⟨_,hm,by rw[hnr];simpa using c6⟩;rw[if_neg (fun c=>by have:=c.2.2.2;rw[hany] at this;cases this)] at hr;subst hr;simp(disch:=(try simp only[Ab]);omega)only[CL,nl,g,ndC,c6,↓Aa,Ac,↓reduceIte,↓Qe,Qu];first | done | rfl
    obtain rfl:x=l.length:=by omega
    rw[Adl] at hxa;have hcond:AH (.mk 5 t ks l) 0=true/\Lib.validD name=true/\5<=(Nd.mk 5 t ks l).kind/\l.any Ca=false:=⟨hok,hv,Int.le_refl _,hxa⟩;simp(disch:=(try simp only[Ab]);omega)only[CL,↓Aa,Ac,↓reduceIte,Qu];refine Ad.frozenE (hc false) (by rfl) ?_
    skip
    simp(disch:=(try simp only[Ab]);omega)only[CL,↓Aa,Ac,↓reduceIte];refine Ak.fr 844424930134016 (α:=Nat) (fun i=>T.length-i) (fun i=>[(11,.d (Mm T false)),(50,.d (.int .i64 i))]) (fun _=>[]) (fun i=>i<=T.length/\(T.take i).all Ck=true) 0 ⟨Adk _,rfl⟩ ?_ ?_
    ·first
     | exact ⟨[],rfl,by simp,by simp[sA,kZ,SW,AW],by simp[HW]⟩
    rintro i ⟨hi,hia⟩;simp only[Bi,Ac7,Ada];rcases Adi i T.length with h | h
    ·have g:=IU h;have hm:=hzT _ (Cs (d:=noT) h);have has:=Xg h;have hbad:Ck (T.getD i noT)=false->T.all Ck=false:=fun c=>by
      cases hx:T.all Ck with
      | false=>rfl
      | true =>have:=Afg.1 hx _ (Cs (d:=noT) h);rw[c] at this;cases this
     generalize T.getD i noT=tb at *;rw[hia,Afv] at has;obtain ⟨m1,m2,m3⟩:=hm;have hrv:=Kn (G:=G) hT tb false m1 (by omega) (by omega);simp(disch:=(try simp only[Ab]);omega)only[CL,tl,g,↓Aa,Ac,↓reduceIte,Qu];refine Ad.of hrv (by rfl) ?_;cases hb:Ck tb with
     | false =>rw[if_pos hcond,if_neg (by rw[hbad hb];simp)] at hr;subst hr;simp only[↓Aa,Ac,↓Qe];first | done | rfl
     | true =>
      rw[hb] at has;simp(disch:=(try simp only[Ab]);omega)only[CL,↓Aa,Ac];first
      | exact ⟨i+1,⟨h,has⟩,by simp only;omega,⟨[],rfl,by simp,by simp[SW,AW],by simp[HW]⟩⟩
    obtain rfl:i=T.length:=by omega
    rw[Adl] at hia;by_cases hl:1024<T.length;·rw[if_pos hcond,if_neg (fun c=>by have:=c.2;omega)] at hr;subst hr;simp(disch:=(try simp only[Ab]);omega)only[CL,↓Aa,Ac,↓Qe];first | done | rfl
    rw[if_pos hcond,if_pos ⟨hia,by omega⟩] at hr;subst hr;simp(disch:=(try simp only[Ab]);omega)only[CL,↓Aa,Ac,↓Qe];first | done | rfl
   have hL:CQ (.mk 6 t ks l)=[.mk 6 t ks l]:=rfl;rw[hL] at hr hc;have hcond:AH (.mk 6 t ks l) 0=true/\Lib.validD name=true/\5<=(Nd.mk 6 t ks l).kind/\[Nd.mk 6 t ks l].any Ca=false:=⟨hok,hv,by show (5:Int)<=6;decide,rfl⟩;simp(disch:=(try simp only[Ab]);omega)only[Ac];refine Ak.fr 51539607811 (α:=Nat) (fun x=>1-x) (fun x=>[(36,.d (.int .i64 x))]) (fun _=>[.box [.d (.int .i64 6),.d (S t),.d (Ss ks false),.d (.sl l.length false (AA l))],.row false [.int .i64 6,D.str (bs t),D.sl ks.length false (strs ks),D.sl l.length false (AA l)]]) (fun x=>x<=1) 0 (Adk _) ?_ ?_
   ·first
    | exact ⟨[some 0,some 1],rfl,by simp,by simp[sA,kZ,SW,AW],by simp[HW,BW,SW,AW]⟩
   intro x hx;simp only[Bi,Ac7,Ada];rcases (by omega:x=0\/x=1) with rfl | rfl
   ·simp(disch:=(try simp only[Ab]);omega)only[CL,↓Aa,Ac,↓reduceIte,Qu,QA];first
    | exact ⟨1,Adf _,by simp only;omega,⟨[some 0,some 1],rfl,by simp,by simp[SW,AW],by simp[HW,BW,SW,AW]⟩⟩
   simp(disch:=(try simp only[Ab]);omega)only[CL,↓Aa,Ac,↓reduceIte,Qu,Qv,Qw];refine Ad.frozenE (hc false) (by rfl) ?_
   skip
   simp(disch:=(try simp only[Ab]);omega)only[CL,↓Aa,Ac,↓reduceIte,Qu];refine Ak.fr 844424930134016 (α:=Nat) (fun i=>T.length-i) (fun i=>[(11,.d (Mm T false)),(50,.d (.int .i64 i))]) (fun _=>[]) (fun i=>i<=T.length/\(T.take i).all Ck=true) 0 ⟨Adk _,rfl⟩ ?_ ?_
   ·first
    | exact ⟨[],rfl,by simp,by simp[sA,kZ,SW,AW],by simp[HW]⟩
   rintro i ⟨hi,hia⟩;simp only[Bi,Ac7,Ada];rcases Adi i T.length with h | h
   ·have g:=IU h;have hm:=hzT _ (Cs (d:=noT) h);have has:=Xg h;have hbad:Ck (T.getD i noT)=false->T.all Ck=false:=fun c=>by
     cases hx:T.all Ck with
     | false=>rfl
     | true =>have:=Afg.1 hx _ (Cs (d:=noT) h);rw[c] at this;cases this
    generalize T.getD i noT=tb at *;rw[hia,Afv] at has;obtain ⟨m1,m2,m3⟩:=hm;have hrv:=Kn (G:=G) hT tb false m1 (by omega) (by omega);simp(disch:=(try simp only[Ab]);omega)only[CL,tl,g,↓Aa,Ac,↓reduceIte,Qu];refine Ad.of hrv (by rfl) ?_;cases hb:Ck tb with
    | false =>rw[if_pos hcond,if_neg (by rw[hbad hb];simp)] at hr;subst hr;simp only[↓Aa,Ac,↓Qe];first | done | rfl
    | true =>
     rw[hb] at has;simp(disch:=(try simp only[Ab]);omega)only[CL,↓Aa,Ac];first
     | exact ⟨i+1,⟨h,has⟩,by simp only;omega,⟨[],rfl,by simp,by simp[SW,AW],by simp[HW]⟩⟩
   obtain rfl:i=T.length:=by omega
   rw[Adl] at hia;by_cases hl:1024<T.length;·rw[if_pos hcond,if_neg (fun c=>by have:=c.2;omega)] at hr;subst hr;simp(disch:=(try simp only[Ab]);omega)only[CL,↓Aa,Ac,↓Qe];first | done | rfl
   rw[if_pos hcond,if_pos ⟨hia,by omega⟩] at hr;subst hr;simp(disch:=(try simp only[Ab]);omega)only[CL,↓Aa,Ac,↓Qe];first | done | rfl
def AcB {n:Nd} (hz:nsz n<=4000) {name:List UInt8} (hn:name.length<=1000000) (id:Int):(R7 17 name id n).1.length<=1025/\∀ t∈(R7 17 name id n).1,Sd t:=by
 unfold R7;by_cases h:AH n 0=true/\Lib.validD name=true/\5<=n.kind/\(CQ n).any Ca=false
 ·rw[if_pos h];obtain ⟨z1,z2⟩:=Oq h.1 hz;split;·refine ⟨Jc 17 [] name id false (BT n) (by simp),fun t ht=>?_⟩;exact (Ul 16 0 false (BT n) id name [] (by omega) z1 z2 (by omega) (fun t h=>by cases h) t ht).1
  exact ⟨by simp,fun t ht=>by cases ht⟩
 rw[if_neg h];exact ⟨by simp,fun t ht=>by cases ht⟩
def YB (hT:HT G) (hP:HP G) (hG:Num.HG G) {x:Nd} (hx:szN x/\nsz x<=1500) {name:List UInt8} (hn:name.length<=50) {k:Int} (k1:-1073741824<=k) (k2:k<=1073741824) :
  ∃ (T:List Tab) (e:Int),Ctr TP G 13 [.d (S name),.d (.int .i64 k),.d (NdD x)] [] (.d (.tup [Mm T false,.int .i64 e])) [] /\
   Ctr TP G 14 [.d (S name),.d (.int .i64 k),.d (NdD x)] [] (.d (.tup [Mm T false,.int .i64 e])) [] /\
   Ctr TP G 15 [.d (Mm T false),.d (Mm T false)] [] (.d (.bool true)) []:=by
 have h1:=Ju (G:=G) hT hP hG 17 name k x hx.1 (by omega) (by omega) (by omega) fun ho=>W8 (by omega) (by omega) ho;have h2:=NI (G:=G) hT hP x hx.1 (by omega) name (by omega) k (by omega) (by omega);rw[Aab (by omega)] at h1;obtain ⟨s1,s2⟩:=AcB (n:=x) (by omega) (name:=name) (by omega) k;generalize R7 17 name k x=r at *;obtain ⟨T,e⟩:=r;exact ⟨T,e,h1,h2,O0 T false false (by simp only at s1;omega) s2⟩
def Va (hT:HT G) (hP:HP G) (hG:Num.HG G) (t0:List Int) (hu:OkS t0) (hl:t0.length<=9223372036854775807) (id:Int) (i1:-9223372036854775808<=id) (i2:id<=9223372036854775807)
  (w:Int) (w1:-9223372036854775808<=w) (w2:w<=9223372036854775807) (name:List UInt8) (hnm:name.length<=9223372036854775807) :
  Ctr TP G 3 [.d (.sl t0.length false (AF .u8 t0)),.d (.int .i64 id),.d (.int .i64 w),.d (S name)] [] (.d (.bool true)) []:=by
 have ht:OkM (t0.take 300):=hu.take;refine Ctr.pure (M:=M0) Am Tryz.func3 rfl go3 ?_;simp only[Tryz.f3,↓Aa,Ac,↓reduceIte,Qu,Qv,QE];refine Ad.pure (Vn hT hP hG) ?_;simp(disch:=(try simp only[Ab]);omega)only[Af,↓Aa,Ac,↓reduceIte,↓Qe,QE];by_cases hn:50<name.length
 ·have e1:((name.length:Int) > 50):=by omega
  simp only[e1,Ac,QE];first | done | rfl
 simp(disch:=(try simp only[Ab]);omega)only[Ac,QE];refine Ad.by (L:=[]) (new_spec t0 hl) (by rfl) (by rfl) (by simp) ?_;generalize t0.take 300=t at *;have hrc:=O8 (G:=G) t ht 0;have zr:=Abn t 0;generalize NE t 0=y at *;obtain ⟨x0,k1⟩:=y;simp only at hrc zr;have ho:=X3 (G:=G) x0 w w1 w2 zr.sz;have zo:=AcH (by omega) zr w;generalize Vx x0 w=x1 at *;have hnd:=JI (G:=G) t ht 2 (by omega) k1;have zn:=(MX t 2 k1).zn (by omega);generalize Cv t (2+1) k1=y at *;obtain ⟨x2,k2⟩:=y;simp only at hnd zn;have hL:∀ x∈[x0,x1,x2],szN x/\nsz x<=1500:=fun x hx=>by
  simp only[Afu,List.not_mem_nil,or_false] at hx;rcases hx with rfl | rfl | rfl
  ·exact ⟨zr.sz,by have:=zr.nz;omega⟩
  ·exact zo
  exact ⟨zn.sz,by have:=zn.nz;omega⟩
 have hLd:AA [x0,x1,x2]=ndC x0++(ndC x1++(ndC x2++[])):=rfl;have hm9:=Dst.mmod_spec (G:=G) id 9 i1 i2 (by omega) (by omega);obtain ⟨p0,p1,p2,p3⟩:=x0;obtain ⟨o0,o1,o2,o3⟩:=x1;obtain ⟨n0,n1,n2,n3⟩:=x2;simp(disch:=(try simp only[Ab]);omega)only[↓Aa,Ac,↓reduceIte,QE];refine Ad.by hrc (by rfl) (by rfl) (Adf _) ?_;simp(disch:=(try simp only[Ab]);omega)only[ndC,↓Aa,Ac,↓reduceIte,Qu,QE];refine Ad.of ho (by rfl) ?_;simp only[↓Aa,Ac,↓reduceIte,Qu,QE];refine Ad.by hnd (by rfl) (by rfl) (Adf _) ?_;simp(disch:=(try simp only[Ab]);omega)only[ndC,↓Aa,Ac,↓reduceIte,Qu,Qw,Qz,QE];refine ⟨by rfl,?_⟩;have hLe:AA [Nd.mk p0 p1 p2 p3,.mk o0 o1 o2 o3,.mk n0 n1 n2 n3]=[.int .i64 p0,D.str (bs p1),D.sl p2.length false (strs p2),D.sl p3.length false (AA p3),.int .i64 o0,D.str (bs o1),D.sl o2.length false (strs o2),D.sl o3.length false (AA o3),.int .i64 n0,D.str (bs n1),D.sl n2.length false (strs n2),D.sl n3.length false (AA n3)]:=rfl;have hL3:[Nd.mk p0 p1 p2 p3,.mk o0 o1 o2 o3,.mk n0 n1 n2 n3].length=3:=rfl;rw[<-hLe];clear hLe hLd zr zo zn hrc ho hnd;generalize [Nd.mk p0 p1 p2 p3,.mk o0 o1 o2 o3,.mk n0 n1 n2 n3]=L at *;have nl:=Ay L;refine Ak.fr 51539607562 (α:=Nat) (fun i=>3-i) (fun i=>[(34,.lsl 0 4 0 3),(36,.d (.int .i64 i))]) (fun _=>[.row false (AA L)]) (fun i=>i<=3) 0 (Adk _) ?_ ?_
 ·first
  | exact ⟨[some 2],rfl,by simp,by simp[sA,kZ,SW,AW],by simp[HW,BW]⟩
 intro i hi;simp only[Bi,Ac7,Ada];rcases Adi i 3 with hit | hig
 ·have g:=BM (l:=L) (k:=i) (by omega);have hx:=hL _ (Cs (d:=noN) (show i<L.length by omega));generalize L.getD i noN=x at *;have hbf:=fun k=>YB (G:=G) hT hP hG hx (name:=name) (by omega) (k:=k);obtain ⟨xa,xb,xc,xd⟩:=x;simp(disch:=(try simp only[Ab]);omega)only[nl,hL3,g,ndC,↓Aa,Ac,↓reduceIte,Qu,Qw,QE];refine Ad.of hm9 (by rfl) ?_;have b9:0<=id % 9/\id % 9<9:=by omega
  generalize id % 9=m9 at *;simp(disch:=(try simp only[Ab]);omega)only[↓Aa,Ac,↓reduceIte,Qu,Qz,QE];refine Ak.fr 26508538155018 (α:=Nat) (fun j=>3-j) (fun j=>[(45,.d (.int .i64 j))]) (fun _=>[.row false (AA L),.box [.d (.int .i64 xa),.d (S xb),.d (Ss xc false),.d (.sl xd.length false (AA xd))],.row false [.int .i64 m9,.int .i64 id,.int .i64 1073741823]]) (fun j=>j<=3) 0 (Adk _) ?_ ?_
  ·first
   | exact ⟨[some 0,some 1,some 2],rfl,by simp,by simp[sA,kZ,SW,AW],by simp[HW,BW,SW,AW]⟩
  intro j hj;simp only[Bi,Ac7,Ada];rcases Adi j 3 with hjt | hjg
  ·obtain ⟨k,hk,hk1,hk2⟩:∃ k:Int,[D.int .i64 m9,.int .i64 id,.int .i64 1073741823].getD j .nilp=.int .i64 k/\-9223372036854775808<=k/\k<=9223372036854775807:=by
    rcases (by omega:j=0\/j=1\/j=2) with rfl | rfl | rfl
    ·exact ⟨m9,rfl,by omega,by omega⟩
    ·exact ⟨id,rfl,i1,i2⟩
    exact ⟨1073741823,rfl,by omega,by omega⟩
   have kll:[D.int .i64 m9,.int .i64 id,.int .i64 1073741823].length=3:=rfl;generalize [D.int .i64 m9,.int .i64 id,.int .i64 1073741823]=KL at *;by_cases c1:k > 1073741824
   ·simp(disch:=(try simp only[Ab]);omega)only[kll,hk,c1,↓Aa,Ac,↓reduceIte,Qu,QE];first
    | exact ⟨j+1,hjt,by simp only;omega,⟨[some 0,some 1,some 2],rfl,by simp,by simp[SW,AW],by simp[HW,BW,SW,AW]⟩⟩
   have c1':¬(1073741824<k):=(by omega);by_cases c2:k < -1073741824
   ·simp(disch:=(try simp only[Ab]);omega)only[kll,hk,c1,c2,↓Aa,Ac,↓reduceIte,Qu,QE];first
    | exact ⟨j+1,hjt,by simp only;omega,⟨[some 0,some 1,some 2],rfl,by simp,by simp[SW,AW],by simp[HW,BW,SW,AW]⟩⟩
   obtain ⟨T,e,f1,f2,f3⟩:=hbf k (by omega) (by omega);simp(disch:=(try simp only[Ab]);omega)only[kll,hk,c1,c2,↓Aa,Ac,↓reduceIte,Qu,QE];refine Ad.of f1 (by rfl) ?_;simp(disch:=(try simp only[Ab]);omega)only[↓Aa,Ac,↓reduceIte,Qu];refine Ad.frozenE f2 (by rfl) ?_;simp(disch:=(try simp only[Ab]);omega)only[↓Aa,Ac,↓reduceIte,Qu];refine Ad.of f3 (by rfl) ?_;simp(disch:=(try simp only[Ab]);omega)only[↓Aa,Ac,↓reduceIte,Qu];first
   | exact ⟨j+1,hjt,by simp only;omega,⟨[some 0,some 1,some 2],rfl,by simp,by simp[SW,AW],by simp[HW,BW,SW,AW]⟩⟩
   | exact ⟨by rfl,j+1,hjt,by simp only;omega,⟨[some 0,some 1,some 2],rfl,by simp,by simp[sA,kZ,SW,AW],by simp[HW,BW,SW,AW]⟩⟩
  obtain rfl:j=3:=by omega
  simp(disch:=(try simp only[Ab]);omega)only[↓Aa,Ac,Qu,Qv,QE];first
  | exact ⟨i+1,hit,by simp only;omega,⟨[some 0],rfl,by simp,by simp[SW,AW],by simp[HW,BW]⟩⟩
 obtain rfl:i=3:=by omega
 simp(disch:=(try simp only[Ab]);omega)only[↓Aa,Ac,↓Qe,Qv,QE];first | done | rfl
end
section
open Go Go.Proofs Go.Abs Go.RowKit Go.ChangeShapes Go.WideShapes Go.ChangeAt
namespace nestedTables
def contract (H:Type) (enc:TypeId × Value->H) (X:World) (base:Nat) (args:Array Value) (ds gs:List (DataW H)) (before:List MemPlace)
  (hval:∀ (j:Nat) t v,Tryz.f3.params[j]?=some t->args[j]?=some v->Value.okWide TP X .any base t v)
  (hW:DataW.Whole enc TP Tryz.f3.params.toList Rows.nestedTablesSpec.vars false X args.toList ds gs before) (hL:laidMetH TP Rows.nestedTablesRow.laid X) :
  Calls TP 3 args X fun e X'=>∃ v,e=.returned v/\Rows.nestedTablesSpec.post enc TP Tryz.f3 false true false false X args v X':=by
 have hW':=hW;obtain ⟨p,q,hA0,hV,rfl,hfz,hnd⟩:=hW;have hA:DataW.TrodAll enc TP X 0 (fun _=>true) true Tryz.f3.params.toList args.toList ds p:=hA0;rw[Tryz.params3] at hA hval;obtain ⟨v0,vs0,d0,ds0,p0,q0,hargs,rfl,rfl,h0,r0⟩:=trodAll_cons hA;obtain ⟨v1,vs1,d1,ds1,p1,q1,rfl,rfl,rfl,h1,r1⟩:=trodAll_cons r0;obtain ⟨v2,vs2,d2,ds2,p2,q2,rfl,rfl,rfl,h2,r2⟩:=trodAll_cons r1;obtain ⟨v3,vs3,d3,ds3,p3,q3,rfl,rfl,rfl,h3,r3⟩:=trodAll_cons r2;obtain ⟨rfl,rfl,rfl⟩:=trodAll_nil r3;obtain rfl:args=#[v0,v1,v2,v3]:=by cases args;simp_all
 obtain ⟨rfl,rfl⟩:=trodVars_none hV;have lt0:∀ x∈p0,x.block<X.heap.size:=by obtain ⟨m,hm⟩:=h0;exact DataW.trod_lt m _ _ _ hm
 have o0:∃ a n c,v0=.slice a n c:=okWide_slice Tryz.underlying22 (hval 0 22 v0 rfl rfl);have k0:=h0;obtain ⟨fuel0,hf0⟩:=h0;obtain ⟨l0,e0,w0,b0⟩:=XX Tryz.underlying22 Tryz.underlying5 cU8 o0 hf0;obtain ⟨n1,rfl,rfl,rfl,wf1⟩:=open_int Tryz.underlying3 (hval 1 3 v1 rfl rfl) h1;have b11:-9223372036854775808<=n1/\n1<=9223372036854775807:=by simp[Lit.wf,IntKind.min,IntKind.max,IntKind.bits,IntKind.signed] at wf1;omega
 obtain ⟨n2,rfl,rfl,rfl,wf2⟩:=open_int Tryz.underlying3 (hval 2 3 v2 rfl rfl) h2;have b12:-9223372036854775808<=n2/\n2<=9223372036854775807:=by simp[Lit.wf,IntKind.min,IntKind.max,IntKind.bits,IntKind.signed] at wf2;omega
 obtain ⟨s3,rfl,rfl,rfl,wf3⟩:=Go.ChangeMaps.open_string Tryz.underlying9 (hval 3 9 v3 rfl rfl) h3;obtain ⟨x3,rfl⟩:∃ x,s3=bs x:=⟨_,AeO s3⟩;have b13:x3.length<=maxLen:=by rw[<-ER (l:=x3)];exact wf3
 clear hA0;have hgl:=AbG (AcL (b:=false) (Lib.laidMet.reads hL (.tail _ (.tail _ (.tail _ (.tail _ (.tail _ (.head _))))))) (Lib.laidMet.reads hL (.tail _ (.tail _ (.tail _ (.head _))))) (Lib.laidMet.reads hL (.tail _ (.tail _ (.head _)))) (fun h=>by cases h)) (Lib.laidMet.reads hL (.tail _ (.tail _ (.tail _ (.tail _ (.head _))))));refine ((Va (G:=G2 false) hT2 hP2 hG2 l0 (Abu w0) (by unfold maxLen at b0;omega) n1 b11.1 b11.2 n2 b12.1 b12.2 x3 (by unfold maxLen at b13;omega)).law hgl (RL.four e0 (.d _ _ (.int _ _)) (.d _ _ (.int _ _)) (.d _ _ (.str _)))).mono fun e X' ⟨he,bel⟩=>?_;subst he;exact ⟨_,rfl,_,_,_,[],_,[],hW',trodAll_mk1 (shut_bool Tryz.underlying4 _),(trodAll_cons_mk (Below.trod Abz (by kernel_rfl) (of_decide_eq_true (by kernel_rfl)) k0 bel lt0) (trodAll_cons_mk (shut_int Tryz.underlying3 wf1) (trodAll_cons_mk (shut_int Tryz.underlying3 wf2) (trodAll_cons_mk (Go.ChangeMaps.shut_string Tryz.underlying9 wf3) trodAll_mk0)))),rfl,bel.frame _,fun h=>by cases h⟩
def reads (os:Os) {H:Type} (enc:TypeId × Value->H):∃ places,DataW.whole enc TP ((CT os).forCall (fun _ _=>0) ⟨#[],#[.slice none 0 0,.int .i64 0,.int .i64 0,.string .empty],[]⟩).memory Tryz.f3.params.toList Rows.nestedTablesSpec.vars false (#[.slice none 0 0,.int .i64 0,.int .i64 0,.string .empty]:Array Value).toList 8=some ([.nil,.lit (.int .i64 0),.lit (.int .i64 0),.lit (.string [])],[],places) :=
 ⟨[],by kernel_rfl⟩
def lifted (os:Os) (started:os.Started) (H:Type) (enc:TypeId × Value->H) (F:Stop.Interp) :
  ReturnsInHanded {} Tryz.checked os 3 .any ((OpenSpec.ofChange Rows.nestedTablesSpec).preRow enc TP Tryz.f3 Rows.nestedTablesRow.domain false Rows.nestedTablesRow.laid) (((OpenSpec.ofChange Rows.nestedTablesSpec).at F).post enc TP Tryz.f3 false true false false):=by
 obtain ⟨places,hx⟩:=reads os enc;refine returnsInHanded_of_row (C:=Tryz.checked) (s:=OpenSpec.ofChange Rows.nestedTablesSpec) own started (by kernel_rfl) Tryz.func3
  (witness_row_atRef (enc:=enc) (C:=Tryz.checked) false (CT os) #[.slice none 0 0,.int .i64 0,.int .i64 0,.string .empty] rfl (by kernel_rfl) (by kernel_rfl) (by kernel_rfl)
   (OpenSpec.preRow_of_cond 8 hx (by kernel_rfl) (fun k hk=>by cases hk) (by kernel_rfl) (HJ os _))) ?_
 intro X base args ds gs before hval hW _ _ _ hL _ _;exact contract H enc X base args ds gs before hval hW hL
end nestedTables
end
end Go.Proofs.YtmidaophnbdcdaaGreatDoor
