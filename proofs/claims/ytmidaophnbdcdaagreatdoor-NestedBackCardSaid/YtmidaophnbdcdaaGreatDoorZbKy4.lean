/-
  Contracts of the functions, one after another.
-/
import Derived.Test.YtmidaophnbdcdaaGreatDoorZbKy3
set_option linter.all false
open Go.Abs renaming A6->HW,Dz->BW,Cm->SW,Am->AW,Bd->sA,A4->kZ
open Go.Proofs.Tryz renaming prog->TP
set_option maxHeartbeats 16000000
set_option maxRecDepth 100000
open Go.Abs renaming E8->Qa,Ca->Qb,BC->Qc,B3->Qd,Ef->Qe,AE->Qf,AJ->Qg,Ax->Qh,Bb->Qi,CN->Qj,Gl->Qk,EP->Ql,BS->Qm,BM->Qn,Bl->Qo,CD->Qr,unfA->Qs,FC->QJ,Jp->QL,Ch->QM,Dj->QN,Fu->QO,C6->QP,BA->QQ,MC->QT,MB->QU,DN->QV,Nk->QW,O1->QX,O2->QY,O0->QZ,SP->Q0,Bw->Q1,Oe->Q2
open Go.Abs.AV renaming one->Qp
open Go.Abs.D renaming one->Qq
open Go.IntKind renaming signed->Qt
open Nat renaming reduceAdd->Qu,reduceSub->Qv,reduceMul->Qw,reducePow->Qx,reduceDiv->Qy,reduceMod->Qz,reduceEqDiff->QI,reduceBEq->QK
open Int renaming reduceAdd->QA,reduceSub->QB,reduceMul->QC,reducePow->QD,reduceNeg->QE,reduceToNat->QF,reduceLT->QG,reduceLE->QH
open Option renaming toList_some->QR,toList_none->QS
open List renaming mem_cons_of_mem->AbH,mem_append_right->AbM,mem_append_left->AbO,mem_append->AbP,mem_singleton->AbQ,getElem?_eq_some_iff->AbR,length_append->AbS,nodup_append->AbT,mem_cons->AbU,nodup_cons->AbV,length_cons->AbY,length_set->Ac6,length_nil->Ac7,getD_eq_getElem?_getD->Adc,append_nil->Adh,length_eq_zero_iff->Adt,set_cons_zero->Adu,map_cons->Ady,map_nil->Adz,set_cons_succ->AdA,append_assoc->AdB,drop_of_length_le->AdE,getElem?_append_right->AdF,take_left->AdG,not_mem_nil->AdH,getElem?_eq_getElem->AdJ,nodup_nil->AdM,drop_eq_getElem_cons->AdN,set_append_right->AdS,getElem?_eq_none->AdT,mem_of_mem_tail->AdV,dropWhile_cons->AdW,mem_reverse->AdX,cons_append->AdZ,nil_append->Ad1,take->Ad2,drop->Ad3
open Nat renaming le_refl->AbZ,eq_of_beq_eq_true->Ac8,add_sub_cancel_left->Adg,sub_self->AdC,mul_le_mul_left->AdI,beq->AdK,reduceMod->AdO,reduceDiv->AdP,add_zero->AdQ,zero_le->AdU,mul_one->Ad0,le_trans->Ad4,mul_comm->Ad5,lt_or_ge->Ad6,pow_succ->Ad7
open Bool renaming false_eq_true->AdD,or_eq_true->AdR,and_eq_true->AdY
open Int renaming toNat_natCast->AdL
namespace Go.Proofs.YtmidaophnbdcdaaGreatDoor
section
open Go Go.Proofs Go.Abs
def Rr (n sz:Nat) (ds:List D) (a:AV) (ids:List Nat) (H:List Aa):Prop :=
 (n=0/\a=.d (.sl 0 true [])/\ids=[])\/(0<n/\∃ b,a=.lsl b sz 0 n/\ids=[b]/\H[b]?=some (.row false ds))
def Rr.frame {n sz:Nat} {ds:List D} {a:AV} {ids:List Nat} {H K:List Aa} (h:Rr n sz ds a ids H) (hk:∀ b∈ids,K[b]?=H[b]?):Rr n sz ds a ids K:=by
 rcases h with h | ⟨h0,b,h1,h2,h3⟩
 ·exact .inl h
 exact .inr ⟨h0,b,h1,h2,by rw[hk b (by rw[h2];simp)];exact h3⟩
def Rr.lt {n sz:Nat} {ds:List D} {a:AV} {ids:List Nat} {H:List Aa} (h:Rr n sz ds a ids H):∀ b∈ids,b<H.length:=by
 intro b hb;rcases h with ⟨_,_,h⟩ | ⟨h0,c,h1,h2,h3⟩
 ·rw[h] at hb;cases hb
 rw[h2,AbQ] at hb;subst hb;exact (AbR.1 h3).1
abbrev AbB (t:Nd):=Rr t.keys.length 1 (strs t.keys)
abbrev Abz (t:Nd):=Rr t.kids.length 4 (A0 t.kids)
def TZ (ex:List AV) (t:Nd) (ka qa:AV):List AV:=[.d (.int .i64 t.kind),.d (S t.text),ka,qa]++ex
def Sg (ex:List AV) (t:Nd) (ka qa:AV):(TZ ex t ka qa).length=4+ex.length:=by simp[TZ];omega
def Lo (ex:List AV) (H:List Aa):List Nd->List AV->List Nat->Prop
 | [],cells,ids=>cells=[]/\ids=[]
 | t::st,cells,ids=>∃ c i ka ik qa iq,Lo ex H st c i/\AbB t ka ik H/\Abz t qa iq H/\cells=c++TZ ex t ka qa/\ids=i++(ik++iq)
def Lo.len {ex:List AV} {H:List Aa}:∀ {st:List Nd} {cells:List AV} {ids:List Nat},Lo ex H st cells ids->cells.length=st.length*(4+ex.length)
 | [],cells,ids,h=>by rw[h.1];simp
 | t::st,cells,ids,⟨c,i,ka,ik,qa,iq,h1,_,_,h4,_⟩=>by rw[h4,AbS,h1.len,Sg,AbY,Nat.succ_mul]
def Lo.frame {ex:List AV} {H K:List Aa}:∀ {st:List Nd} {cells:List AV} {ids:List Nat},Lo ex H st cells ids->(∀ b∈ids,K[b]?=H[b]?)->Lo ex K st cells ids
 | [],cells,ids,h,_=>h
 | t::st,cells,ids,⟨c,i,ka,ik,qa,iq,h1,h2,h3,h4,h5⟩,hk=>by subst h5;exact ⟨c,i,ka,ik,qa,iq,h1.frame fun b hb=>hk b (by simp[hb]),h2.frame fun b hb=>hk b (by simp[hb]),h3.frame fun b hb=>hk b (by simp[hb]),h4,rfl⟩
def Lo.lt {ex:List AV} {H:List Aa}:∀ {st:List Nd} {cells:List AV} {ids:List Nat},Lo ex H st cells ids->∀ b∈ids,b<H.length
 | [],cells,ids,h=>fun b hb=>by rw[h.2] at hb;cases hb
 | t::st,cells,ids,⟨c,i,ka,ik,qa,iq,h1,h2,h3,h4,h5⟩=>fun b hb=>by
   subst h5;rcases AbP.1 hb with hb | hb
   ·exact h1.lt b hb
   rcases AbP.1 hb with hb | hb
   ·exact h2.lt b hb
   exact h3.lt b hb
def UE (ob:Nat) (cells:List AV) (H:List Aa):Prop:=(∃ junk,H[ob]?=some (.box (cells++junk)))\/(cells=[]/\H[ob]?=some (.row false []))
def UE.lt {ob:Nat} {cells:List AV} {H:List Aa} (h:UE ob cells H):ob<H.length:=by
 rcases h with ⟨j,h⟩ | ⟨_,h⟩
 ·exact (AbR.1 h).1
 exact (AbR.1 h).1
def UE.frame {ob:Nat} {cells:List AV} {H K:List Aa} (h:UE ob cells H) (hk:K[ob]?=H[ob]?):UE ob cells K:=by unfold UE;rw[hk];exact h
structure Ko (ex:List AV) (st:List Nd) (ob:Nat) (ids:List Nat) (H:List Aa):Prop where
 stk:∃ cells,UE ob cells H/\Lo ex H st cells ids
 nd:(ob::ids).Nodup
def Ko.lt {ex:List AV} {st:List Nd} {ob:Nat} {ids:List Nat} {H:List Aa} (h:Ko ex st ob ids H):∀ b∈ob::ids,b<H.length:=by
 obtain ⟨cells,h1,h2⟩:=h.stk;intro b hb;rcases AbU.1 hb with rfl | hb
 ·exact h1.lt
 exact h2.lt b hb
def Ko.frame {ex:List AV} {st:List Nd} {ob:Nat} {ids:List Nat} {H K:List Aa} (h:Ko ex st ob ids H) (hk:∀ b∈ob::ids,K[b]?=H[b]?):Ko ex st ob ids K:=by obtain ⟨cells,h1,h2⟩:=h.stk;exact ⟨⟨cells,h1.frame (hk ob (by simp)),h2.frame fun b hb=>hk b (by simp[hb])⟩,h.nd⟩
structure Cj (rest:List UInt8) (st:List Nd) (ob:Nat) (ids:List Nat) (H:List Aa):Prop where
 box:H[0]?=some (.box [.d (S rest),.lsl ob 4 0 st.length])
 stack:Ko [] st ob ids H
 pos:∀ b∈ob::ids,0<b
 nox:NoX H
def Cj.ne {rest:List UInt8} {st:List Nd} {ob:Nat} {ids:List Nat} {H:List Aa} (h:Cj rest st ob ids H) {b:Nat} (hb:b∈ob::ids):¬0=b:=by have:=h.pos b hb;omega
structure Co (F:List Nat) (H:List Aa) (F':List Nat) (H':List Aa):Prop where
 len:H.length<=H'.length
 keep:∀ i,0<i->i<H.length->i∉F->H'[i]?=H[i]?
 old:∀ i∈F',i∈F\/H.length<=i
def Co.refl (F:List Nat) (H:List Aa):Co F H F H:=⟨AbZ _,fun _ _ _ _=>rfl,fun i hi=>.inl hi⟩
def Co.trans {F1 F2 F3:List Nat} {H1 H2 H3:List Aa} (a:Co F1 H1 F2 H2) (b:Co F2 H2 F3 H3):Co F1 H1 F3 H3:=by
 refine ⟨Ad4 a.len b.len,fun i h0 hi hn=>?_,fun i hi=>?_⟩
 ·rw[b.keep i h0 (Nat.lt_of_lt_of_le hi a.len) fun c=>?_,a.keep i h0 hi hn];rcases a.old i c with h | h
  ·exact hn h
  omega
 rcases b.old i hi with h | h
 ·exact a.old i h
 exact .inr (Ad4 a.len h)
def Cj.rest {rest r':List UInt8} {st:List Nd} {ob:Nat} {ids:List Nat} {H:List Aa} (h:Cj rest st ob ids H):Cj r' st ob ids (H.set 0 (.box [.d (S r'),.lsl ob 4 0 st.length])) /\
  Co (ob::ids) H (ob::ids) (H.set 0 (.box [.d (S r'),.lsl ob 4 0 st.length])):=by
 have h0:0<H.length:=(AbR.1 h.box).1;exact ⟨⟨Bt h0,h.stack.frame fun b hb=>Ao (h.ne hb),h.pos,h.nox.set _ (by simp)⟩,⟨by simp,fun i hi _ _=>Ao (by omega),fun i hi=>.inl hi⟩⟩
def Cj.app {rest:List UInt8} {st:List Nd} {ob:Nat} {ids:List Nat} {H E:List Aa} (h:Cj rest st ob ids H) (he:NoX E):Cj rest st ob ids (H++E)/\Co (ob::ids) H (ob::ids) (H++E):=by have h0:0<H.length:=(AbR.1 h.box).1;exact ⟨⟨by rw[Az h0];exact h.box,h.stack.frame fun b hb=>Az (h.stack.lt b hb),h.pos,h.nox.app he⟩,⟨by simp,fun i _ hi _=>Az hi,fun i hi=>.inl hi⟩⟩
def Cj.lift {G:Ah} {rest r':List UInt8} {st:List Nd} {ob:Nat} {ids:List Nat} {H:List Aa} (h:Cj rest st ob ids H) {f:FuncId} {args:List AV} {res:D}
  (spec:∀ v,Ctr TP G f args [.box [.d (S rest),.d (.val v)]] (.d res) [.box [.d (S r'),.d (.val v)]]) (ha:∀ a∈args,a=.ptr 0 0\/∃ d,a=.d d) :
  Ctr TP G f args H (.d res) (H.set 0 (.box [.d (S r'),.lsl ob 4 0 st.length])):=Ctr.lift1 spec ha h.box
end
section
open Go Go.Proofs Go.Abs
variable {G:Ah}
def Cj.top {rest:List UInt8} {t:Nd} {st:List Nd} {ob:Nat} {ids:List Nat} {H:List Aa} (h:Cj rest (t::st) ob ids H) :
  ∃ c junk i ka ik qa iq,H[ob]?=some (.box (c++(.d (.int .i64 t.kind)::.d (S t.text)::ka::qa::junk)))/\c.length=st.length*4/\Lo [] H st c i/\AbB t ka ik H/\Abz t qa iq H/\ids=i++(ik++iq):=by
 obtain ⟨cells,h1,c,i,ka,ik,qa,iq,h2,h3,h4,h5,h6⟩:=h.stack.stk;rcases h1 with ⟨junk,h1⟩ | ⟨h1,_⟩
 ·refine ⟨c,junk,i,ka,ik,qa,iq,?_,by have:=h2.len;simpa using this,h2,h3,h4,h6⟩;rw[h1,h5];simp[TZ]
 rw[h5] at h1;simp[TZ] at h1
def I4 {c:List AV} {m:Nat} (hc:c.length=m*4) (a b k q:AV) (j:List AV):(c++(a::b::k::q::j)).getD (m*4) .undef=a:=by rw[Adc,AdF (by omega),hc];simp
def W8 {c:List AV} {m:Nat} (hc:c.length=m*4) (a b k q:AV) (j:List AV):(c++(a::b::k::q::j)).getD (m*4+2) .undef=k:=by rw[Adc,AdF (by omega),hc];simp
def W7 {c:List AV} {m:Nat} (hc:c.length=m*4) (a b k q:AV) (j:List AV):(c++(a::b::k::q::j)).getD (m*4+3) .undef=q:=by rw[Adc,AdF (by omega),hc];simp
def W4 {c:List AV} {m:Nat} (hc:c.length=m*4) (a b k q:AV) (j:List AV):((c++(a::b::k::q::j)).drop (m*4)).take 4=[a,b,k,q]:=by rw[List.drop_append,hc,AdE (by omega)];simp
def W6 {c:List AV} {m:Nat} (hc:c.length=m*4) (a b k q x:AV) (j:List AV):(c++(a::b::k::q::j)).set (m*4+2) x=c++(a::b::x::q::j):=by rw[AdS _ _ (by omega),hc];simp
def W5 {c:List AV} {m:Nat} (hc:c.length=m*4) (a b k q x:AV) (j:List AV):(c++(a::b::k::q::j)).set (m*4+3) x=c++(a::b::k::x::j):=by rw[AdS _ _ (by omega),hc];simp
def I3 {c:List AV} {m:Nat} (hc:c.length=m*4) (a b k q:AV) (j:List AV):(c++(a::b::k::q::j)).length=m*4+4+j.length:=by simp[hc];omega
def IP {H0:List Aa}:∀ (ids:List Nat) (H:List Aa),(∀ b∈ids,b<H.length)->NoX H->wOK H.length (frz H0 ids)=true/\(applyW H (frz H0 ids)).length=H.length/\(∀ i,i∉ids->(applyW H (frz H0 ids))[i]?=H[i]?)/\NoX (applyW H (frz H0 ids))
 | [],H,_,hx=>⟨rfl,rfl,fun _ _=>rfl,hx⟩
 | b::r,H,hb,hx=>by
   have hb0:=hb b (by simp);rw[frz];split;·rename_i cells hc;rw[applyW,if_pos hb0,wOK,if_pos hb0];obtain ⟨h1,h2,h3,h4⟩:=IP r (H.set b (.row true cells)) (fun x hx=>by rw[Ac6];exact hb x (AbH _ hx)) (hx.set _ (by simp));rw[Ac6] at h1 h2;refine ⟨h1,h2,fun i hi=>?_,h4⟩;rw[h3 i fun q=>hi (AbH _ q),Ao fun e=>hi (by rw[e];simp)]
   obtain ⟨h1,h2,h3,h4⟩:=IP (H0:=H0) r H (fun x hx=>hb x (AbH _ hx)) hx;exact ⟨h1,h2,fun i hi=>h3 i fun q=>hi (AbH _ q),h4⟩
def Rr.shutR {n sz:Nat} {ds:List D} {a:AV} {ids:List Nat} {H:List Aa} (h:Rr n sz ds a ids H) (hl:ds.length=n*sz):∃ f,sealA H a=some (.sl n f ds)/\AJ a=ids/\AV.one a=true:=by
 rcases h with ⟨h1,h2,h3⟩ | ⟨h0,b,h1,h2,h3⟩
 ·subst h1;subst h2;subst h3;rw[Nat.zero_mul] at hl;rw[Adt.1 hl];exact ⟨true,rfl,rfl,rfl⟩
 subst h1;subst h2;refine ⟨false,?_,rfl,rfl⟩;rw[sealA,h3];simp only;rw[Jy hl]
def Zb (p:Nat) (H:List Aa) (v res:AV) (H':List Aa):Prop :=
 (Ig p H v res H'\/∃ d,sealA H v=some d/\wOK H.length (frz H (AJ v))=true/\res=.d (unf d)/\H'=applyW H (frz H (AJ v)))\/(H'=H/\(res=v\/∃ d,sealA H v=some d/\AJ v=[]/\res=.d (unf d)))
def Ai {P:Program} {rs:Array ResultVar} {p:Nat} {res:AV} {H':List Aa} {s:List AV} {H:List Aa} :
  FE P rs p res H' .ret s H=match resVs P s H rs.toList with | some vs=>Zb p H (AE vs) res H' | none=>False:=by
 show Tc P rs p s H res H'=_
 unfold Tc UB Zb Ig;cases resVs P s H rs.toList with
 | none=>simp
 | some vs=>rfl
def Af {P:Program} {rs:Array ResultVar} {p:Nat} {res:AV} {H':List Aa} {s:List AV} {H:List Aa} :
  FE P rs p res H' .normal s H=match resVs P s H rs.toList with | some vs=>Zb p H (AE vs) res H' | none=>False:=Ai
def HL {rest:List UInt8} {t:Nd} {st:List Nd} {ob:Nat} {ids:List Nat} {H:List Aa} (h:Cj rest (t::st) ob ids H) (hst:st.length<=1000000000) :
  ∃ ids' H',Ctr TP G 82 [.ptr 0 0] H (.d (NdD t)) H'/\Cj rest st ob ids' H'/\Co (ob::ids) H (ob::ids') H':=by
 obtain ⟨c,junk,i,ka,ik,qa,iq,hb,hc,hs,hk,hq,hids⟩:=h.top;have q0:=h.box;rw[AbY] at q0;have l0:0<H.length:=(AbR.1 q0).1;have lb:ob<H.length:=h.stack.lt ob (by simp);have n0b:¬0=ob:=h.ne (by simp);have g4:=W4 hc (.d (.int .i64 t.kind)) (.d (S t.text)) ka qa junk;have gl:=I3 hc (.d (.int .i64 t.kind)) (.d (S t.text)) ka qa junk;obtain ⟨cs,hcs⟩:∃ cs,cs=c++(.d (.int .i64 t.kind)::.d (S t.text)::ka::qa::junk):=⟨_,rfl⟩;rw[<-hcs] at hb g4 gl;have hk1:=hk.shutR (by rw[strs_length,Ad0]);have hq1:=hq.shutR (by rw[Bc,Ad5]);obtain ⟨fk,hk1,hk2,hk3⟩:=hk1;obtain ⟨fq,hq1,hq2,hq3⟩:=hq1;obtain ⟨cf,hcf⟩:=C7 [0,ob,H.length,H.length+1] (by simp only[AbV,AbU,AdH,or_false,not_or,AdM,and_true,not_false_eq_true];omega);have c0:=hcf 0 _ rfl;have c1:=hcf 1 _ rfl;have c2:=hcf 2 _ rfl;have c3:=hcf 3 _ rfl;obtain ⟨H1,hH1⟩:∃ H1,H1=H.set 0 (.box [.d (S rest),.lsl ob 4 0 st.length])++[.box [.d (.int .i64 t.kind),.d (S t.text),ka,qa],.box [.d (.int .i64 t.kind),.d (S t.text),ka,qa]]:=⟨_,rfl⟩;have hlH:H1.length=H.length+2:=by rw[hH1];simp
 have hno:∀ j,j∉ik++iq->j∉AJ (.agg [.d (.int .i64 t.kind),.d (S t.text),ka,qa]):=fun j hj q=>by have e:AJ (.agg [.d (.int .i64 t.kind),.d (S t.text),ka,qa])=AJ ka++(AJ qa++[]):=rfl;rw[e,Adh,hk2,hq2] at q;exact hj q
 have hap:=IP (H0:=H1) (AJ (.agg [.d (.int .i64 t.kind),.d (S t.text),ka,qa])) H1 (fun b hb=>by have e:AJ (.agg [.d (.int .i64 t.kind),.d (S t.text),ka,qa])=AJ ka++(AJ qa++[]):=rfl;rw[e,Adh,hk2,hq2] at hb;have:=h.stack.lt b (by rw[hids];exact AbH _ (AbM _ hb));omega) (by rw[hH1];exact (h.nox.set _ (by simp)).app (by simp[NoX]));have hkf:∀ b∈ik++iq,H1[b]?=H[b]?:=fun b hb=>by
  have hb':b∈ob::ids:=by rw[hids];exact AbH _ (AbM _ hb)
  rw[hH1,Az (by have:=h.stack.lt b hb';simpa using this),Ao (h.ne hb')]
 obtain ⟨fk,hsk,hk2',hk3'⟩:=(hk.frame fun b hb=>hkf b (AbO _ hb)).shutR (by rw[strs_length,Ad0]);obtain ⟨fq,hsq,hq2',hq3'⟩:=(hq.frame fun b hb=>hkf b (AbM _ hb)).shutR (by rw[Bc,Ad5]);refine ⟨i,applyW H1 (frz H1 (AJ (.agg [.d (.int .i64 t.kind),.d (S t.text),ka,qa]))),Ctr.bodyI (M:=M0) Al Tryz.func82 rfl go82 ?h1 ?h2,?h3⟩;case h2 =>
  simp(disch:=(try simp only[Ad]);omega)only[Ag,Ai,Af,Tryz.f82,q0,hb,g4,gl,hk3,hq3,AG,↓Ac,Ae,↓reduceIte,↓reduceDIte,↓Qe,Qu,Qv,Qw,Qx,Qy,Qz,QA,QB,QC,QD,QE,QF,QG,QH,QI,QK];first
  | refine ⟨by show (AV.one ka && AV.one qa)=true;rw[hk3,hq3];rfl,AD cf (by simp(disch:=omega)only[Bf,AP,AO,Ba,A9,and_self]) (by simp only[Ady,Adz,c0,c1,c2,c3];rfl),by rfl,by show (AV.one ka && AV.one qa)=true;rw[hk3,hq3];rfl,?_⟩
  | refine ⟨AD cf (by simp(disch:=omega)only[Bf,AP,AO,Ba,A9,and_self]) (by simp only[Ady,Adz,c0,c1,c2,c3];rfl),by rfl,?_⟩
  | refine ⟨AD cf (by simp(disch:=omega)only[Bf,AP,AO,Ba,A9,and_self]) (by simp only[Ady,Adz,c0,c1,c2,c3];rfl),?_⟩
  rw[<-hH1];have hids1:AJ (.agg [.d (.int .i64 t.kind),.d (S t.text),ka,qa])=AJ ka++(AJ qa++[]):=rfl;refine .inl (.inr ⟨.agg [.int .i64 t.kind,S t.text,.sl t.keys.length fk (strs t.keys),.sl t.kids.length fq (A0 t.kids)],?_,hap.1,?_,?_⟩);·simp only[sealA,sealL,hsk,hsq]
  ·rw[show NdD t=.agg (ndC t) from rfl,Abh];rfl
  first | done | rfl | (rw[hids1,Adh];done)
 case h1=>exact hap.2.2.2.ok
 case h3 =>
  have hnd:=h.stack.nd;rw[hids] at hnd;refine ⟨⟨?_,?_,fun b hb=>h.pos b ?_,hap.2.2.2⟩,⟨?_,fun j j0 jl jn=>?_,fun j hj=>?_⟩⟩;·rw[hap.2.2.1 0 (hno 0 fun q=>?_),hH1,Az (by simpa using l0),Bt l0];have:=h.pos 0 (by rw[hids];exact AbH _ (AbM _ q));omega
  ·refine ⟨⟨c,.inl ⟨.d (.int .i64 t.kind)::.d (S t.text)::ka::qa::junk,?_⟩,hs.frame fun b hb=>?_⟩,?_⟩
   ·rw[hap.2.2.1 ob (hno ob fun q=>?_),hH1,Az (by simpa using lb),Ao n0b];·rw[<-hcs];exact hb
    exact (AbV.1 hnd).1 (AbM _ q)
   ·rw[hap.2.2.1 b (hno b fun q=>?_),hH1,Az (by have:=hs.lt b hb;simpa using this),Ao (h.ne (by rw[hids];exact AbH _ (AbO _ hb)))];exact (AbT.1 (AbV.1 hnd).2).2.2 b hb b q rfl
   exact AbV.2 ⟨fun q=>(AbV.1 hnd).1 (AbO _ q),(AbT.1 (AbV.1 hnd).2).1⟩
  ·rw[hids];rcases AbU.1 hb with rfl | hb
   ·simp
   exact AbH _ (AbO _ hb)
  ·rw[hap.2.1,hH1];simp
  ·rw[hids] at jn;rw[hap.2.2.1 j (hno j fun q=>jn (AbH _ (AbM _ q))),hH1,Az (by simpa using jl),Ao (by omega)]
  refine .inl ?_;rw[hids];rcases AbU.1 hj with rfl | hj
  ·simp
  exact AbH _ (AbO _ hj)
def Cj.mk_top {r1:List UInt8} {t:Nd} {st:List Nd} {ob:Nat} {H K:List Aa} {c junk:List AV} {i ik iq:List Nat} {ka qa:AV}
  (k0:K[0]?=some (.box [.d (S r1),.lsl ob 4 0 (st.length+1)])) (kb:K[ob]?=some (.box (c++(.d (.int .i64 t.kind)::.d (S t.text)::ka::qa::junk)))) (hs:Lo [] H st c i) (hf:∀ b∈i,K[b]?=H[b]?)
  (hk:AbB t ka ik K) (hq:Abz t qa iq K) (hn:(ob::(i++(ik++iq))).Nodup) (hp:∀ b∈ob::(i++(ik++iq)),0<b) (hx:NoX K):Cj r1 (t::st) ob (i++(ik++iq)) K :=
 ⟨k0,⟨⟨c++TZ [] t ka qa,.inl ⟨junk,by rw[kb];simp[TZ]⟩,c,i,ka,ik,qa,iq,hs.frame hf,hk,hq,rfl,rfl⟩,hn⟩,hp,hx⟩
def MK7:B0:=fun k=>AdK k 4000115 || AdK k 4000080
def KT:MK7 4000115=true:=rfl
def KS:MK7 4000080=true:=rfl
def Hs {k:Nat} (h:¬(k=4000115\/k=4000080)):MK7 k=false:=by
 cases e:MK7 k with
 | false=>rfl
 | true =>
  unfold MK7 at e;simp only[AdR] at e;rcases e with e | e
  ·exact absurd (.inl (Ac8 e)) h
  exact absurd (.inr (Ac8 e)) h
def Ye (rest:List UInt8) {t:Nd} (st:List Nd) (h:t.kind=5):Eo rest t st=.beg rest (t::st):=by unfold Eo;rw[if_pos h]
def Sh {rest:List UInt8} {t:Nd} (st:List Nd) (h:¬t.kind=5) (h1:(quo rest).2.2=true) (h2:(sgn 58 (quo rest).1).2=true):Eo rest t st=.beg (sgn 58 (quo rest).1).1 (Es t (quo rest).2.1::st):=by unfold Eo;rw[if_neg h,if_pos ⟨h1,h2⟩]
def LD {rest:List UInt8} {t:Nd} (st:List Nd) (h:¬t.kind=5) (h1:¬((quo rest).2.2=true/\(sgn 58 (quo rest).1).2=true)):Eo rest t st=.bad:=by unfold Eo;rw[if_neg h,if_neg h1]
def AbA (x:PSt) (ob:Nat) (b:Bool) (ids:List Nat) (H:List Aa):Prop:=match x with
 | .beg r st=>b=true/\Cj r st ob ids H
 | _=>b=false
def HQ {rest:List UInt8} {t:Nd} {st:List Nd} {ob:Nat} {ids:List Nat} {H:List Aa} (h:Cj rest (t::st) ob ids H) (hst:st.length<=1000000000) (hr:rest.length<=1000000000) (hkl:t.keys.length<=1000000000) :
  ∃ b ids' H',Ctr TP G 81 [.ptr 0 0] H (.d (.bool b)) H'/\NoX H'/\Co (ob::ids) H (ob::ids') H'/\AbA (Eo rest t st) ob b ids' H':=by
 have hsig:=fun (r:List UInt8) (hr:r.length<=1000000000) v=>F4 (G:=G) 58 r (by omega) v;obtain ⟨c,junk,i,ka,ik,qa,iq,hb,hc,hs,hk,hq,hids⟩:=h.top;have q0:=h.box;rw[AbY] at q0;have l0:0<H.length:=(AbR.1 q0).1;have lb:ob<H.length:=h.stack.lt ob (by simp);have n0b:¬0=ob:=h.ne (by simp);have nb0:¬ob=0:=fun e=>n0b e.symm;have hnd:=h.stack.nd;have hpos:=h.pos;have hlt:=h.stack.lt;rw[hids] at hnd hpos hlt;have g0:=I4 hc (.d (.int .i64 t.kind)) (.d (S t.text)) ka qa junk;have g2:=W8 hc (.d (.int .i64 t.kind)) (.d (S t.text)) ka qa junk;have gl:=I3 hc (.d (.int .i64 t.kind)) (.d (S t.text)) ka qa junk;have gs:=fun x=>W6 hc (.d (.int .i64 t.kind)) (.d (S t.text)) ka qa x junk;have hqu:=h.lift (G:=G) (r':=(quo rest).1) (fun v=>Jh (G:=G) rest hr v) (by simp);rw[AbY] at hqu;obtain ⟨cs,hcs⟩:∃ cs,cs=c++(.d (.int .i64 t.kind)::.d (S t.text)::ka::qa::junk):=⟨_,rfl⟩;rw[<-hcs] at hb g0 g2 gl gs;by_cases k5:t.kind=5
 ·refine ⟨true,ids,H,Ctr.bodyI (M:=MK7) Al Tryz.func81 rfl Yl h.nox.ok ?_,h.nox,Co.refl _ _,?_⟩;·simp(disch:=(try simp only[Ad]);omega)only[Ag,Ai,Af,Hs,Tryz.f81,q0,hb,g0,gl,k5,AG,↓Ac,Ae,↓reduceIte,↓reduceDIte,↓Qe,Qu,Qv,Qw,Qx,Qy,Qz,QA,QB,QC,QD,QE,QF,QG,QH,QI,QK];exact ⟨by rfl,.inr ⟨rfl,.inl rfl⟩⟩
  rw[Ye rest st k5];exact ⟨rfl,h⟩
 have hql:=U4 rest;generalize hqe:quo rest=qr at *;obtain ⟨q1,q2,q3⟩:=qr;simp only at hql hqu;rcases hk with ⟨kn,ka0,ik0⟩ | ⟨kn,kb,ka0,ik0,hkb⟩
 ·subst ka0;obtain ⟨H2,hH2⟩:∃ H2,H2=(H.set 0 (.box [.d (S q1),.lsl ob 4 0 (st.length+1)])).set ob (.box (c++(.d (.int .i64 t.kind)::.d (S t.text)::.lsl (H.length+1) 1 0 1::qa::junk)))++[.row false [S q2],.row false [S q2]]:=⟨_,rfl⟩;have hl2:H2.length=H.length+2:=by rw[hH2];simp
  have x2:NoX H2:=by rw[hH2];exact ((h.nox.set _ (by simp)).set _ (by simp)).app (by simp[NoX])
  have f2:∀ b,b<H.length->¬b=0->¬b=ob->H2[b]?=H[b]?:=fun b hb1 hb2 hb3=>by rw[hH2,Az (by simpa using hb1),Ao (fun e=>hb3 e.symm),Ao (fun e=>hb2 e.symm)]
  have e20:H2[0]?=some (.box [.d (S q1),.lsl ob 4 0 (st.length+1)]):=by rw[hH2,Az (by simpa using l0),Ao nb0,Bt l0]
  have e2b:H2[ob]?=some (.box (c++(.d (.int .i64 t.kind)::.d (S t.text)::.lsl (H.length+1) 1 0 (t.keys.length+1)::qa::junk))):=by rw[hH2,Az (by simpa using lb),Bt (by simpa using lb),kn]
  have e2n:H2[H.length+1]?=some (.row false (strs (t.keys++[q2]))):=by rw[hH2,AR (by simp)];simp[strs,Adt.1 kn]
  have hne:∀ b,b∈ob::(i++(ik++iq))->¬b=H.length+1:=fun b hb=>by have:=hlt b hb;omega
  have hnd2:(ob::(i++([H.length+1]++iq))).Nodup:=by
   have q1:=AbV.1 hnd;have q2:=AbT.1 q1.2;have q3:=AbT.1 q2.2.1;refine AbV.2 ⟨fun q=>?_,AbT.2 ⟨q2.1,AbT.2 ⟨by simp,q3.2.1,fun x hx y hy e=>?_⟩,fun x hx y hy e=>?_⟩⟩
   ·rcases AbP.1 q with q | q
    ·exact q1.1 (AbO _ q)
    rcases AbP.1 q with q | q
    ·exact hne ob (by simp) (AbQ.1 q)
    exact q1.1 (AbM _ (AbM _ q))
   ·rw[AbQ.1 hx] at e;exact hne y (AbH _ (AbM _ (AbM _ hy))) e.symm
   subst e;rcases AbP.1 hy with hy | hy
   ·exact hne x (AbH _ (AbO _ hx)) (AbQ.1 hy)
   exact q2.2.2 x hx x (AbM _ hy) rfl
  have hold:∀ b,b∈i++iq->b<H.length/\¬b=0/\¬b=ob:=fun b hb=>by have hm:b∈i++(ik++iq):=(by rcases AbP.1 hb with hb | hb;exact AbO _ hb;exact AbM _ (AbM _ hb));refine ⟨hlt b (AbH _ hm),fun e=>by have:=hpos b (AbH _ hm);omega,fun e=>(AbV.1 hnd).1 (e▸hm)⟩
  have P2:Cj q1 (Es t q2::st) ob (i++([H.length+1]++iq)) H2:=by
   refine Cj.mk_top (t:=Es t q2) e20 e2b hs (fun b hb=>f2 b (hold b (AbO _ hb)).1 (hold b (AbO _ hb)).2.1 (hold b (AbO _ hb)).2.2) (.inr ⟨by simp[Es,Nd.keys],_,by simp[Es,Nd.keys],rfl,e2n⟩) (hq.frame fun b hb=>f2 b (hold b (AbM _ hb)).1 (hold b (AbM _ hb)).2.1 (hold b (AbM _ hb)).2.2) hnd2 (fun b hb=>?_) x2;rcases AbU.1 hb with hb | hb
   ·rw[hb];exact hpos ob (by simp)
   rcases AbP.1 hb with hb | hb
   ·exact hpos b (AbH _ (AbO _ hb))
   rcases AbP.1 hb with hb | hb
   ·rw[AbQ.1 hb];omega
   exact hpos b (AbH _ (AbM _ (AbM _ hb)))
  have K2:Co (ob::ids) H (ob::(i++([H.length+1]++iq))) H2:=by
   rw[hids];refine ⟨by omega,fun j j0 jl jn=>f2 j jl (by omega) (fun e=>jn (by rw[e];simp)),fun j hj=>?_⟩;rcases AbU.1 hj with hj | hj
   ·rw[hj];simp
   rcases AbP.1 hj with hj | hj
   ·exact .inl (AbH _ (AbO _ hj))
   rcases AbP.1 hj with hj | hj
   ·rw[AbQ.1 hj];exact .inr (by omega)
   exact .inl (AbH _ (AbM _ (AbM _ hj)))
  have sl:=@strs_length t.keys;cases q3 with
  | false =>
   refine ⟨false,_,H2,Ctr.bodyI (M:=MK7) Al Tryz.func81 rfl Yl x2.ok ?_,x2,K2,by rw[LD st k5 (by rw[hqe];simp)];rfl⟩;simp(disch:=(try simp only[Ad]);omega)only[Ag,Ai,Af,Hs,KT,KS,Tryz.f81,q0,hb,g0,g2,gl,gs,k5,sl,AG,↓Ac,Ae,↓reduceIte,↓reduceDIte,↓Qe,Qu,Qv,Qw,Qx,Qy,Qz,QA,QB,QC,QD,QE,QF,QG,QH,QI,QK];refine ⟨by rfl,?_⟩;refine Aq.go hqu ⟨.inl rfl,trivial⟩ (by simp) ?_;simp(disch:=(try simp only[Ad]);omega)only[Ag,Ai,Af,Hs,KT,KS,Tryz.f81,q0,hb,g0,g2,gl,gs,k5,sl,AG,↓Ac,Ae,↓reduceIte,↓reduceDIte,↓Qe,Qu,Qv,Qw,Qx,Qy,Qz,QA,QB,QC,QD,QE,QF,QG,QH,QI,QK];first
   | exact .inr ⟨hH2,.inl rfl⟩
  | true =>
   have hsg:=P2.lift (G:=G) (r':=(sgn 58 q1).1) (fun v=>hsig q1 (by omega) v) (by simp);obtain ⟨P3,K3⟩:=P2.rest (r':=(sgn 58 q1).1);refine ⟨(sgn 58 q1).2,_,_,Ctr.bodyI (M:=MK7) Al Tryz.func81 rfl Yl P3.nox.ok ?_,P3.nox,K2.trans K3,?_⟩
   ·simp(disch:=(try simp only[Ad]);omega)only[Ag,Ai,Af,Hs,KT,KS,Tryz.f81,q0,hb,g0,g2,gl,gs,k5,sl,AG,↓Ac,Ae,↓reduceIte,↓reduceDIte,↓Qe,Qu,Qv,Qw,Qx,Qy,Qz,QA,QB,QC,QD,QE,QF,QG,QH,QI,QK];refine ⟨by rfl,?_⟩;refine Aq.go hqu ⟨.inl rfl,trivial⟩ (by simp) ?_;simp(disch:=(try simp only[Ad]);omega)only[Ag,Ai,Af,Hs,KT,KS,Tryz.f81,q0,hb,g0,g2,gl,gs,k5,sl,AG,↓Ac,Ae,↓reduceIte,↓reduceDIte,↓Qe,Qu,Qv,Qw,Qx,Qy,Qz,QA,QB,QC,QD,QE,QF,QG,QH,QI,QK];rw[<-hH2];refine Aq.go hsg ⟨.inl rfl,.inl rfl,trivial⟩ (by simp) ?_;simp(disch:=(try simp only[Ad]);omega)only[Ag,Ai,Af,Hs,AG,↓Ac,Ae,↓reduceIte,↓reduceDIte,↓Qe,Qu,Qv,Qw,Qx,Qy,Qz,QA,QB,QC,QD,QE,QF,QG,QH,QI,QK];first
    | exact .inr ⟨rfl,.inl rfl⟩
   cases hs2:(sgn 58 q1).2 with
   | false=>rw[LD st k5 (by rw[hqe];simp[hs2])];rfl
   | true =>rw[Sh st k5 (by rw[hqe]) (by rw[hqe];exact hs2),hqe];exact ⟨rfl,P3⟩
 subst ka0;have hkm:kb∈i++(ik++iq):=AbM _ (AbO _ (by rw[ik0];simp));have nkb0:¬kb=0:=fun e=>by have:=hpos kb (AbH _ hkm);omega
 have n0kb:¬0=kb:=fun e=>nkb0 e.symm;have lkb:kb<H.length:=hlt kb (AbH _ hkm);have nkbo:¬kb=ob:=fun e=>(AbV.1 hnd).1 (e▸hkm);have nokb:¬ob=kb:=fun e=>nkbo e.symm;obtain ⟨H2,hH2⟩:∃ H2,H2=((H.set 0 (.box [.d (S q1),.lsl ob 4 0 (st.length+1)])).set kb .dead).set ob (.box (c++(.d (.int .i64 t.kind)::.d (S t.text)::.lsl (H.length+1) 1 0 (t.keys.length+1)::qa::junk)))++[.row false [S q2],.row false (strs t.keys++[S q2])]:=⟨_,rfl⟩;have hl2:H2.length=H.length+2:=by rw[hH2];simp
 have x2:NoX H2:=by rw[hH2];exact (((h.nox.set _ (by simp)).set _ (by simp)).set _ (by simp)).app (by simp[NoX])
 have f2:∀ b,b<H.length->¬b=0->¬b=ob->¬b=kb->H2[b]?=H[b]?:=fun b hb1 hb2 hb3 hb4=>by rw[hH2,Az (by simpa using hb1),Ao (fun e=>hb3 e.symm),Ao (fun e=>hb4 e.symm),Ao (fun e=>hb2 e.symm)]
 have e20:H2[0]?=some (.box [.d (S q1),.lsl ob 4 0 (st.length+1)]):=by rw[hH2,Az (by simpa using l0),Ao nb0,Ao nkb0,Bt l0]
 have e2b:H2[ob]?=some (.box (c++(.d (.int .i64 t.kind)::.d (S t.text)::.lsl (H.length+1) 1 0 (t.keys.length+1)::qa::junk))):=by rw[hH2,Az (by simpa using lb),Bt (by simpa using lb)]
 have e2n:H2[H.length+1]?=some (.row false (strs (t.keys++[q2]))):=by rw[hH2,AR (by simp)];simp[strs]
 have hne:∀ b,b∈ob::(i++(ik++iq))->¬b=H.length+1:=fun b hb=>by have:=hlt b hb;omega
 have hnd2:(ob::(i++([H.length+1]++iq))).Nodup:=by
  have q1:=AbV.1 hnd;have q2:=AbT.1 q1.2;have q3:=AbT.1 q2.2.1;refine AbV.2 ⟨fun q=>?_,AbT.2 ⟨q2.1,AbT.2 ⟨by simp,q3.2.1,fun x hx y hy e=>?_⟩,fun x hx y hy e=>?_⟩⟩
  ·rcases AbP.1 q with q | q
   ·exact q1.1 (AbO _ q)
   rcases AbP.1 q with q | q
   ·exact hne ob (by simp) (AbQ.1 q)
   exact q1.1 (AbM _ (AbM _ q))
  ·rw[AbQ.1 hx] at e;exact hne y (AbH _ (AbM _ (AbM _ hy))) e.symm
  subst e;rcases AbP.1 hy with hy | hy
  ·exact hne x (AbH _ (AbO _ hx)) (AbQ.1 hy)
  exact q2.2.2 x hx x (AbM _ hy) rfl
 have hold:∀ b,b∈i++iq->b<H.length/\¬b=0/\¬b=ob/\¬b=kb:=fun b hb=>by
  have hm:b∈i++(ik++iq):=by rcases AbP.1 hb with hb | hb;exact AbO _ hb;exact AbM _ (AbM _ hb)
  refine ⟨hlt b (AbH _ hm),fun e=>by have:=hpos b (AbH _ hm);omega,fun e=>(AbV.1 hnd).1 (e▸hm),fun e=>?_⟩;subst e;have q2:=AbT.1 (AbV.1 hnd).2;have q3:=AbT.1 q2.2.1;rcases AbP.1 hb with hb | hb
  ·exact q2.2.2 b hb b (AbO _ (by rw[ik0];simp)) rfl
  exact q3.2.2 b (by rw[ik0];simp) b hb rfl
 have P2:Cj q1 (Es t q2::st) ob (i++([H.length+1]++iq)) H2:=by
  refine Cj.mk_top (t:=Es t q2) e20 e2b hs (fun b hb=>f2 b (hold b (AbO _ hb)).1 (hold b (AbO _ hb)).2.1 (hold b (AbO _ hb)).2.2.1 (hold b (AbO _ hb)).2.2.2) (.inr ⟨by simp[Es,Nd.keys],_,by simp[Es,Nd.keys],rfl,e2n⟩) (hq.frame fun b hb=>f2 b (hold b (AbM _ hb)).1 (hold b (AbM _ hb)).2.1 (hold b (AbM _ hb)).2.2.1 (hold b (AbM _ hb)).2.2.2) hnd2 (fun b hb=>?_) x2;rcases AbU.1 hb with hb | hb
  ·rw[hb];exact hpos ob (by simp)
  rcases AbP.1 hb with hb | hb
  ·exact hpos b (AbH _ (AbO _ hb))
  rcases AbP.1 hb with hb | hb
  ·rw[AbQ.1 hb];omega
  exact hpos b (AbH _ (AbM _ (AbM _ hb)))
 have K2:Co (ob::ids) H (ob::(i++([H.length+1]++iq))) H2:=by
  rw[hids];refine ⟨by omega,fun j j0 jl jn=>f2 j jl (by omega) (fun e=>jn (by rw[e];simp)) (fun e=>jn (by rw[e,ik0];simp)),fun j hj=>?_⟩;rcases AbU.1 hj with hj | hj
  ·rw[hj];simp
  rcases AbP.1 hj with hj | hj
  ·exact .inl (AbH _ (AbO _ hj))
  rcases AbP.1 hj with hj | hj
  ·rw[AbQ.1 hj];exact .inr (by omega)
  exact .inl (AbH _ (AbM _ (AbM _ hj)))
 have sl:=@strs_length t.keys;cases q3 with
 | false =>
  refine ⟨false,_,H2,Ctr.bodyI (M:=MK7) Al Tryz.func81 rfl Yl x2.ok ?_,x2,K2,by rw[LD st k5 (by rw[hqe];simp)];rfl⟩;simp(disch:=(try simp only[Ad]);omega)only[Ag,Ai,Af,Hs,KT,KS,Tryz.f81,q0,hb,g0,g2,gl,gs,k5,sl,AG,↓Ac,Ae,↓reduceIte,↓reduceDIte,↓Qe,Qu,Qv,Qw,Qx,Qy,Qz,QA,QB,QC,QD,QE,QF,QG,QH,QI,QK];refine ⟨by rfl,?_⟩;refine Aq.go hqu ⟨.inl rfl,trivial⟩ (by simp) ?_;simp(disch:=(try simp only[Ad]);omega)only[Ag,Ai,Af,Hs,KT,KS,Tryz.f81,q0,hb,g0,g2,gl,gs,k5,sl,hkb,AG,↓Ac,Ae,↓reduceIte,↓reduceDIte,↓Qe,Qu,Qv,Qw,Qx,Qy,Qz,QA,QB,QC,QD,QE,QF,QG,QH,QI,QK];first
  | exact .inr ⟨hH2,.inl rfl⟩
 | true =>
  have hsg:=P2.lift (G:=G) (r':=(sgn 58 q1).1) (fun v=>hsig q1 (by omega) v) (by simp);obtain ⟨P3,K3⟩:=P2.rest (r':=(sgn 58 q1).1);refine ⟨(sgn 58 q1).2,_,_,Ctr.bodyI (M:=MK7) Al Tryz.func81 rfl Yl P3.nox.ok ?_,P3.nox,K2.trans K3,?_⟩
  ·simp(disch:=(try simp only[Ad]);omega)only[Ag,Ai,Af,Hs,KT,KS,Tryz.f81,q0,hb,g0,g2,gl,gs,k5,sl,AG,↓Ac,Ae,↓reduceIte,↓reduceDIte,↓Qe,Qu,Qv,Qw,Qx,Qy,Qz,QA,QB,QC,QD,QE,QF,QG,QH,QI,QK];refine ⟨by rfl,?_⟩;refine Aq.go hqu ⟨.inl rfl,trivial⟩ (by simp) ?_;simp(disch:=(try simp only[Ad]);omega)only[Ag,Ai,Af,Hs,KT,KS,Tryz.f81,q0,hb,g0,g2,gl,gs,k5,sl,hkb,AG,↓Ac,Ae,↓reduceIte,↓reduceDIte,↓Qe,Qu,Qv,Qw,Qx,Qy,Qz,QA,QB,QC,QD,QE,QF,QG,QH,QI,QK];rw[<-hH2];refine Aq.go hsg ⟨.inl rfl,.inl rfl,trivial⟩ (by simp) ?_;simp(disch:=(try simp only[Ad]);omega)only[Ag,Ai,Af,Hs,AG,↓Ac,Ae,↓reduceIte,↓reduceDIte,↓Qe,Qu,Qv,Qw,Qx,Qy,Qz,QA,QB,QC,QD,QE,QF,QG,QH,QI,QK];first
   | exact .inr ⟨rfl,.inl rfl⟩
  cases hs2:(sgn 58 q1).2 with
  | false=>rw[LD st k5 (by rw[hqe];simp[hs2])];rfl
  | true =>rw[Sh st k5 (by rw[hqe]) (by rw[hqe];exact hs2),hqe];exact ⟨rfl,P3⟩
def MB7:B0:=fun k=>AdK k 2000027 || (AdK k 2000028 || (AdK k 4000113 || (AdK k 4000080 || (AdK k 4000082 || AdK k 4000081))))
def Ads:MB7 2000027=true:=rfl
def Adr:MB7 2000028=true:=rfl
def Adq:MB7 4000113=true:=rfl
def Adp:MB7 4000080=true:=rfl
def Ado:MB7 4000082=true:=rfl
def Adn:MB7 4000081=true:=rfl
def Adm {k:Nat} (h:¬(k=2000027\/k=2000028\/k=4000113\/k=4000080\/k=4000082\/k=4000081)):MB7 k=false:=by
 cases e:MB7 k with
 | false=>rfl
 | true =>
  unfold MB7 at e;simp only[AdR] at e;rcases e with e | e | e | e | e | e
  ·exact absurd (.inl (Ac8 e)) h
  ·exact absurd (.inr (.inl (Ac8 e))) h
  ·exact absurd (.inr (.inr (.inl (Ac8 e)))) h
  ·exact absurd (.inr (.inr (.inr (.inl (Ac8 e))))) h
  ·exact absurd (.inr (.inr (.inr (.inr (.inl (Ac8 e)))))) h
  exact absurd (.inr (.inr (.inr (.inr (.inr (Ac8 e)))))) h
set_option linter.defProp false in
def MBX := And.intro @Adm (And.intro @Ads (And.intro @Adr (And.intro @Adq (And.intro @Adp (And.intro @Ado (And.intro @Adn (And.intro (show FK MB7 (some 27)=true from rfl) ((show FK MB7 (some 28)=true from rfl)))))))))
def AbD (x:PSt) (n:Nd) (c b:Bool) (ob:Nat) (ids:List Nat) (H:List Aa):Prop:=match x with
 | .beg r st=>c=false/\b=true/\Cj r st ob ids H
 | .got r st m=>n=m/\c=true/\b=true/\Cj r st ob ids H
 | .bad=>b=false
def Cj.other {r:List UInt8} {st:List Nd} {ob:Nat} {ids:List Nat} {H:List Aa} (h:Cj r st ob ids H) {j:Nat} {b:Aa} (j0:¬j=0) (hj:j∉ob::ids) (hb:∀ J t,b≠.ext J t):Cj r st ob ids (H.set j b) :=
 ⟨by rw[Ao j0];exact h.box,h.stack.frame fun x hx=>Ao fun e=>hj (e▸hx),h.pos,h.nox.set _ hb⟩
def Co.set {F F':List Nat} {H H':List Aa} (h:Co F H F' H') {j:Nat} (hj:H.length<=j) (b:Aa):Co F H F' (H'.set j b) :=
 ⟨by rw[Ac6];exact h.len,fun i h0 hi hn=>by rw[Ao (by omega)];exact h.keep i h0 hi hn,h.old⟩
def JH {r:List UInt8} {t:Nd} {st:List Nd} {b:Bool} {ob:Nat} {ids:List Nat} {H:List Aa} (h:AbA (Eo r t st) ob b ids H) {j:Nat} {x:AV} {l:List AV} (j0:¬j=0) (hj:j∉ob::ids) :
  AbD (Eo r t st) noN false b ob ids (H.set j (.box (x::l))):=by
 unfold AbA at h;have hk:∀ y,Eo r t st=y->(∃ a c,y=.beg a c)\/y=.bad:=by
  intro y e;unfold Eo at e;split at e;·exact .inl ⟨_,_,e.symm⟩
  split at e;·exact .inl ⟨_,_,e.symm⟩
  exact .inr e.symm
 rcases hk _ rfl with ⟨a,c,e⟩ | e
 ·rw[e] at h ⊢;exact ⟨rfl,h.1,h.2.other j0 hj (by simp)⟩
 rw[e] at h ⊢;exact h
def Gn {rest r:List UInt8} {st:List Nd} {ob:Nat} {ids:List Nat} {H H2:List Aa} {cells:List AV} {k:Int} (h:Cj rest st ob ids H) (hs:Lo [] H st cells ids) (l2:H2.length=H.length+3)
  (e0:H2[0]?=some (.box [.d (S r),.lsl (H.length+2) 4 0 (st.length+1)])) (ef:∀ j,j≠0->j<H.length->j≠ob->H2[j]?=H[j]?) (e1:H2[H.length]?=some (.box zN))
  (e2:H2[H.length+2]?=some (.box (cells++(.d (.int .i64 k)::.d (.str ByteArray.empty)::.d (.sl 0 true [])::.d (.sl 0 true [])::[])))) (hx:NoX H2) :
  Cj r (.mk k [] [] []::st) (H.length+2) ids H2/\Co (ob::ids) H ((H.length+2)::ids) H2/\H2[H.length]?=some (.box zN):=by
 have hnd:=AbV.1 h.stack.nd;have hlt:=h.stack.lt;have h0:0<H.length:=(AbR.1 h.box).1;have P:=Cj.mk_top (r1:=r) (t:=.mk k [] [] []) (ik:=[]) (iq:=[]) (ka:=.d (.sl 0 true [])) (qa:=.d (.sl 0 true [])) (junk:=[]) e0 e2 hs (fun b hb=>ef b (fun e=>by have:=h.pos b (AbH _ hb);omega) (hlt b (AbH _ hb)) fun e=>hnd.1 (e▸hb)) (.inl ⟨rfl,rfl,rfl⟩) (.inl ⟨rfl,rfl,rfl⟩)
  (by rw[Adh,Adh];exact AbV.2 ⟨fun q=>by have:=hlt _ (AbH _ q);omega,hnd.2⟩) (fun b hb=>by
   rw[Adh,Adh] at hb;rcases AbU.1 hb with hb | hb
   ·omega
   exact h.pos b (AbH _ hb)) hx
 rw[Adh,Adh] at P;refine ⟨P,⟨by omega,fun i i0 il hn=>ef i (by omega) il fun e=>hn (by rw[e];simp),fun i hi=>?_⟩,e1⟩;rcases AbU.1 hi with hi | hi
 ·exact .inr (by omega)
 exact .inl (AbH _ hi)
def Co.not_mem {F F':List Nat} {H H':List Aa} (k:Co F H F' H') {j:Nat} (hj:j∉F) (hl:j<H.length):j∉F':=fun q=>by
 rcases k.old j q with q | q
 ·exact hj q
 omega
def WI {rest:List UInt8} {st:List Nd} {ob:Nat} {ids:List Nat} {H:List Aa} (h:Cj rest st ob ids H) (hst:st.length<=900000000) (hr:rest.length<=1000000000) :
  ∃ n c b ob' ids' H',Ctr TP G 79 [.ptr 0 0] H (.d (.tup [NdD n,.bool c,.bool b])) H'/\NoX H'/\Co (ob::ids) H (ob'::ids') H'/\AbD (CF rest st) n c b ob' ids' H':=by
 have hsig:=fun (c:UInt8) (r:List UInt8) (hr:r.length<=1000000000) v=>F4 (G:=G) c r (by omega) v;have q0:=h.box;have l0:0<H.length:=(AbR.1 q0).1;have lb:ob<H.length:=h.stack.lt ob (by simp);have n0b:¬0=ob:=h.ne (by simp);have nb0:¬ob=0:=fun e=>n0b e.symm;obtain ⟨P1,K1⟩:=h.app (E:=[.box zN]) (by simp[NoX]);have s1:=P1.lift (G:=G) (r':=(sgn 91 rest).1) (fun v=>hsig 91 rest hr v) (by simp);obtain ⟨P2,K2⟩:=P1.rest (r':=(sgn 91 rest).1);have hl1:=A7 91 rest;obtain ⟨cf,hcf⟩:=C7 [0,ob,H.length,H.length+1,H.length+2] (by simp only[AbV,AbU,AdH,or_false,not_or,AdM,and_true,not_false_eq_true];omega);have c0:=hcf 0 _ rfl;have c1:=hcf 1 _ rfl;have c2:=hcf 2 _ rfl;have c3:=hcf 3 _ rfl;have c4:=hcf 4 _ rfl;cases h91:(sgn 91 rest).2 with
 | true =>
  obtain ⟨cells,ho,hs⟩:=h.stack.stk;rcases ho with ⟨junk,ho⟩ | ⟨ho1,ho⟩
  ·have hcl:=hs.len;simp only[Ac7,AdQ] at hcl;have htk:(cells++junk).take (st.length*4)=cells:=(by rw[<-hcl,AdG])
   have htk2:∀ x,Ad2 (st.length*4) (cells++x)=cells:=fun x=>by rw[<-hcl,AdG]
   have hdr2:∀ x y z w:AV,Ad3 (st.length*4+4) (cells++[x,y,z,w])=[]:=fun x y z w=>AdE (by simp[hcl]);obtain ⟨cs,hcs⟩:∃ cs,cs=cells++junk:=⟨_,rfl⟩;rw[<-hcs] at ho htk;obtain ⟨r,hr1⟩:∃ r,r=(sgn 91 rest).1:=⟨_,rfl⟩;have hrl:r.length<=1000000000:=(by rw[hr1];omega)
   obtain ⟨H2,hH2⟩:∃ H2,H2=((H.set 0 (.box [.d (S r),.lsl ob 4 0 st.length])).set ob .dead).set 0 (.box [.d (S r),.lsl (H.length+2) 4 0 (st.length+1)])++[.box zN,.box [.d (.int .i64 0),.d (.str {data:=#[]}),.d (.sl 0 true []),.d (.sl 0 true [])],.box (cells++(.d (.int .i64 5)::.d (.str ByteArray.empty)::.d (.sl 0 true [])::.d (.sl 0 true [])::[]))]:=⟨_,rfl⟩;obtain ⟨P3,K3,e3⟩:Cj r (.mk 5 [] [] []::st) (H.length+2) ids H2/\Co (ob::ids) H ((H.length+2)::ids) H2/\H2[H.length]?=some (.box zN):=Gn h hs (by rw[hH2];simp) (by rw[hH2,Az (by simpa using l0),Bt (by simpa using l0)]<;>rfl) (fun j j0 jl jo=>by rw[hH2,Az (by simpa using jl),Ao (Ne.symm j0),Ao (Ne.symm jo),Ao (Ne.symm j0)]) (by rw[hH2,AR (by simp)];simp) (by rw[hH2,AR (by simp)];simp) (by rw[hH2];exact (((h.nox.set _ (by simp)).set _ (by simp)).set _ (by simp)).app (by simp[NoX]));have s3:=P3.lift (G:=G) (r':=(sgn (AH 5) r).1) (fun v=>hsig (AH 5) r hrl v) (by simp);obtain ⟨P4,K4⟩:=P3.rest (r':=(sgn (AH 5) r).1);have hl4:=A7 (AH 5) r;have lH2:H2.length=H.length+3:=(by rw[hH2];simp)
   have hF0:H.length∉(H.length+2)::ids:=fun q=>by rcases AbU.1 q with q | q;omega;have:=h.stack.lt _ (AbH _ q);omega
   have e4:(H2.set 0 (.box [.d (S (sgn (AH 5) r).1),.lsl (H.length+2) 4 0 (st.length+1)]))[H.length]?=some (.box zN):=(by rw[Ao (by omega)];exact e3);have hbp:CF rest st=FH 5 r st:=(by unfold CF;rw[if_pos h91];rw[hr1]);rw[hbp];unfold FH;cases hcl2:(sgn (AH 5) r).2 with
   | true =>
    obtain ⟨ids5,H5,c5,P5,K5⟩:=HL (G:=G) P4 (by omega);have e5:H5[H.length]?=some (.box zN):=(by rw[K5.keep H.length (by omega) (by simp;omega) hF0];exact e4)
    have l5:H.length<H5.length:=(AbR.1 e5).1;have hF:=(K4.trans K5).not_mem hF0 (by omega);refine ⟨(.mk 5 [] [] []),true,true,H.length+2,ids5,H5.set H.length (.box [.d (.int .i64 5),.d (S []),.d (.sl 0 false []),.d (.sl 0 false [])]),Ctr.bodyI (M:=MB7) Al Tryz.func79 rfl PU ?h1 ?h2,?h3,((K3.trans K4).trans K5).set (AbZ _) _,?h4⟩;case h1=>exact (P5.nox.set _ (by simp)).ok
    case h3=>exact P5.nox.set _ (by simp)
    case h4 =>rw[if_pos rfl];exact ⟨rfl,rfl,rfl,P5.other (by omega) hF (by simp)⟩
    case h2 =>
     simp(disch:=(try simp only[Ad]);omega)only[Ag,Ai,Af,MBX,q0,ho,htk,htk2,hdr2,hcl,Tryz.f79,AG,↓Ac,Ae,↓reduceIte,↓reduceDIte,↓Qe,Qu,Qv,Qw,Qx,Qy,Qz,QA,QB,QC,QD,QE,QF,QG,QH,QI,QK];refine Aq.go s1 ⟨.inl rfl,.inl rfl,trivial⟩ (by simp) ?_;rw[h91];simp(disch:=(try simp only[Ad]);omega)only[Ag,Ai,Af,MBX,q0,ho,htk,htk2,hdr2,hcl,AG,↓Ac,Ae,↓reduceIte,↓reduceDIte,↓Qe,Qu,Qv,Qw,Qx,Qy,Qz,QA,QB,QC,QD,QE,QF,QG,QH,QI,QK];refine ⟨AD cf (by simp(disch:=omega)only[Bf,AP,AO,Ba,A9,and_self]) (by simp only[Ady,Adz,c0,c1,c2,c3,c4];rfl),?_⟩;refine Ab.of (Bq 5) (by rfl) ?_;simp(disch:=(try simp only[Ad]);omega)only[Ag,Ai,Af,MBX,AG,↓Ac,Ae,↓reduceIte,↓reduceDIte,↓Qe,Qu,Qv,Qw,Qx,Qy,Qz,QA,QB,QC,QD,QE,QF,QG,QH,QI,QK];rw[<-hr1,<-hH2];refine Aq.go s3 ⟨.inl rfl,.inl rfl,trivial⟩ (by simp) ?_;rw[hcl2];simp(disch:=(try simp only[Ad]);omega)only[Ag,Ai,Af,MBX,AG,↓Ac,Ae,↓reduceIte,↓reduceDIte,↓Qe,Qu,Qv,Qw,Qx,Qy,Qz,QA,QB,QC,QD,QE,QF,QG,QH,QI,QK];refine Aq.go c5 ⟨.inl rfl,trivial⟩ K5.len ?_;simp(disch:=(try simp only[Ad]);omega)only[QR,QS,QT,QU,QV,QW,QX,QY,QZ,Q0,Q1,Q2,Ai,Af,MBX,e5,show ndC (.mk 5 [] [] [])=[.int .i64 5,S [],.sl 0 false [],.sl 0 false []] from rfl,Bt,Ao,Az,AR,BU,Cd,Ac6,AbS,AdB,Adg,AdC,Adu,AdA,↓Ac,Zk,Zl,Qa,Qb,Qc,Qd,forall_const,↓reduceIte,↓reduceDIte,↓Qe,Qf,Qg,Qh,Qi,Qj,Qk,Ql,Qm,Qn,Qo,Qp,Qq,Qr,Qs,implies_true,Qt,Qu,Qv,Qw,Qx,Qy,Qz,QA,QB,QC,QD,QE,QF,QG,QH,QI,QJ,QK,QL,QM,QN,QO,QP,QQ];first
     | exact .inr ⟨rfl,.inr ⟨_,rfl,rfl,rfl⟩⟩
     | exact ⟨by rfl,.inr ⟨rfl,.inr ⟨_,rfl,rfl,rfl⟩⟩⟩
   | false =>
    obtain ⟨b5,ids5,H5,c5,X5,K5,hQ5⟩:=HQ (G:=G) P4 (by omega) (by omega) (by simp[Nd.keys]);have e5:H5[H.length]?=some (.box zN):=(by rw[K5.keep H.length (by omega) (by simp;omega) hF0];exact e4)
    have l5:H.length<H5.length:=(AbR.1 e5).1;have hF:=(K4.trans K5).not_mem hF0 (by omega);refine ⟨noN,false,b5,H.length+2,ids5,H5.set H.length (.box zN),Ctr.bodyI (M:=MB7) Al Tryz.func79 rfl PU ?h1 ?h2,?h3,((K3.trans K4).trans K5).set (AbZ _) _,?h4⟩;case h1=>exact (X5.set _ (by simp)).ok
    case h3=>exact X5.set _ (by simp)
    case h4 =>rw[if_neg (by simp)];exact JH hQ5 (by omega) hF
    case h2 =>
     simp(disch:=(try simp only[Ad]);omega)only[Ag,Ai,Af,MBX,q0,ho,htk,htk2,hdr2,hcl,Tryz.f79,AG,↓Ac,Ae,↓reduceIte,↓reduceDIte,↓Qe,Qu,Qv,Qw,Qx,Qy,Qz,QA,QB,QC,QD,QE,QF,QG,QH,QI,QK];refine Aq.go s1 ⟨.inl rfl,.inl rfl,trivial⟩ (by simp) ?_;rw[h91];simp(disch:=(try simp only[Ad]);omega)only[Ag,Ai,Af,MBX,q0,ho,htk,htk2,hdr2,hcl,AG,↓Ac,Ae,↓reduceIte,↓reduceDIte,↓Qe,Qu,Qv,Qw,Qx,Qy,Qz,QA,QB,QC,QD,QE,QF,QG,QH,QI,QK];refine ⟨AD cf (by simp(disch:=omega)only[Bf,AP,AO,Ba,A9,and_self]) (by simp only[Ady,Adz,c0,c1,c2,c3,c4];rfl),?_⟩;refine Ab.of (Bq 5) (by rfl) ?_;simp(disch:=(try simp only[Ad]);omega)only[Ag,Ai,Af,MBX,AG,↓Ac,Ae,↓reduceIte,↓reduceDIte,↓Qe,Qu,Qv,Qw,Qx,Qy,Qz,QA,QB,QC,QD,QE,QF,QG,QH,QI,QK];rw[<-hr1,<-hH2];refine Aq.go s3 ⟨.inl rfl,.inl rfl,trivial⟩ (by simp) ?_;rw[hcl2];simp(disch:=(try simp only[Ad]);omega)only[Ag,Ai,Af,MBX,AG,↓Ac,Ae,↓reduceIte,↓reduceDIte,↓Qe,Qu,Qv,Qw,Qx,Qy,Qz,QA,QB,QC,QD,QE,QF,QG,QH,QI,QK];refine Aq.go c5 ⟨.inl rfl,trivial⟩ K5.len ?_;simp(disch:=(try simp only[Ad]);omega)only[QR,QS,QT,QU,QV,QW,QX,QY,QZ,Q0,Q1,Q2,Ai,Af,MBX,e5,show ndC (.mk 5 [] [] [])=[.int .i64 5,S [],.sl 0 false [],.sl 0 false []] from rfl,Bt,Ao,Az,AR,BU,Cd,Ac6,AbS,AdB,Adg,AdC,Adu,AdA,↓Ac,Zk,Zl,Qa,Qb,Qc,Qd,forall_const,↓reduceIte,↓reduceDIte,↓Qe,Qf,Qg,Qh,Qi,Qj,Qk,Ql,Qm,Qn,Qo,Qp,Qq,Qr,Qs,implies_true,Qt,Qu,Qv,Qw,Qx,Qy,Qz,QA,QB,QC,QD,QE,QF,QG,QH,QI,QJ,QK,QL,QM,QN,QO,QP,QQ];first
     | exact .inr ⟨rfl,.inr ⟨_,rfl,rfl,rfl⟩⟩
     | exact ⟨by rfl,.inr ⟨rfl,.inr ⟨_,rfl,rfl,rfl⟩⟩⟩
  have hst0:st=[]:=by have:=hs.len;rw[ho1] at this;simp only[Ac7,AdQ] at this;exact Adt.1 (by omega)
  subst hst0;subst ho1;obtain ⟨r,hr1⟩:∃ r,r=(sgn 91 rest).1:=⟨_,rfl⟩;have hrl:r.length<=1000000000:=by rw[hr1];omega
  obtain ⟨H2,hH2⟩:∃ H2,H2=((H.set 0 (.box [.d (S r),.lsl ob 4 0 0])).set ob .dead).set 0 (.box [.d (S r),.lsl (H.length+2) 4 0 1])++[.box zN,.box [.d (.int .i64 0),.d (.str {data:=#[]}),.d (.sl 0 true []),.d (.sl 0 true [])],.box ((.d (.int .i64 5)::.d (.str ByteArray.empty)::.d (.sl 0 true [])::.d (.sl 0 true [])::[]))]:=⟨_,rfl⟩;obtain ⟨P3,K3,e3⟩:Cj r (.mk 5 [] [] []::[]) (H.length+2) ids H2/\Co (ob::ids) H ((H.length+2)::ids) H2/\H2[H.length]?=some (.box zN):=Gn (cells:=[]) h hs (by rw[hH2];simp) (by rw[hH2,Az (by simpa using l0),Bt (by simpa using l0)]<;>rfl) (fun j j0 jl jo=>by rw[hH2,Az (by simpa using jl),Ao (Ne.symm j0),Ao (Ne.symm jo),Ao (Ne.symm j0)]) (by rw[hH2,AR (by simp)];simp) (by rw[hH2,AR (by simp)];simp) (by rw[hH2];exact (((h.nox.set _ (by simp)).set _ (by simp)).set _ (by simp)).app (by simp[NoX]));have s3:=P3.lift (G:=G) (r':=(sgn (AH 5) r).1) (fun v=>hsig (AH 5) r hrl v) (by simp);obtain ⟨P4,K4⟩:=P3.rest (r':=(sgn (AH 5) r).1);have hl4:=A7 (AH 5) r;have lH2:H2.length=H.length+3:=by rw[hH2];simp
  have hF0:H.length∉(H.length+2)::ids:=fun q=>by rcases AbU.1 q with q | q;omega;have:=h.stack.lt _ (AbH _ q);omega
  have e4:(H2.set 0 (.box [.d (S (sgn (AH 5) r).1),.lsl (H.length+2) 4 0 1]))[H.length]?=some (.box zN):=by rw[Ao (by omega)];exact e3
  have hbp:CF rest []=FH 5 r []:=by unfold CF;rw[if_pos h91];rw[hr1]
  rw[hbp];unfold FH;cases hcl2:(sgn (AH 5) r).2 with
  | true =>
   obtain ⟨ids5,H5,c5,P5,K5⟩:=HL (G:=G) P4 (by omega);have e5:H5[H.length]?=some (.box zN):=(by rw[K5.keep H.length (by omega) (by simp;omega) hF0];exact e4)
   have l5:H.length<H5.length:=(AbR.1 e5).1;have hF:=(K4.trans K5).not_mem hF0 (by omega);refine ⟨(.mk 5 [] [] []),true,true,H.length+2,ids5,H5.set H.length (.box [.d (.int .i64 5),.d (S []),.d (.sl 0 false []),.d (.sl 0 false [])]),Ctr.bodyI (M:=MB7) Al Tryz.func79 rfl PU ?h1 ?h2,?h3,((K3.trans K4).trans K5).set (AbZ _) _,?h4⟩;case h1=>exact (P5.nox.set _ (by simp)).ok
   case h3=>exact P5.nox.set _ (by simp)
   case h4 =>rw[if_pos rfl];exact ⟨rfl,rfl,rfl,P5.other (by omega) hF (by simp)⟩
   case h2 =>
    simp(disch:=(try simp only[Ad]);omega)only[Ag,Ai,Af,MBX,q0,ho,Tryz.f79,AG,↓Ac,Ae,↓reduceIte,↓reduceDIte,↓Qe,Qu,Qv,Qw,Qx,Qy,Qz,QA,QB,QC,QD,QE,QF,QG,QH,QI,QK];refine Aq.go s1 ⟨.inl rfl,.inl rfl,trivial⟩ (by simp) ?_;rw[h91];simp(disch:=(try simp only[Ad]);omega)only[Ag,Ai,Af,MBX,q0,ho,AG,↓Ac,Ae,↓reduceIte,↓reduceDIte,↓Qe,Qu,Qv,Qw,Qx,Qy,Qz,QA,QB,QC,QD,QE,QF,QG,QH,QI,QK];refine ⟨AD cf (by simp(disch:=omega)only[Bf,AP,AO,Ba,A9,and_self]) (by simp only[Ady,Adz,c0,c1,c2,c3,c4];rfl),?_⟩;refine Ab.of (Bq 5) (by rfl) ?_;simp(disch:=(try simp only[Ad]);omega)only[Ag,Ai,Af,MBX,AG,↓Ac,Ae,↓reduceIte,↓reduceDIte,↓Qe,Qu,Qv,Qw,Qx,Qy,Qz,QA,QB,QC,QD,QE,QF,QG,QH,QI,QK];rw[<-hr1,<-hH2];refine Aq.go s3 ⟨.inl rfl,.inl rfl,trivial⟩ (by simp) ?_;rw[hcl2];simp(disch:=(try simp only[Ad]);omega)only[Ag,Ai,Af,MBX,AG,↓Ac,Ae,↓reduceIte,↓reduceDIte,↓Qe,Qu,Qv,Qw,Qx,Qy,Qz,QA,QB,QC,QD,QE,QF,QG,QH,QI,QK];refine Aq.go c5 ⟨.inl rfl,trivial⟩ K5.len ?_;simp(disch:=(try simp only[Ad]);omega)only[QR,QS,QT,QU,QV,QW,QX,QY,QZ,Q0,Q1,Q2,Ai,Af,MBX,e5,show ndC (.mk 5 [] [] [])=[.int .i64 5,S [],.sl 0 false [],.sl 0 false []] from rfl,Bt,Ao,Az,AR,BU,Cd,Ac6,AbS,AdB,Adg,AdC,Adu,AdA,↓Ac,Zk,Zl,Qa,Qb,Qc,Qd,forall_const,↓reduceIte,↓reduceDIte,↓Qe,Qf,Qg,Qh,Qi,Qj,Qk,Ql,Qm,Qn,Qo,Qp,Qq,Qr,Qs,implies_true,Qt,Qu,Qv,Qw,Qx,Qy,Qz,QA,QB,QC,QD,QE,QF,QG,QH,QI,QJ,QK,QL,QM,QN,QO,QP,QQ];first
    | exact .inr ⟨rfl,.inr ⟨_,rfl,rfl,rfl⟩⟩
    | exact ⟨by rfl,.inr ⟨rfl,.inr ⟨_,rfl,rfl,rfl⟩⟩⟩
  | false =>
   obtain ⟨b5,ids5,H5,c5,X5,K5,hQ5⟩:=HQ (G:=G) P4 (by omega) (by omega) (by simp[Nd.keys]);have e5:H5[H.length]?=some (.box zN):=(by rw[K5.keep H.length (by omega) (by simp;omega) hF0];exact e4)
   have l5:H.length<H5.length:=(AbR.1 e5).1;have hF:=(K4.trans K5).not_mem hF0 (by omega);refine ⟨noN,false,b5,H.length+2,ids5,H5.set H.length (.box zN),Ctr.bodyI (M:=MB7) Al Tryz.func79 rfl PU ?h1 ?h2,?h3,((K3.trans K4).trans K5).set (AbZ _) _,?h4⟩;case h1=>exact (X5.set _ (by simp)).ok
   case h3=>exact X5.set _ (by simp)
   case h4 =>rw[if_neg (by simp)];exact JH hQ5 (by omega) hF
   case h2 =>
    simp(disch:=(try simp only[Ad]);omega)only[Ag,Ai,Af,MBX,q0,ho,Tryz.f79,AG,↓Ac,Ae,↓reduceIte,↓reduceDIte,↓Qe,Qu,Qv,Qw,Qx,Qy,Qz,QA,QB,QC,QD,QE,QF,QG,QH,QI,QK];refine Aq.go s1 ⟨.inl rfl,.inl rfl,trivial⟩ (by simp) ?_;rw[h91];simp(disch:=(try simp only[Ad]);omega)only[Ag,Ai,Af,MBX,q0,ho,AG,↓Ac,Ae,↓reduceIte,↓reduceDIte,↓Qe,Qu,Qv,Qw,Qx,Qy,Qz,QA,QB,QC,QD,QE,QF,QG,QH,QI,QK];refine ⟨AD cf (by simp(disch:=omega)only[Bf,AP,AO,Ba,A9,and_self]) (by simp only[Ady,Adz,c0,c1,c2,c3,c4];rfl),?_⟩;refine Ab.of (Bq 5) (by rfl) ?_;simp(disch:=(try simp only[Ad]);omega)only[Ag,Ai,Af,MBX,AG,↓Ac,Ae,↓reduceIte,↓reduceDIte,↓Qe,Qu,Qv,Qw,Qx,Qy,Qz,QA,QB,QC,QD,QE,QF,QG,QH,QI,QK];rw[<-hr1,<-hH2];refine Aq.go s3 ⟨.inl rfl,.inl rfl,trivial⟩ (by simp) ?_;rw[hcl2];simp(disch:=(try simp only[Ad]);omega)only[Ag,Ai,Af,MBX,AG,↓Ac,Ae,↓reduceIte,↓reduceDIte,↓Qe,Qu,Qv,Qw,Qx,Qy,Qz,QA,QB,QC,QD,QE,QF,QG,QH,QI,QK];refine Aq.go c5 ⟨.inl rfl,trivial⟩ K5.len ?_;simp(disch:=(try simp only[Ad]);omega)only[QR,QS,QT,QU,QV,QW,QX,QY,QZ,Q0,Q1,Q2,Ai,Af,MBX,e5,show ndC (.mk 5 [] [] [])=[.int .i64 5,S [],.sl 0 false [],.sl 0 false []] from rfl,Bt,Ao,Az,AR,BU,Cd,Ac6,AbS,AdB,Adg,AdC,Adu,AdA,↓Ac,Zk,Zl,Qa,Qb,Qc,Qd,forall_const,↓reduceIte,↓reduceDIte,↓Qe,Qf,Qg,Qh,Qi,Qj,Qk,Ql,Qm,Qn,Qo,Qp,Qq,Qr,Qs,implies_true,Qt,Qu,Qv,Qw,Qx,Qy,Qz,QA,QB,QC,QD,QE,QF,QG,QH,QI,QJ,QK,QL,QM,QN,QO,QP,QQ];first
    | exact .inr ⟨rfl,.inr ⟨_,rfl,rfl,rfl⟩⟩
    | exact ⟨by rfl,.inr ⟨rfl,.inr ⟨_,rfl,rfl,rfl⟩⟩⟩
 | false =>
  have hl2:=A7 123 (sgn 91 rest).1;have s2:=P2.lift (G:=G) (r':=(sgn 123 (sgn 91 rest).1).1) (fun v=>hsig 123 (sgn 91 rest).1 (by omega) v) (by simp);simp only[BU,l0,Ac6] at s2;obtain ⟨P3,K3⟩:=P2.rest (r':=(sgn 123 (sgn 91 rest).1).1);cases h123:(sgn 123 (sgn 91 rest).1).2 with
  | true =>
   clear P3 K3;obtain ⟨cells,ho,hs⟩:=h.stack.stk;rcases ho with ⟨junk,ho⟩ | ⟨ho1,ho⟩
   ·have hcl:=hs.len;simp only[Ac7,AdQ] at hcl;have htk:(cells++junk).take (st.length*4)=cells:=(by rw[<-hcl,AdG])
    have htk2:∀ x,Ad2 (st.length*4) (cells++x)=cells:=fun x=>by rw[<-hcl,AdG]
    have hdr2:∀ x y z w:AV,Ad3 (st.length*4+4) (cells++[x,y,z,w])=[]:=fun x y z w=>AdE (by simp[hcl]);obtain ⟨cs,hcs⟩:∃ cs,cs=cells++junk:=⟨_,rfl⟩;rw[<-hcs] at ho htk;obtain ⟨r,hr1⟩:∃ r,r=(sgn 123 (sgn 91 rest).1).1:=⟨_,rfl⟩;have hrl:r.length<=1000000000:=(by rw[hr1];omega)
    obtain ⟨H2,hH2⟩:∃ H2,H2=(((H.set 0 (.box [.d (S (sgn 91 rest).1),.lsl ob 4 0 st.length])).set 0 (.box [.d (S r),.lsl ob 4 0 st.length])).set ob .dead).set 0 (.box [.d (S r),.lsl (H.length+2) 4 0 (st.length+1)])++[.box zN,.box [.d (.int .i64 0),.d (.str {data:=#[]}),.d (.sl 0 true []),.d (.sl 0 true [])],.box (cells++(.d (.int .i64 6)::.d (.str ByteArray.empty)::.d (.sl 0 true [])::.d (.sl 0 true [])::[]))]:=⟨_,rfl⟩;obtain ⟨P3,K3,e3⟩:Cj r (.mk 6 [] [] []::st) (H.length+2) ids H2/\Co (ob::ids) H ((H.length+2)::ids) H2/\H2[H.length]?=some (.box zN):=Gn h hs (by rw[hH2];simp) (by rw[hH2,Az (by simpa using l0),Bt (by simpa using l0)]<;>rfl) (fun j j0 jl jo=>by rw[hH2,Az (by simpa using jl),Ao (Ne.symm j0),Ao (Ne.symm jo),Ao (Ne.symm j0),Ao (Ne.symm j0)]) (by rw[hH2,AR (by simp)];simp) (by rw[hH2,AR (by simp)];simp) (by rw[hH2];exact ((((h.nox.set _ (by simp)).set _ (by simp)).set _ (by simp)).set _ (by simp)).app (by simp[NoX]));have s3:=P3.lift (G:=G) (r':=(sgn (AH 6) r).1) (fun v=>hsig (AH 6) r hrl v) (by simp);obtain ⟨P4,K4⟩:=P3.rest (r':=(sgn (AH 6) r).1);have hl4:=A7 (AH 6) r;have lH2:H2.length=H.length+3:=(by rw[hH2];simp)
    have hF0:H.length∉(H.length+2)::ids:=fun q=>by rcases AbU.1 q with q | q;omega;have:=h.stack.lt _ (AbH _ q);omega
    have e4:(H2.set 0 (.box [.d (S (sgn (AH 6) r).1),.lsl (H.length+2) 4 0 (st.length+1)]))[H.length]?=some (.box zN):=(by rw[Ao (by omega)];exact e3);have hbp:CF rest st=FH 6 r st:=(by unfold CF;rw[if_neg (by rw[h91];simp),if_pos h123];rw[hr1]);rw[hbp];unfold FH;cases hcl2:(sgn (AH 6) r).2 with
    | true =>
     obtain ⟨ids5,H5,c5,P5,K5⟩:=HL (G:=G) P4 (by omega);have e5:H5[H.length]?=some (.box zN):=(by rw[K5.keep H.length (by omega) (by simp;omega) hF0];exact e4)
     have l5:H.length<H5.length:=(AbR.1 e5).1;have hF:=(K4.trans K5).not_mem hF0 (by omega);refine ⟨(.mk 6 [] [] []),true,true,H.length+2,ids5,H5.set H.length (.box [.d (.int .i64 6),.d (S []),.d (.sl 0 false []),.d (.sl 0 false [])]),Ctr.bodyI (M:=MB7) Al Tryz.func79 rfl PU ?h1 ?h2,?h3,((K3.trans K4).trans K5).set (AbZ _) _,?h4⟩;case h1=>exact (P5.nox.set _ (by simp)).ok
     case h3=>exact P5.nox.set _ (by simp)
     case h4 =>rw[if_pos rfl];exact ⟨rfl,rfl,rfl,P5.other (by omega) hF (by simp)⟩
     case h2 =>
      simp(disch:=(try simp only[Ad]);omega)only[Ag,Ai,Af,MBX,q0,ho,htk,htk2,hdr2,hcl,Tryz.f79,AG,↓Ac,Ae,↓reduceIte,↓reduceDIte,↓Qe,Qu,Qv,Qw,Qx,Qy,Qz,QA,QB,QC,QD,QE,QF,QG,QH,QI,QK];refine Aq.go s1 ⟨.inl rfl,.inl rfl,trivial⟩ (by simp) ?_;rw[h91];simp(disch:=(try simp only[Ad]);omega)only[Ag,Ai,Af,MBX,q0,ho,htk,htk2,hdr2,hcl,AG,↓Ac,Ae,↓reduceIte,↓reduceDIte,↓Qe,Qu,Qv,Qw,Qx,Qy,Qz,QA,QB,QC,QD,QE,QF,QG,QH,QI,QK];refine Aq.go s2 ⟨.inl rfl,.inl rfl,trivial⟩ (by simp) ?_;rw[h123];simp(disch:=(try simp only[Ad]);omega)only[Ag,Ai,Af,MBX,q0,ho,htk,htk2,hdr2,hcl,AG,↓Ac,Ae,↓reduceIte,↓reduceDIte,↓Qe,Qu,Qv,Qw,Qx,Qy,Qz,QA,QB,QC,QD,QE,QF,QG,QH,QI,QK];refine ⟨AD cf (by simp(disch:=omega)only[Bf,AP,AO,Ba,A9,and_self]) (by simp only[Ady,Adz,c0,c1,c2,c3,c4];rfl),?_⟩;refine Ab.of (Bq 6) (by rfl) ?_;simp(disch:=(try simp only[Ad]);omega)only[Ag,Ai,Af,MBX,AG,↓Ac,Ae,↓reduceIte,↓reduceDIte,↓Qe,Qu,Qv,Qw,Qx,Qy,Qz,QA,QB,QC,QD,QE,QF,QG,QH,QI,QK];rw[<-hr1,<-hH2];refine Aq.go s3 ⟨.inl rfl,.inl rfl,trivial⟩ (by simp) ?_;rw[hcl2];simp(disch:=(try simp only[Ad]);omega)only[Ag,Ai,Af,MBX,AG,↓Ac,Ae,↓reduceIte,↓reduceDIte,↓Qe,Qu,Qv,Qw,Qx,Qy,Qz,QA,QB,QC,QD,QE,QF,QG,QH,QI,QK];refine Aq.go c5 ⟨.inl rfl,trivial⟩ K5.len ?_;simp(disch:=(try simp only[Ad]);omega)only[QR,QS,QT,QU,QV,QW,QX,QY,QZ,Q0,Q1,Q2,Ai,Af,MBX,e5,show ndC (.mk 6 [] [] [])=[.int .i64 6,S [],.sl 0 false [],.sl 0 false []] from rfl,Bt,Ao,Az,AR,BU,Cd,Ac6,AbS,AdB,Adg,AdC,Adu,AdA,↓Ac,Zk,Zl,Qa,Qb,Qc,Qd,forall_const,↓reduceIte,↓reduceDIte,↓Qe,Qf,Qg,Qh,Qi,Qj,Qk,Ql,Qm,Qn,Qo,Qp,Qq,Qr,Qs,implies_true,Qt,Qu,Qv,Qw,Qx,Qy,Qz,QA,QB,QC,QD,QE,QF,QG,QH,QI,QJ,QK,QL,QM,QN,QO,QP,QQ];first
      | exact .inr ⟨rfl,.inr ⟨_,rfl,rfl,rfl⟩⟩
      | exact ⟨by rfl,.inr ⟨rfl,.inr ⟨_,rfl,rfl,rfl⟩⟩⟩
    | false =>
     obtain ⟨b5,ids5,H5,c5,X5,K5,hQ5⟩:=HQ (G:=G) P4 (by omega) (by omega) (by simp[Nd.keys]);have e5:H5[H.length]?=some (.box zN):=(by rw[K5.keep H.length (by omega) (by simp;omega) hF0];exact e4)
     have l5:H.length<H5.length:=(AbR.1 e5).1;have hF:=(K4.trans K5).not_mem hF0 (by omega);refine ⟨noN,false,b5,H.length+2,ids5,H5.set H.length (.box zN),Ctr.bodyI (M:=MB7) Al Tryz.func79 rfl PU ?h1 ?h2,?h3,((K3.trans K4).trans K5).set (AbZ _) _,?h4⟩;case h1=>exact (X5.set _ (by simp)).ok
     case h3=>exact X5.set _ (by simp)
     case h4 =>rw[if_neg (by simp)];exact JH hQ5 (by omega) hF
     case h2 =>
      simp(disch:=(try simp only[Ad]);omega)only[Ag,Ai,Af,MBX,q0,ho,htk,htk2,hdr2,hcl,Tryz.f79,AG,↓Ac,Ae,↓reduceIte,↓reduceDIte,↓Qe,Qu,Qv,Qw,Qx,Qy,Qz,QA,QB,QC,QD,QE,QF,QG,QH,QI,QK];refine Aq.go s1 ⟨.inl rfl,.inl rfl,trivial⟩ (by simp) ?_;rw[h91];simp(disch:=(try simp only[Ad]);omega)only[Ag,Ai,Af,MBX,q0,ho,htk,htk2,hdr2,hcl,AG,↓Ac,Ae,↓reduceIte,↓reduceDIte,↓Qe,Qu,Qv,Qw,Qx,Qy,Qz,QA,QB,QC,QD,QE,QF,QG,QH,QI,QK];refine Aq.go s2 ⟨.inl rfl,.inl rfl,trivial⟩ (by simp) ?_;rw[h123];simp(disch:=(try simp only[Ad]);omega)only[Ag,Ai,Af,MBX,q0,ho,htk,htk2,hdr2,hcl,AG,↓Ac,Ae,↓reduceIte,↓reduceDIte,↓Qe,Qu,Qv,Qw,Qx,Qy,Qz,QA,QB,QC,QD,QE,QF,QG,QH,QI,QK];refine ⟨AD cf (by simp(disch:=omega)only[Bf,AP,AO,Ba,A9,and_self]) (by simp only[Ady,Adz,c0,c1,c2,c3,c4];rfl),?_⟩;refine Ab.of (Bq 6) (by rfl) ?_;simp(disch:=(try simp only[Ad]);omega)only[Ag,Ai,Af,MBX,AG,↓Ac,Ae,↓reduceIte,↓reduceDIte,↓Qe,Qu,Qv,Qw,Qx,Qy,Qz,QA,QB,QC,QD,QE,QF,QG,QH,QI,QK];rw[<-hr1,<-hH2];refine Aq.go s3 ⟨.inl rfl,.inl rfl,trivial⟩ (by simp) ?_;rw[hcl2];simp(disch:=(try simp only[Ad]);omega)only[Ag,Ai,Af,MBX,AG,↓Ac,Ae,↓reduceIte,↓reduceDIte,↓Qe,Qu,Qv,Qw,Qx,Qy,Qz,QA,QB,QC,QD,QE,QF,QG,QH,QI,QK];refine Aq.go c5 ⟨.inl rfl,trivial⟩ K5.len ?_;simp(disch:=(try simp only[Ad]);omega)only[QR,QS,QT,QU,QV,QW,QX,QY,QZ,Q0,Q1,Q2,Ai,Af,MBX,e5,show ndC (.mk 6 [] [] [])=[.int .i64 6,S [],.sl 0 false [],.sl 0 false []] from rfl,Bt,Ao,Az,AR,BU,Cd,Ac6,AbS,AdB,Adg,AdC,Adu,AdA,↓Ac,Zk,Zl,Qa,Qb,Qc,Qd,forall_const,↓reduceIte,↓reduceDIte,↓Qe,Qf,Qg,Qh,Qi,Qj,Qk,Ql,Qm,Qn,Qo,Qp,Qq,Qr,Qs,implies_true,Qt,Qu,Qv,Qw,Qx,Qy,Qz,QA,QB,QC,QD,QE,QF,QG,QH,QI,QJ,QK,QL,QM,QN,QO,QP,QQ];first
      | exact .inr ⟨rfl,.inr ⟨_,rfl,rfl,rfl⟩⟩
      | exact ⟨by rfl,.inr ⟨rfl,.inr ⟨_,rfl,rfl,rfl⟩⟩⟩
   have hst0:st=[]:=(by have:=hs.len;rw[ho1] at this;simp only[Ac7,AdQ] at this;exact Adt.1 (by omega));subst hst0;subst ho1;obtain ⟨r,hr1⟩:∃ r,r=(sgn 123 (sgn 91 rest).1).1:=⟨_,rfl⟩;have hrl:r.length<=1000000000:=(by rw[hr1];omega)
   obtain ⟨H2,hH2⟩:∃ H2,H2=(((H.set 0 (.box [.d (S (sgn 91 rest).1),.lsl ob 4 0 0])).set 0 (.box [.d (S r),.lsl ob 4 0 0])).set ob .dead).set 0 (.box [.d (S r),.lsl (H.length+2) 4 0 1])++[.box zN,.box [.d (.int .i64 0),.d (.str {data:=#[]}),.d (.sl 0 true []),.d (.sl 0 true [])],.box ((.d (.int .i64 6)::.d (.str ByteArray.empty)::.d (.sl 0 true [])::.d (.sl 0 true [])::[]))]:=⟨_,rfl⟩;obtain ⟨P3,K3,e3⟩:Cj r (.mk 6 [] [] []::[]) (H.length+2) ids H2/\Co (ob::ids) H ((H.length+2)::ids) H2/\H2[H.length]?=some (.box zN):=Gn (cells:=[]) h hs (by rw[hH2];simp) (by rw[hH2,Az (by simpa using l0),Bt (by simpa using l0)]<;>rfl) (fun j j0 jl jo=>by rw[hH2,Az (by simpa using jl),Ao (Ne.symm j0),Ao (Ne.symm jo),Ao (Ne.symm j0),Ao (Ne.symm j0)]) (by rw[hH2,AR (by simp)];simp) (by rw[hH2,AR (by simp)];simp) (by rw[hH2];exact ((((h.nox.set _ (by simp)).set _ (by simp)).set _ (by simp)).set _ (by simp)).app (by simp[NoX]));have s3:=P3.lift (G:=G) (r':=(sgn (AH 6) r).1) (fun v=>hsig (AH 6) r hrl v) (by simp);obtain ⟨P4,K4⟩:=P3.rest (r':=(sgn (AH 6) r).1);have hl4:=A7 (AH 6) r;have lH2:H2.length=H.length+3:=(by rw[hH2];simp)
   have hF0:H.length∉(H.length+2)::ids:=fun q=>by rcases AbU.1 q with q | q;omega;have:=h.stack.lt _ (AbH _ q);omega
   have e4:(H2.set 0 (.box [.d (S (sgn (AH 6) r).1),.lsl (H.length+2) 4 0 1]))[H.length]?=some (.box zN):=(by rw[Ao (by omega)];exact e3);have hbp:CF rest []=FH 6 r []:=(by unfold CF;rw[if_neg (by rw[h91];simp),if_pos h123];rw[hr1]);rw[hbp];unfold FH;cases hcl2:(sgn (AH 6) r).2 with
   | true =>
    obtain ⟨ids5,H5,c5,P5,K5⟩:=HL (G:=G) P4 (by omega);have e5:H5[H.length]?=some (.box zN):=(by rw[K5.keep H.length (by omega) (by simp;omega) hF0];exact e4)
    have l5:H.length<H5.length:=(AbR.1 e5).1;have hF:=(K4.trans K5).not_mem hF0 (by omega);refine ⟨(.mk 6 [] [] []),true,true,H.length+2,ids5,H5.set H.length (.box [.d (.int .i64 6),.d (S []),.d (.sl 0 false []),.d (.sl 0 false [])]),Ctr.bodyI (M:=MB7) Al Tryz.func79 rfl PU ?h1 ?h2,?h3,((K3.trans K4).trans K5).set (AbZ _) _,?h4⟩;case h1=>exact (P5.nox.set _ (by simp)).ok
    case h3=>exact P5.nox.set _ (by simp)
    case h4 =>rw[if_pos rfl];exact ⟨rfl,rfl,rfl,P5.other (by omega) hF (by simp)⟩
    case h2 =>
     simp(disch:=(try simp only[Ad]);omega)only[Ag,Ai,Af,MBX,q0,ho,Tryz.f79,AG,↓Ac,Ae,↓reduceIte,↓reduceDIte,↓Qe,Qu,Qv,Qw,Qx,Qy,Qz,QA,QB,QC,QD,QE,QF,QG,QH,QI,QK];refine Aq.go s1 ⟨.inl rfl,.inl rfl,trivial⟩ (by simp) ?_;rw[h91];simp(disch:=(try simp only[Ad]);omega)only[Ag,Ai,Af,MBX,q0,ho,AG,↓Ac,Ae,↓reduceIte,↓reduceDIte,↓Qe,Qu,Qv,Qw,Qx,Qy,Qz,QA,QB,QC,QD,QE,QF,QG,QH,QI,QK];refine Aq.go s2 ⟨.inl rfl,.inl rfl,trivial⟩ (by simp) ?_;rw[h123];simp(disch:=(try simp only[Ad]);omega)only[Ag,Ai,Af,MBX,q0,ho,AG,↓Ac,Ae,↓reduceIte,↓reduceDIte,↓Qe,Qu,Qv,Qw,Qx,Qy,Qz,QA,QB,QC,QD,QE,QF,QG,QH,QI,QK];refine ⟨AD cf (by simp(disch:=omega)only[Bf,AP,AO,Ba,A9,and_self]) (by simp only[Ady,Adz,c0,c1,c2,c3,c4];rfl),?_⟩;refine Ab.of (Bq 6) (by rfl) ?_;simp(disch:=(try simp only[Ad]);omega)only[Ag,Ai,Af,MBX,AG,↓Ac,Ae,↓reduceIte,↓reduceDIte,↓Qe,Qu,Qv,Qw,Qx,Qy,Qz,QA,QB,QC,QD,QE,QF,QG,QH,QI,QK];rw[<-hr1,<-hH2];refine Aq.go s3 ⟨.inl rfl,.inl rfl,trivial⟩ (by simp) ?_;rw[hcl2];simp(disch:=(try simp only[Ad]);omega)only[Ag,Ai,Af,MBX,AG,↓Ac,Ae,↓reduceIte,↓reduceDIte,↓Qe,Qu,Qv,Qw,Qx,Qy,Qz,QA,QB,QC,QD,QE,QF,QG,QH,QI,QK];refine Aq.go c5 ⟨.inl rfl,trivial⟩ K5.len ?_;simp(disch:=(try simp only[Ad]);omega)only[QR,QS,QT,QU,QV,QW,QX,QY,QZ,Q0,Q1,Q2,Ai,Af,MBX,e5,show ndC (.mk 6 [] [] [])=[.int .i64 6,S [],.sl 0 false [],.sl 0 false []] from rfl,Bt,Ao,Az,AR,BU,Cd,Ac6,AbS,AdB,Adg,AdC,Adu,AdA,↓Ac,Zk,Zl,Qa,Qb,Qc,Qd,forall_const,↓reduceIte,↓reduceDIte,↓Qe,Qf,Qg,Qh,Qi,Qj,Qk,Ql,Qm,Qn,Qo,Qp,Qq,Qr,Qs,implies_true,Qt,Qu,Qv,Qw,Qx,Qy,Qz,QA,QB,QC,QD,QE,QF,QG,QH,QI,QJ,QK,QL,QM,QN,QO,QP,QQ];first
     | exact .inr ⟨rfl,.inr ⟨_,rfl,rfl,rfl⟩⟩
     | exact ⟨by rfl,.inr ⟨rfl,.inr ⟨_,rfl,rfl,rfl⟩⟩⟩
   | false =>
    obtain ⟨b5,ids5,H5,c5,X5,K5,hQ5⟩:=HQ (G:=G) P4 (by omega) (by omega) (by simp[Nd.keys]);have e5:H5[H.length]?=some (.box zN):=(by rw[K5.keep H.length (by omega) (by simp;omega) hF0];exact e4)
    have l5:H.length<H5.length:=(AbR.1 e5).1;have hF:=(K4.trans K5).not_mem hF0 (by omega);refine ⟨noN,false,b5,H.length+2,ids5,H5.set H.length (.box zN),Ctr.bodyI (M:=MB7) Al Tryz.func79 rfl PU ?h1 ?h2,?h3,((K3.trans K4).trans K5).set (AbZ _) _,?h4⟩;case h1=>exact (X5.set _ (by simp)).ok
    case h3=>exact X5.set _ (by simp)
    case h4 =>rw[if_neg (by simp)];exact JH hQ5 (by omega) hF
    case h2 =>
     simp(disch:=(try simp only[Ad]);omega)only[Ag,Ai,Af,MBX,q0,ho,Tryz.f79,AG,↓Ac,Ae,↓reduceIte,↓reduceDIte,↓Qe,Qu,Qv,Qw,Qx,Qy,Qz,QA,QB,QC,QD,QE,QF,QG,QH,QI,QK];refine Aq.go s1 ⟨.inl rfl,.inl rfl,trivial⟩ (by simp) ?_;rw[h91];simp(disch:=(try simp only[Ad]);omega)only[Ag,Ai,Af,MBX,q0,ho,AG,↓Ac,Ae,↓reduceIte,↓reduceDIte,↓Qe,Qu,Qv,Qw,Qx,Qy,Qz,QA,QB,QC,QD,QE,QF,QG,QH,QI,QK];refine Aq.go s2 ⟨.inl rfl,.inl rfl,trivial⟩ (by simp) ?_;rw[h123];simp(disch:=(try simp only[Ad]);omega)only[Ag,Ai,Af,MBX,q0,ho,AG,↓Ac,Ae,↓reduceIte,↓reduceDIte,↓Qe,Qu,Qv,Qw,Qx,Qy,Qz,QA,QB,QC,QD,QE,QF,QG,QH,QI,QK];refine ⟨AD cf (by simp(disch:=omega)only[Bf,AP,AO,Ba,A9,and_self]) (by simp only[Ady,Adz,c0,c1,c2,c3,c4];rfl),?_⟩;refine Ab.of (Bq 6) (by rfl) ?_;simp(disch:=(try simp only[Ad]);omega)only[Ag,Ai,Af,MBX,AG,↓Ac,Ae,↓reduceIte,↓reduceDIte,↓Qe,Qu,Qv,Qw,Qx,Qy,Qz,QA,QB,QC,QD,QE,QF,QG,QH,QI,QK];rw[<-hr1,<-hH2];refine Aq.go s3 ⟨.inl rfl,.inl rfl,trivial⟩ (by simp) ?_;rw[hcl2];simp(disch:=(try simp only[Ad]);omega)only[Ag,Ai,Af,MBX,AG,↓Ac,Ae,↓reduceIte,↓reduceDIte,↓Qe,Qu,Qv,Qw,Qx,Qy,Qz,QA,QB,QC,QD,QE,QF,QG,QH,QI,QK];refine Aq.go c5 ⟨.inl rfl,trivial⟩ K5.len ?_;simp(disch:=(try simp only[Ad]);omega)only[QR,QS,QT,QU,QV,QW,QX,QY,QZ,Q0,Q1,Q2,Ai,Af,MBX,e5,show ndC (.mk 6 [] [] [])=[.int .i64 6,S [],.sl 0 false [],.sl 0 false []] from rfl,Bt,Ao,Az,AR,BU,Cd,Ac6,AbS,AdB,Adg,AdC,Adu,AdA,↓Ac,Zk,Zl,Qa,Qb,Qc,Qd,forall_const,↓reduceIte,↓reduceDIte,↓Qe,Qf,Qg,Qh,Qi,Qj,Qk,Ql,Qm,Qn,Qo,Qp,Qq,Qr,Qs,implies_true,Qt,Qu,Qv,Qw,Qx,Qy,Qz,QA,QB,QC,QD,QE,QF,QG,QH,QI,QJ,QK,QL,QM,QN,QO,QP,QQ];first
     | exact .inr ⟨rfl,.inr ⟨_,rfl,rfl,rfl⟩⟩
     | exact ⟨by rfl,.inr ⟨rfl,.inr ⟨_,rfl,rfl,rfl⟩⟩⟩
  | false =>
   obtain ⟨r,hr1⟩:∃ r,r=(sgn 123 (sgn 91 rest).1).1:=⟨_,rfl⟩;have hbp:CF rest st=if (DD r).2.2=true then .got (DD r).1 st (DD r).2.1 else .bad:=(by unfold CF;rw[if_neg (by rw[h91];simp),if_neg (by rw[h123];simp),hr1])
   rw[hbp];rw[<-hr1] at P3 K3;have s3:=P3.lift (G:=G) (r':=(DD r).1) (fun v=>Pu (G:=G) r (by rw[hr1];omega) v) (by simp);obtain ⟨P4,K4⟩:=P3.rest (r':=(DD r).1);generalize DD r=x at *;obtain ⟨x1,⟨k,tx,ks,l⟩,x3⟩:=x;simp only at s3 P4 K4 ⊢;have hF:H.length∉ob::ids:=fun q=>by have:=h.stack.lt _ q;omega
   have P5:=P4.other (j:=H.length) (b:=.box ((ndC (.mk k tx ks l)).map .d)) (by omega) hF (by simp);have K5:=(((K1.trans K2).trans K3).trans K4).set (j:=H.length) (AbZ _) (.box ((ndC (.mk k tx ks l)).map .d))
   have eH:((((H++[Aa.box zN]).set 0 (.box [.d (S (sgn 91 rest).1),.lsl ob 4 0 st.length])).set 0 (.box [.d (S r),.lsl ob 4 0 st.length])).set 0 (.box [.d (S x1),.lsl ob 4 0 st.length])).set H.length (.box ((ndC (.mk k tx ks l)).map .d)) =
     ((H.set 0 (.box [.d (S (sgn 91 rest).1),.lsl ob 4 0 st.length])).set 0 (.box [.d (S r),.lsl ob 4 0 st.length])).set 0 (.box [.d (S x1),.lsl ob 4 0 st.length])++[.box ((ndC (.mk k tx ks l)).map .d)]:=by
    simp only[BU,Cd,l0,Ac6,AbZ,AdC,Adu]
   simp only[BU,l0,Ac6] at s3;refine ⟨.mk k tx ks l,x3,x3,ob,ids,_,Ctr.bodyI (M:=MB7) Al Tryz.func79 rfl PU P5.nox.ok ?_,P5.nox,K5,?_⟩
   ·simp(disch:=(try simp only[Ad]);omega)only[Ag,Ai,Af,MBX,q0,Tryz.f79,AG,↓Ac,Ae,↓reduceIte,↓reduceDIte,↓Qe,Qu,Qv,Qw,Qx,Qy,Qz,QA,QB,QC,QD,QE,QF,QG,QH,QI,QK];refine Aq.go s1 ⟨.inl rfl,.inl rfl,trivial⟩ (by simp) ?_;rw[h91];simp(disch:=(try simp only[Ad]);omega)only[Ag,Ai,Af,MBX,q0,AG,↓Ac,Ae,↓reduceIte,↓reduceDIte,↓Qe,Qu,Qv,Qw,Qx,Qy,Qz,QA,QB,QC,QD,QE,QF,QG,QH,QI,QK];refine Aq.go s2 ⟨.inl rfl,.inl rfl,trivial⟩ (by simp) ?_;rw[h123];simp(disch:=(try simp only[Ad]);omega)only[Ag,Ai,Af,MBX,q0,AG,↓Ac,Ae,↓reduceIte,↓reduceDIte,↓Qe,Qu,Qv,Qw,Qx,Qy,Qz,QA,QB,QC,QD,QE,QF,QG,QH,QI,QK];rw[<-hr1];refine Aq.go s3 ⟨.inl rfl,trivial⟩ (by simp) ?_;simp(disch:=(try simp only[Ad]);omega)only[Ag,Ai,Af,MBX,q0,ndC,AG,↓Ac,Ae,↓reduceIte,↓reduceDIte,↓Qe,Qu,Qv,Qw,Qx,Qy,Qz,QA,QB,QC,QD,QE,QF,QG,QH,QI,QK];first
    | exact .inr ⟨rfl,.inr ⟨_,rfl,rfl,rfl⟩⟩
    | exact ⟨by rfl,.inr ⟨rfl,.inr ⟨_,rfl,rfl,rfl⟩⟩⟩
   cases x3 with
   | true=>exact ⟨rfl,rfl,rfl,P5⟩
   | false=>rfl
def Vb {N:Nat} {rest:List UInt8} {t:Nd} {st:List Nd} (h1:st.length+1+rest.length<=N) (h2:t.keys.length+rest.length<=N/\t.kids.length+rest.length<=N) (h3:∀ s∈st,s.keys.length+rest.length<=N/\s.kids.length+rest.length<=N):okP N (Eo rest t st):=by
 unfold Eo;split
 ·refine ⟨by simp only[AbY];omega,fun s hs=>?_⟩;rcases AbU.1 hs with rfl | hs
  ·exact h2
  exact h3 s hs
 split
 ·rename_i h;have q1:=XH h.1;have q2:=EL h.2;refine ⟨by simp only[AbY];omega,fun s hs=>?_⟩;rcases AbU.1 hs with rfl | hs
  ·exact ⟨by simp only[Es,Nd.keys,AbS,AbY,Ac7];have:=h2.1;unfold Nd.keys at this;omega,by have:=h2.2;show t.kids.length+_<=N;omega⟩
  have:=h3 s hs;omega
 trivial
def Va {N:Nat} {k:Int} {rest:List UInt8} {st:List Nd} (h1:st.length+1+rest.length<=N) (h3:∀ s∈st,s.keys.length+rest.length<=N/\s.kids.length+rest.length<=N):okP N (FH k rest st):=by
 have hl:=A7 (AH k) rest;unfold FH;split;·rename_i h;have q:=EL h;exact ⟨by omega,fun s hs=>by have:=h3 s hs;omega⟩
 exact Vb (by omega) ⟨by simp[Nd.keys];omega,by simp[Nd.kids];omega⟩ fun s hs=>by have:=h3 s hs;omega
def Vc {N:Nat} {rest:List UInt8} {st:List Nd} (h:okP N (.beg rest st)):okP N (CF rest st):=by
 obtain ⟨h1,h2⟩:=h;have l1:=A7 91 rest;have l2:=A7 123 (sgn 91 rest).1;unfold CF;split
 ·rename_i e;have:=EL e;exact Va (by omega) fun s hs=>by have:=h2 s hs;omega
 split;·rename_i e;have:=EL e;exact Va (by omega) fun s hs=>by have:=h2 s hs;omega
 split;·rename_i e;have:=U0 e;exact ⟨by omega,fun s hs=>by have:=h2 s hs;omega⟩
 trivial
def PH {N:Nat} {rest:List UInt8} {t:Nd} {st:List Nd} {n:Nd} (h:okP N (.got rest (t::st) n)):okP N (Ic rest t st n):=by
 obtain ⟨h1,h2⟩:=h;have h3:=h2 t (by simp);simp only[AbY] at h1;have l1:=A7 44 rest;unfold Ic;split
 ·rename_i e;have:=EL e;exact Vb (by omega) ⟨by show t.keys.length+_<=N;omega,by simp only[Cs,Nd.kids,AbS,AbY,Ac7];have:=h3.2;unfold Nd.kids at this;omega⟩ fun s hs=>by have:=h2 s (AbH _ hs);omega
 split;·rename_i e;have:=EL e;exact ⟨by omega,fun s hs=>by have:=h2 s (AbH _ hs);omega⟩
 trivial
def R9 (o:Option (List UInt8 × Nd)):D:=match o with
 | none=>.tup [NdD noN,.bool false]
 | some x=>.tup [NdD x.2,.bool true]
def My (o:Option (List UInt8 × Nd)):Aa:=match o with
 | none=>.dead
 | some x=>.box [.d (S x.1),.undef]
structure NX where
 rest:List UInt8
 st:List Nd
 ob:Nat
 ids:List Nat
 H:List Aa
structure NodI (o:Option (List UInt8 × Nd)) (N:Nat) (x:NX):Prop where
 par:Cj x.rest x.st x.ob x.ids x.H
 b1:x.H[1]?=some (.box zN)
 n1:1∉x.ob::x.ids
 res:Dc (.beg x.rest x.st)=o
 ok:okP N (.beg x.rest x.st)
def IxP (x:NX × Option Nd):PSt:=match x.2 with
 | none=>.beg x.1.rest x.1.st
 | some m=>.got x.1.rest x.1.st m
structure InI (o:Option (List UInt8 × Nd)) (N L R:Nat) (x:NX × Option Nd):Prop where
 par:Cj x.1.rest x.1.st x.1.ob x.1.ids x.1.H
 b1:x.1.H[1]?=some (.box zN)
 n1:1∉x.1.ob::x.1.ids
 bL:∃ n:Nd,x.1.H[L]?=some (.box ((ndC n).map .d))/\∀ m,x.2=some m->m=n
 nL:L∉x.1.ob::x.1.ids
 lt:x.1.rest.length<R
 res:Dc (IxP x)=o
 ok:okP N (IxP x)
def MN7:B0:=fun k=>AdK k 4000079 || (AdK k 4000080 || (AdK k 4000082 || AdK k 4000081))
def CA:MN7 4000079=true:=rfl
def Cz:MN7 4000080=true:=rfl
def Cy:MN7 4000082=true:=rfl
def Cx:MN7 4000081=true:=rfl
def Cw {k:Nat} (h:¬(k=4000079\/k=4000080\/k=4000082\/k=4000081)):MN7 k=false:=by
 cases e:MN7 k with
 | false=>rfl
 | true =>
  unfold MN7 at e;simp only[AdR] at e;rcases e with e | e | e | e
  ·exact absurd (.inl (Ac8 e)) h
  ·exact absurd (.inr (.inl (Ac8 e))) h
  ·exact absurd (.inr (.inr (.inl (Ac8 e)))) h
  exact absurd (.inr (.inr (.inr (Ac8 e)))) h
def MM (r:List UInt8) (t:Nd) (st:List Nd):Eo r t st=.bad\/∃ a c,Eo r t st=.beg a c:=by
 unfold Eo;split;·exact .inr ⟨_,_,rfl⟩
 split;·exact .inr ⟨_,_,rfl⟩
 exact .inl rfl
def F6 {H:List Aa} (h:0<H.length):Ig 1 H (.tup [.agg [.d (.int .i64 0),.d (.str ByteArray.empty),.d (.sl 0 true []),.d (.sl 0 true [])],.d (.bool false)]) (.d (R9 none)) [My none] :=
 ⟨[some 0],rfl,by simp,by simp[HW,My,AdJ h,BW],.inr ⟨_,rfl,rfl,rfl⟩⟩
def Aa6 {H:List Aa} {r:List UInt8} {k:Int} {t:List UInt8} {ks:List (List UInt8)} {l:List Nd} {x:AV} (h:H[0]?=some (.box [.d (S r),x])) :
  Ig 1 H (.tup [.agg [.d (.int .i64 k),.d (S t),.d (Ss ks false),.d (.sl l.length false (A0 l))],.d (.bool true)]) (.d (R9 (some (r,.mk k t ks l)))) [My (some (r,.mk k t ks l))] :=
 ⟨[some 0],rfl,by simp,by simp[HW,My,h,BW,SW,AW],.inr ⟨_,rfl,rfl,rfl⟩⟩
def XW (data:List UInt8) (hd:data.length<=100000000) :
  Ctr TP G 47 [.ptr 0 0] [.box [.d (S data),.d (.sl 0 true [])]] (.d (R9 (Dc (.beg data [])))) [My (Dc (.beg data []))]:=by
 have hsig:=fun (c:UInt8) (r:List UInt8) (hr:r.length<=1000000000) v=>F4 (G:=G) c r (by omega) v;obtain ⟨o,ho⟩:∃ o,o=Dc (.beg data []):=⟨_,rfl⟩;rw[<-ho];refine Ctr.body (M:=MN7) Al Tryz.func47 rfl go47 ?_ (hx:=by cases o<;>rfl);simp(disch:=(try simp only[Ad]);omega)only[Ag,Cw,CA,Cz,Cy,Cx,Tryz.f47,AG,↓Ac,Ae,↓reduceIte,↓reduceDIte,↓Qe,Qu,Qv,Qw,Qx,Qy,Qz,QA,QB,QC,QD,QE,QF,QG,QH,QI,QK];refine As.frI 5 (α:=NX) (fun x=>x.rest.length) (fun x=>[]) (fun x=>x.H) (NodI o data.length) ⟨data,[],2,[],[.box [.d (S data),.lsl 2 4 0 0],.box zN,.row false []]⟩ ⟨⟨rfl,⟨⟨[],.inr ⟨rfl,rfl⟩,rfl,rfl⟩,by simp⟩,by simp,by simp[NoX]⟩,rfl,by simp,ho.symm,by simp[okP]⟩ ?_ ?_
 ·first
  | exact .weak ⟨[some 0,some 1,none],rfl,by simp,by simp[sA,kZ,SW,AW],by simp[HW,BW,SW,AW]⟩
 rintro ⟨rest,st,ob,ids,H⟩ ⟨h,b1,n1,hres,hok⟩;simp only at h b1 n1 hres hok;simp only[Cr,AdO,AdP,reduceIte];obtain ⟨ok1,ok2⟩:=hok;have q0:=h.box;obtain ⟨n,c,b,ob',ids',H',cb,xb,Kb,hQb⟩:=WI (G:=G) h (by omega) (by omega);have okb:=Vc (N:=data.length) (rest:=rest) (st:=st) ⟨ok1,ok2⟩;have mub:=Rh rest st;rw[Ee] at hres;have lH:1<H.length:=(AbR.1 b1).1;have b1':H'[1]?=some (.box zN):=by rw[Kb.keep 1 (by omega) lH n1];exact b1
 have n1':=Kb.not_mem n1 lH;have lH':=Kb.len;obtain ⟨nk,nt,nks,nl⟩:=n;cases b with
 | false =>
  have hbad:CF rest st=.bad:=by
   cases e:CF rest st with
   | bad=>rfl
   | beg r s=>rw[e] at hQb;exact absurd hQb.2.1 (by simp)
   | got r s m=>rw[e] at hQb;exact absurd hQb.2.2.1 (by simp)
  rw[hbad,GS] at hres;subst hres;simp(disch:=(try simp only[Ad]);omega)only[Ag,Cw,CA,Cz,Cy,Cx,AG,↓Ac,Ae,↓reduceIte,↓reduceDIte,↓Qe,Qu,Qv,Qw,Qx,Qy,Qz,QA,QB,QC,QD,QE,QF,QG,QH,QI,QK];refine Aq.go cb ⟨.inl rfl,trivial⟩ Kb.len ?_;simp(disch:=(try simp only[Ad]);omega)only[Ag,Cw,CA,Cz,Cy,Cx,ndC,b1',AG,↓Ac,Ae,↓reduceIte,↓reduceDIte,↓Qe,Qu,Qv,Qw,Qx,Qy,Qz,QA,QB,QC,QD,QE,QF,QG,QH,QI,QK];exact F6 (by simp)
 | true =>
  simp(disch:=(try simp only[Ad]);omega)only[Ag,Cw,CA,Cz,Cy,Cx,AG,↓Ac,Ae,↓reduceIte,↓reduceDIte,↓Qe,Qu,Qv,Qw,Qx,Qy,Qz,QA,QB,QC,QD,QE,QF,QG,QH,QI,QK];refine Aq.go cb ⟨.inl rfl,trivial⟩ Kb.len ?_;simp(disch:=(try simp only[Ad]);omega)only[Ag,Cw,CA,Cz,Cy,Cx,ndC,b1',AG,↓Ac,Ae,↓reduceIte,↓reduceDIte,↓Qe,Qu,Qv,Qw,Qx,Qy,Qz,QA,QB,QC,QD,QE,QF,QG,QH,QI,QK];have lH'':1<H'.length:=by omega
  have key:∃ x:NX × Option Nd,InI o data.length H'.length rest.length x/\x.1.H=H'++[.box [.d (.int .i64 nk),.d (S nt),.d (Ss nks false),.d (.sl nl.length false (A0 nl))]]/\x.2.isSome=c:=by
   have fin:∀ r s,Cj r s ob' ids' H'->r.length+2<rest.length+2->∀ m:Option Nd,Dc (IxP (⟨r,s,ob',ids',H'++[.box [.d (.int .i64 nk),.d (S nt),.d (Ss nks false),.d (.sl nl.length false (A0 nl))]]⟩,m))=o ->
     okP data.length (IxP (⟨r,s,ob',ids',H'++[.box [.d (.int .i64 nk),.d (S nt),.d (Ss nks false),.d (.sl nl.length false (A0 nl))]]⟩,m))->(∀ y,m=some y->y=.mk nk nt nks nl)->m.isSome=c ->
     ∃ x:NX × Option Nd,InI o data.length H'.length rest.length x/\x.1.H=H'++[.box [.d (.int .i64 nk),.d (S nt),.d (Ss nks false),.d (.sl nl.length false (A0 nl))]]/\x.2.isSome=c:=by
    intro r s P hl m hm1 hm2 hm3 hm4;exact ⟨_,⟨(P.app (by simp[NoX])).1,by rw[Az lH''];exact b1',n1',⟨.mk nk nt nks nl,by rw[AR (AbZ _),AdC];rfl,hm3⟩,fun q=>by have:=P.stack.lt _ q;omega,by show r.length<rest.length;omega,hm1,hm2⟩,rfl,hm4⟩
   cases e:CF rest st with
   | bad=>rw[e] at hQb;exact absurd hQb (by simp[AbD])
   | beg r s =>rw[e] at hQb hres okb mub;exact fin r s hQb.2.2 mub none hres okb (fun y hy=>by cases hy) hQb.1.symm
   | got r s m =>rw[e] at hQb hres okb mub;exact fin r s hQb.2.2.2 mub (some m) hres okb (fun y hy=>by cases hy;exact hQb.1.symm) hQb.2.1.symm
  obtain ⟨x0,i0,hH0,hc0⟩:=key;refine As.frI 21 (α:=NX × Option Nd) (fun x=>x.1.rest.length) (fun x=>[(5,.d (.bool x.2.isSome))]) (fun x=>x.1.H) (InI o data.length H'.length rest.length) x0 i0 ?_ ?_;·rw[hH0,hc0];exact .slots (by simp[sA,kZ,CK])
  rintro ⟨⟨r,s,ob2,ids2,H2⟩,nm⟩ ⟨P,e1,m1,⟨n,eL,hnm⟩,nL,hlt,hres2,hok2⟩;simp only at P e1 m1 eL hnm nL hlt;have p0:=P.box;have l2:0<H2.length:=(AbR.1 p0).1;have lL:H'.length<H2.length:=(AbR.1 eL).1;obtain ⟨nk2,nt2,nks2,nl2⟩:=n;simp only[Cr,AdO,AdP,reduceIte];cases nm with
  | none =>
   simp(disch:=(try simp only[Ad]);omega)only[Ag,Cw,CA,Cz,Cy,Cx,AG,↓Ac,Ae,↓reduceIte,↓reduceDIte,↓Qe,Qu,Qv,Qw,Qx,Qy,Qz,QA,QB,QC,QD,QE,QF,QG,QH,QI,QK];first
   | exact ⟨⟨r,s,ob2,ids2,H2⟩,⟨P,e1,m1,hres2,hok2⟩,hlt,.inl ⟨rfl,by simp[sA,kZ,CK]⟩⟩
  | some m =>
   obtain rfl:=hnm m rfl;have eL':H2[H'.length]?=some (.box [.d (.int .i64 nk2),.d (S nt2),.d (Ss nks2 false),.d (.sl nl2.length false (A0 nl2))]):=eL;have q0':H2[0]?=some (.box [.d (S r),.lsl ob2 4 0 s.length]):=p0;clear p0 eL;have his:(some (Nd.mk nk2 nt2 nks2 nl2)).isSome=true:=rfl;cases s with
   | nil =>
    simp(disch:=(try simp only[Ad]);omega)only[Ag,Cw,CA,Cz,Cy,Cx,his,Ac7,q0',e1,eL',AG,↓Ac,Ae,↓reduceIte,↓reduceDIte,↓Qe,Qu,Qv,Qw,Qx,Qy,Qz,QA,QB,QC,QD,QE,QF,QG,QH,QI,QK];have ho2:some (r,Nd.mk nk2 nt2 nks2 nl2)=o:=hres2;rw[<-ho2];first
    | exact Aa6 (by rw[Ao (by decide)];exact q0')
   | cons t s =>
    obtain ⟨c,junk,i,ka,ik,qa,iq,hb,hc,hs,hk,hq,hids⟩:=P.top;have p0:H2[0]?=some (.box [.d (S r),.lsl ob2 4 0 (s.length+1)]):=q0';replace q0':=p0;have lb2:ob2<H2.length:=P.stack.lt ob2 (by simp);have hnd:=P.stack.nd;have hpos:=P.pos;have hlt2:=P.stack.lt;rw[hids] at hnd hpos hlt2;have ob0:=hpos ob2 (by simp);have g0:=I4 hc (.d (.int .i64 t.kind)) (.d (S t.text)) ka qa junk;have g3:=W7 hc (.d (.int .i64 t.kind)) (.d (S t.text)) ka qa junk;have gl:=I3 hc (.d (.int .i64 t.kind)) (.d (S t.text)) ka qa junk;have gs:=fun x=>W5 hc (.d (.int .i64 t.kind)) (.d (S t.text)) ka qa x junk;obtain ⟨cs,hcs⟩:∃ cs,cs=c++(.d (.int .i64 t.kind)::.d (S t.text)::ka::qa::junk):=⟨_,rfl⟩;rw[<-hcs] at hb g0 g3 gl gs;have ndl:=Bc t.kids;have htk3:∀ x,Ad2 (t.kids.length*4) (A0 t.kids++x)=A0 t.kids:=fun x=>by rw[show t.kids.length*4=(A0 t.kids).length by omega,AdG]
    have hdr3:∀ x y z w:D,Ad3 (t.kids.length*4+4) (A0 t.kids++[x,y,z,w])=[]:=fun x y z w=>AdE (by simp;omega);have okk:=hok2.2 t (by simp);have oks:=hok2.1;simp only[AbY] at oks;have hLo:¬H'.length=ob2:=fun e=>nL (by rw[e];simp);have hcut:cut [D.int .i64 0,.str {data:=#[]},.sl 0 false [],.sl 0 false []] 0 4=[D.int .i64 0,.str {data:=#[]},.sl 0 false [],.sl 0 false []]:=rfl;obtain ⟨cf,hcf⟩:=C7 [0,ob2,H2.length,H2.length+1,H'.length] (by simp only[AbV,AbU,AdH,or_false,not_or,AdM,and_true,not_false_eq_true];omega);have c0:=hcf 0 _ rfl;have c1:=hcf 1 _ rfl;have c2:=hcf 2 _ rfl;have c3:=hcf 3 _ rfl;have c4:=hcf 4 _ rfl;rcases hq with ⟨kn,qa0,iq0⟩ | ⟨kn,qb,qa0,iq0,hqb⟩
    ·subst qa0;obtain ⟨H3,hH3⟩:∃ H3,H3=H2.set ob2 (.box (c++(.d (.int .i64 t.kind)::.d (S t.text)::ka::.lsl (H2.length+1) 4 0 1::junk)))++[.row false [.int .i64 0,.str {data:=#[]},.sl 0 false [],.sl 0 false []],.row false [.int .i64 nk2,S nt2,Ss nks2 false,.sl nl2.length false (A0 nl2)]]:=⟨_,rfl⟩;have l3:H3.length=H2.length+2:=(by rw[hH3];simp)
     have x3:NoX H3:=(by rw[hH3];exact (P.nox.set _ (by simp)).app (by simp[NoX]));have f3:∀ b,b<H2.length->¬b=ob2->H3[b]?=H2[b]?:=fun b hb1 hb3=>by rw[hH3,Az (by simpa using hb1),Ao (fun e=>hb3 e.symm)]
     have e30:H3[0]?=some (.box [.d (S r),.lsl ob2 4 0 (s.length+1)]):=(by rw[f3 0 l2 (by omega)];exact p0);have e3b:H3[ob2]?=some (.box (c++(.d (.int .i64 t.kind)::.d (S t.text)::ka::.lsl (H2.length+1) 4 0 (t.kids.length+1)::junk))):=(by rw[hH3,Az (by simpa using lb2),Bt (by simpa using lb2),kn]);have e3n:H3[H2.length+1]?=some (.row false (A0 (t.kids++[.mk nk2 nt2 nks2 nl2]))):=(by rw[hH3,AR (by simp)];simp[G5,A0,ndC,Adt.1 kn]);have hne:∀ b,b∈ob2::(i++(ik++iq))->¬b=H2.length+1:=fun b hb=>by have:=hlt2 b hb;omega
     have hnd2:(ob2::(i++(ik++[H2.length+1]))).Nodup:=by
      have u1:=AbV.1 hnd;have u2:=AbT.1 u1.2;have u3:=AbT.1 u2.2.1;refine AbV.2 ⟨fun q=>?_,AbT.2 ⟨u2.1,AbT.2 ⟨u3.1,by simp,fun x hx y hy e=>?_⟩,fun x hx y hy e=>?_⟩⟩
      ·rcases AbP.1 q with q | q
       ·exact u1.1 (AbO _ q)
       rcases AbP.1 q with q | q
       ·exact u1.1 (AbM _ (AbO _ q))
       exact hne ob2 (by simp) (AbQ.1 q)
      ·rw[AbQ.1 hy] at e;exact hne x (AbH _ (AbM _ (AbO _ hx))) e
      subst e;rcases AbP.1 hy with hy | hy
      ·exact u2.2.2 x hx x (AbO _ hy) rfl
      exact hne x (AbH _ (AbO _ hx)) (AbQ.1 hy)
     have hold:∀ b,b∈i++ik->b<H2.length/\¬b=ob2:=fun b hb=>by have hm:b∈i++(ik++iq):=(by rcases AbP.1 hb with hb | hb;exact AbO _ hb;exact AbM _ (AbO _ hb));refine ⟨hlt2 b (AbH _ hm),fun e=>(AbV.1 hnd).1 (e▸hm)⟩
     have P3:Cj r (Cs t (.mk nk2 nt2 nks2 nl2)::s) ob2 (i++(ik++[H2.length+1])) H3:=by
      refine Cj.mk_top (t:=Cs t (.mk nk2 nt2 nks2 nl2)) e30 e3b hs (fun b hb=>f3 b (hold b (AbO _ hb)).1 (hold b (AbO _ hb)).2) (hk.frame fun b hb=>f3 b (hold b (AbM _ hb)).1 (hold b (AbM _ hb)).2) (.inr ⟨by simp[Cs,Nd.kids],_,by simp[Cs,Nd.kids],rfl,e3n⟩) hnd2 (fun b hb=>?_) x3;rcases AbU.1 hb with hb | hb
      ·rw[hb];exact hpos ob2 (by simp)
      rcases AbP.1 hb with hb | hb
      ·exact hpos b (AbH _ (AbO _ hb))
      rcases AbP.1 hb with hb | hb
      ·exact hpos b (AbH _ (AbM _ (AbO _ hb)))
      rw[AbQ.1 hb];omega
     have K3:Co (ob2::ids2) H2 (ob2::(i++(ik++[H2.length+1]))) H3:=by
      rw[hids];refine ⟨by omega,fun j j0 jl jn=>f3 j jl (fun e=>jn (by rw[e];simp)),fun j hj=>?_⟩;rcases AbU.1 hj with hj | hj
      ·rw[hj];simp
      rcases AbP.1 hj with hj | hj
      ·exact .inl (AbH _ (AbO _ hj))
      rcases AbP.1 hj with hj | hj
      ·exact .inl (AbH _ (AbM _ (AbO _ hj)))
      rw[AbQ.1 hj];exact .inr (by omega)
     obtain ⟨b3,n3,L3⟩:H3[1]?=some (.box zN)/\1∉ob2::(i++(ik++[H2.length+1]))/\(H3[H'.length]?=some (.box [.d (.int .i64 nk2),.d (S nt2),.d (Ss nks2 false),.d (.sl nl2.length false (A0 nl2))])/\H'.length∉ob2::(i++(ik++[H2.length+1]))) :=
      ⟨by rw[K3.keep 1 (by omega) (by omega) m1];exact e1,K3.not_mem m1 (by omega),by rw[K3.keep H'.length (by omega) lL nL];exact eL',K3.not_mem nL lL⟩
     have g30:=I4 hc (.d (.int .i64 t.kind)) (.d (S t.text)) ka (.lsl (H2.length+1) 4 0 (t.kids.length+1)) junk;have gl3:=I3 hc (.d (.int .i64 t.kind)) (.d (S t.text)) ka (.lsl (H2.length+1) 4 0 (t.kids.length+1)) junk
     skip
     have s4:=P3.lift (G:=G) (r':=(sgn 44 r).1) (fun v=>hsig 44 r (by omega) v) (by simp);obtain ⟨P4,K4⟩:=P3.rest (r':=(sgn 44 r).1);have hl44:=A7 44 r;have hres3:=hres2;have hok3:=hok2;rw[show IxP ((⟨r,t::s,ob2,ids2,H2⟩:NX),some (.mk nk2 nt2 nks2 nl2))=.got r (t::s) (.mk nk2 nt2 nks2 nl2) from rfl,FF] at hres3;replace hok3:=PH hok3;have mu3:=LH r t s (.mk nk2 nt2 nks2 nl2);unfold Ic at hres3 hok3 mu3;simp(disch:=(try simp only[Ad]);omega)only[Ag,Cw,CA,Cz,Cy,Cx,his,q0',e1,eL',hb,g0,g3,gl,gs,ndl,htk3,hdr3,hcut,AG,↓Ac,Ae,↓reduceIte,↓reduceDIte,↓Qe,Qu,Qv,Qw,Qx,Qy,Qz,QA,QB,QC,QD,QE,QF,QG,QH,QI,QK];refine ⟨by rfl,?_⟩;refine ⟨AD cf (by simp(disch:=omega)only[Bf,AP,AO,Ba,A9,and_self]) (by simp only[Ady,Adz,c0,c1,c2,c3,c4];rfl),?_⟩;rw[<-hH3];refine Aq.go s4 ⟨.inl rfl,.inl rfl,trivial⟩ (by simp) ?_;cases h44:(sgn 44 r).2 with
     | true =>
      rw[if_pos h44] at hres3 hok3 mu3;obtain ⟨kb,ids5,H5,d5,X5,K5,hQ5⟩:=HQ (G:=G) P4 (by omega) (by omega) (by show t.keys.length<=_;omega);have KK:=K4.trans K5;have e5:H5[1]?=some (.box zN):=(by rw[KK.keep 1 (by omega) (by omega) n3];exact b3)
      have n5:=KK.not_mem n3 (by omega);have L5:H5[H'.length]?=some (.box [.d (.int .i64 nk2),.d (S nt2),.d (Ss nks2 false),.d (.sl nl2.length false (A0 nl2))]):=(by rw[KK.keep H'.length (by omega) (by omega) L3.2];exact L3.1)
      have m5:=KK.not_mem L3.2 (by omega);have l5:=K5.len;rw[Ac6] at l5;simp(disch:=(try simp only[Ad]);omega)only[Ag,Cw,CA,Cz,Cy,Cx,his,AG,↓Ac,Ae,↓reduceIte,↓reduceDIte,↓Qe,Qu,Qv,Qw,Qx,Qy,Qz,QA,QB,QC,QD,QE,QF,QG,QH,QI,QK];refine Aq.go d5 ⟨.inl rfl,trivial⟩ K5.len ?_;rcases MM (sgn 44 r).1 (Cs t (.mk nk2 nt2 nks2 nl2)) s with hkp | ⟨ra,rc,hkp⟩
      ·rw[hkp] at hQ5 hres3;have hkb:kb=false:=hQ5;subst hkb;rw[GS] at hres3;subst hres3;simp(disch:=(try simp only[Ad]);omega)only[Ag,Cw,CA,Cz,Cy,Cx,his,e5,AG,↓Ac,Ae,↓reduceIte,↓reduceDIte,↓Qe,Qu,Qv,Qw,Qx,Qy,Qz,QA,QB,QC,QD,QE,QF,QG,QH,QI,QK];first
       | exact F6 (by rw[Ac6];omega)
      rw[hkp] at hQ5 hres3 hok3 mu3;obtain ⟨hkb,P5⟩:=hQ5;subst hkb;simp(disch:=(try simp only[Ad]);omega)only[Ag,Cw,CA,Cz,Cy,Cx,his,e5,AG,↓Ac,Ae,↓reduceIte,↓reduceDIte,↓Qe,Qu,Qv,Qw,Qx,Qy,Qz,QA,QB,QC,QD,QE,QF,QG,QH,QI,QK];first
      | exact ⟨(⟨ra,rc,ob2,ids5,H5⟩,none),⟨P5,e5,n5,⟨.mk nk2 nt2 nks2 nl2,L5,fun m hm=>by cases hm⟩,m5,by have:ra.length+2<r.length+2:=mu3;show ra.length<rest.length;omega,hres3,hok3⟩,by have:ra.length+2<r.length+2:=mu3;show ra.length<r.length;omega,.inl ⟨rfl,by simp[sA,kZ,CK]⟩⟩
     | false =>
      rw[if_neg (by rw[h44];simp)] at hres3 hok3 mu3;have s5:=P4.lift (G:=G) (r':=(sgn (AH t.kind) (sgn 44 r).1).1) (fun v=>hsig (AH t.kind) (sgn 44 r).1 (by omega) v) (by simp);obtain ⟨P5,K5⟩:=P4.rest (r':=(sgn (AH t.kind) (sgn 44 r).1).1);have hl55:=A7 (AH t.kind) (sgn 44 r).1;have KK:=K4.trans K5;simp(disch:=(try simp only[Ad]);omega)only[Ag,Cw,CA,Cz,Cy,Cx,his,e3b,g30,gl3,AG,↓Ac,Ae,↓reduceIte,↓reduceDIte,↓Qe,Qu,Qv,Qw,Qx,Qy,Qz,QA,QB,QC,QD,QE,QF,QG,QH,QI,QK];refine Ab.of (Bq t.kind) (by rfl) ?_;simp(disch:=(try simp only[Ad]);omega)only[Ag,Cw,CA,Cz,Cy,Cx,his,e3b,g30,gl3,AG,↓Ac,Ae,↓reduceIte,↓reduceDIte,↓Qe,Qu,Qv,Qw,Qx,Qy,Qz,QA,QB,QC,QD,QE,QF,QG,QH,QI,QK];refine Aq.go s5 ⟨.inl rfl,.inl rfl,trivial⟩ (by simp) ?_;have ek:(Cs t (.mk nk2 nt2 nks2 nl2)).kind=t.kind:=rfl;cases hcl5:(sgn (AH t.kind) (sgn 44 r).1).2 with
      | true =>
       rw[if_pos hcl5] at hres3 hok3 mu3;obtain ⟨ids6,H6,d6,P6,K6⟩:=HL (G:=G) P5 (by omega);have d6:Ctr TP G 82 [.ptr 0 0] _ (.d (NdD (.mk t.kind t.text t.keys (t.kids++[.mk nk2 nt2 nks2 nl2])))) H6:=d6;have K7:=KK.trans K6;have e6:H6[1]?=some (.box zN):=(by rw[K7.keep 1 (by omega) (by omega) n3];exact b3)
       have n6:=K7.not_mem n3 (by omega);have L6:H6[H'.length]?=some (.box [.d (.int .i64 nk2),.d (S nt2),.d (Ss nks2 false),.d (.sl nl2.length false (A0 nl2))]):=(by rw[K7.keep H'.length (by omega) (by omega) L3.2];exact L3.1)
       have m6:=K7.not_mem L3.2 (by omega);have l6:=K7.len;simp(disch:=(try simp only[Ad]);omega)only[Ag,Cw,CA,Cz,Cy,Cx,his,AG,↓Ac,Ae,↓reduceIte,↓reduceDIte,↓Qe,Qu,Qv,Qw,Qx,Qy,Qz,QA,QB,QC,QD,QE,QF,QG,QH,QI,QK];refine Aq.go d6 ⟨.inl rfl,trivial⟩ K6.len ?_;generalize hkk:t.kids++[Nd.mk nk2 nt2 nks2 nl2]=kk at *;have hak:Cs t (.mk nk2 nt2 nks2 nl2)=.mk t.kind t.text t.keys kk:=(by rw[<-hkk];rfl)
       simp(disch:=(try simp only[Ad]);omega)only[Ag,Cw,CA,Cz,Cy,Cx,his,L6,ndC,AG,↓Ac,Ae,↓reduceIte,↓reduceDIte,↓Qe,Qu,Qv,Qw,Qx,Qy,Qz,QA,QB,QC,QD,QE,QF,QG,QH,QI,QK];rw[hak] at hres3 hok3;first
       | exact ⟨(⟨(sgn (AH t.kind) (sgn 44 r).1).1,s,ob2,ids6,H6.set H'.length (.box [.d (.int .i64 t.kind),.d (S t.text),.d (Ss t.keys false),.d (.sl kk.length false (A0 kk))])⟩,some (.mk t.kind t.text t.keys kk)),⟨P6.other (by omega) m6 (by simp),by show (H6.set _ _)[1]?=_;rw[Ao (by omega)];exact e6,n6,⟨.mk t.kind t.text t.keys kk,Bt (by omega),fun m hm=>by cases hm;rfl⟩,m6,by have:=mu3;simp only[muP] at this;show (sgn (AH t.kind) (sgn 44 r).1).1.length<rest.length;omega,hres3,hok3⟩,by have:=mu3;simp only[muP] at this;show (sgn (AH t.kind) (sgn 44 r).1).1.length<r.length;omega,.inl ⟨rfl,by simp[sA,kZ,CK]⟩⟩
      | false =>
       rw[if_neg (by rw[hcl5];simp),GS] at hres3;subst hres3;simp(disch:=(try simp only[Ad]);omega)only[Ag,Cw,CA,Cz,Cy,Cx,his,b3,AG,↓Ac,Ae,↓reduceIte,↓reduceDIte,↓Qe,Qu,Qv,Qw,Qx,Qy,Qz,QA,QB,QC,QD,QE,QF,QG,QH,QI,QK];first
       | exact F6 (by simp;omega)
       | exact F6 (by simp)
    subst qa0;have hqm:qb∈i++(ik++iq):=AbM _ (AbM _ (by rw[iq0];simp));have lqb:qb<H2.length:=hlt2 qb (AbH _ hqm);have qb0:=hpos qb (AbH _ hqm);have nqo:¬qb=ob2:=fun e=>(AbV.1 hnd).1 (e▸hqm);have noq:¬ob2=qb:=fun e=>nqo e.symm;obtain ⟨H3,hH3⟩:∃ H3,H3=(H2.set qb .dead).set ob2 (.box (c++(.d (.int .i64 t.kind)::.d (S t.text)::ka::.lsl (H2.length+1) 4 0 (t.kids.length+1)::junk)))++[.row false [.int .i64 0,.str {data:=#[]},.sl 0 false [],.sl 0 false []],.row false (A0 t.kids++[.int .i64 nk2,S nt2,Ss nks2 false,.sl nl2.length false (A0 nl2)])]:=⟨_,rfl⟩;have l3:H3.length=H2.length+2:=(by rw[hH3];simp)
    have x3:NoX H3:=(by rw[hH3];exact ((P.nox.set _ (by simp)).set _ (by simp)).app (by simp[NoX]));have f3:∀ b,b<H2.length->¬b=ob2->¬b=qb->H3[b]?=H2[b]?:=fun b hb1 hb3 hb4=>by rw[hH3,Az (by simpa using hb1),Ao (fun e=>hb3 e.symm),Ao (fun e=>hb4 e.symm)]
    have e30:H3[0]?=some (.box [.d (S r),.lsl ob2 4 0 (s.length+1)]):=(by rw[f3 0 l2 (by omega) (by omega)];exact p0);have e3b:H3[ob2]?=some (.box (c++(.d (.int .i64 t.kind)::.d (S t.text)::ka::.lsl (H2.length+1) 4 0 (t.kids.length+1)::junk))):=(by rw[hH3,Az (by simpa using lb2),Bt (by simpa using lb2)]);have e3n:H3[H2.length+1]?=some (.row false (A0 (t.kids++[.mk nk2 nt2 nks2 nl2]))):=(by rw[hH3,AR (by simp)];simp[G5,A0,ndC]);have hne:∀ b,b∈ob2::(i++(ik++iq))->¬b=H2.length+1:=fun b hb=>by have:=hlt2 b hb;omega
    have hnd2:(ob2::(i++(ik++[H2.length+1]))).Nodup:=by
     have u1:=AbV.1 hnd;have u2:=AbT.1 u1.2;have u3:=AbT.1 u2.2.1;refine AbV.2 ⟨fun q=>?_,AbT.2 ⟨u2.1,AbT.2 ⟨u3.1,by simp,fun x hx y hy e=>?_⟩,fun x hx y hy e=>?_⟩⟩
     ·rcases AbP.1 q with q | q
      ·exact u1.1 (AbO _ q)
      rcases AbP.1 q with q | q
      ·exact u1.1 (AbM _ (AbO _ q))
      exact hne ob2 (by simp) (AbQ.1 q)
     ·rw[AbQ.1 hy] at e;exact hne x (AbH _ (AbM _ (AbO _ hx))) e
     subst e;rcases AbP.1 hy with hy | hy
     ·exact u2.2.2 x hx x (AbO _ hy) rfl
     exact hne x (AbH _ (AbO _ hx)) (AbQ.1 hy)
    have hold:∀ b,b∈i++ik->b<H2.length/\¬b=ob2/\¬b=qb:=fun b hb=>by
     have hm:b∈i++(ik++iq):=(by rcases AbP.1 hb with hb | hb;exact AbO _ hb;exact AbM _ (AbO _ hb));refine ⟨hlt2 b (AbH _ hm),fun e=>(AbV.1 hnd).1 (e▸hm),fun e=>?_⟩;subst e;have u2:=AbT.1 (AbV.1 hnd).2;have u3:=AbT.1 u2.2.1;rcases AbP.1 hb with hb | hb
     ·exact u2.2.2 b hb b (AbM _ (by rw[iq0];simp)) rfl
     exact u3.2.2 b hb b (by rw[iq0];simp) rfl
    have P3:Cj r (Cs t (.mk nk2 nt2 nks2 nl2)::s) ob2 (i++(ik++[H2.length+1])) H3:=by
     refine Cj.mk_top (t:=Cs t (.mk nk2 nt2 nks2 nl2)) e30 e3b hs (fun b hb=>f3 b (hold b (AbO _ hb)).1 (hold b (AbO _ hb)).2.1 (hold b (AbO _ hb)).2.2) (hk.frame fun b hb=>f3 b (hold b (AbM _ hb)).1 (hold b (AbM _ hb)).2.1 (hold b (AbM _ hb)).2.2) (.inr ⟨by simp[Cs,Nd.kids],_,by simp[Cs,Nd.kids],rfl,e3n⟩) hnd2 (fun b hb=>?_) x3;rcases AbU.1 hb with hb | hb
     ·rw[hb];exact hpos ob2 (by simp)
     rcases AbP.1 hb with hb | hb
     ·exact hpos b (AbH _ (AbO _ hb))
     rcases AbP.1 hb with hb | hb
     ·exact hpos b (AbH _ (AbM _ (AbO _ hb)))
     rw[AbQ.1 hb];omega
    have K3:Co (ob2::ids2) H2 (ob2::(i++(ik++[H2.length+1]))) H3:=by
     rw[hids];refine ⟨by omega,fun j j0 jl jn=>f3 j jl (fun e=>jn (by rw[e];simp)) (fun e=>jn (by rw[e,iq0];simp)),fun j hj=>?_⟩;rcases AbU.1 hj with hj | hj
     ·rw[hj];simp
     rcases AbP.1 hj with hj | hj
     ·exact .inl (AbH _ (AbO _ hj))
     rcases AbP.1 hj with hj | hj
     ·exact .inl (AbH _ (AbM _ (AbO _ hj)))
     rw[AbQ.1 hj];exact .inr (by omega)
    obtain ⟨b3,n3,L3⟩:H3[1]?=some (.box zN)/\1∉ob2::(i++(ik++[H2.length+1]))/\(H3[H'.length]?=some (.box [.d (.int .i64 nk2),.d (S nt2),.d (Ss nks2 false),.d (.sl nl2.length false (A0 nl2))])/\H'.length∉ob2::(i++(ik++[H2.length+1]))) :=
     ⟨by rw[K3.keep 1 (by omega) (by omega) m1];exact e1,K3.not_mem m1 (by omega),by rw[K3.keep H'.length (by omega) lL nL];exact eL',K3.not_mem nL lL⟩
    have g30:=I4 hc (.d (.int .i64 t.kind)) (.d (S t.text)) ka (.lsl (H2.length+1) 4 0 (t.kids.length+1)) junk;have gl3:=I3 hc (.d (.int .i64 t.kind)) (.d (S t.text)) ka (.lsl (H2.length+1) 4 0 (t.kids.length+1)) junk
    skip
    have s4:=P3.lift (G:=G) (r':=(sgn 44 r).1) (fun v=>hsig 44 r (by omega) v) (by simp);obtain ⟨P4,K4⟩:=P3.rest (r':=(sgn 44 r).1);have hl44:=A7 44 r;have hres3:=hres2;have hok3:=hok2;rw[show IxP ((⟨r,t::s,ob2,ids2,H2⟩:NX),some (.mk nk2 nt2 nks2 nl2))=.got r (t::s) (.mk nk2 nt2 nks2 nl2) from rfl,FF] at hres3;replace hok3:=PH hok3;have mu3:=LH r t s (.mk nk2 nt2 nks2 nl2);unfold Ic at hres3 hok3 mu3;simp(disch:=(try simp only[Ad]);omega)only[Ag,Cw,CA,Cz,Cy,Cx,his,q0',e1,eL',hb,g0,g3,gl,gs,ndl,htk3,hdr3,hcut,hqb,AG,↓Ac,Ae,↓reduceIte,↓reduceDIte,↓Qe,Qu,Qv,Qw,Qx,Qy,Qz,QA,QB,QC,QD,QE,QF,QG,QH,QI,QK];refine ⟨by rfl,?_⟩;refine ⟨AD cf (by simp(disch:=omega)only[Bf,AP,AO,Ba,A9,and_self]) (by simp only[Ady,Adz,c0,c1,c2,c3,c4];rfl),?_⟩;rw[<-hH3];refine Aq.go s4 ⟨.inl rfl,.inl rfl,trivial⟩ (by simp) ?_;cases h44:(sgn 44 r).2 with
    | true =>
     rw[if_pos h44] at hres3 hok3 mu3;obtain ⟨kb,ids5,H5,d5,X5,K5,hQ5⟩:=HQ (G:=G) P4 (by omega) (by omega) (by show t.keys.length<=_;omega);have KK:=K4.trans K5;have e5:H5[1]?=some (.box zN):=(by rw[KK.keep 1 (by omega) (by omega) n3];exact b3)
     have n5:=KK.not_mem n3 (by omega);have L5:H5[H'.length]?=some (.box [.d (.int .i64 nk2),.d (S nt2),.d (Ss nks2 false),.d (.sl nl2.length false (A0 nl2))]):=(by rw[KK.keep H'.length (by omega) (by omega) L3.2];exact L3.1)
     have m5:=KK.not_mem L3.2 (by omega);have l5:=K5.len;rw[Ac6] at l5;simp(disch:=(try simp only[Ad]);omega)only[Ag,Cw,CA,Cz,Cy,Cx,his,AG,↓Ac,Ae,↓reduceIte,↓reduceDIte,↓Qe,Qu,Qv,Qw,Qx,Qy,Qz,QA,QB,QC,QD,QE,QF,QG,QH,QI,QK];refine Aq.go d5 ⟨.inl rfl,trivial⟩ K5.len ?_;rcases MM (sgn 44 r).1 (Cs t (.mk nk2 nt2 nks2 nl2)) s with hkp | ⟨ra,rc,hkp⟩
     ·rw[hkp] at hQ5 hres3;have hkb:kb=false:=hQ5;subst hkb;rw[GS] at hres3;subst hres3;simp(disch:=(try simp only[Ad]);omega)only[Ag,Cw,CA,Cz,Cy,Cx,his,e5,AG,↓Ac,Ae,↓reduceIte,↓reduceDIte,↓Qe,Qu,Qv,Qw,Qx,Qy,Qz,QA,QB,QC,QD,QE,QF,QG,QH,QI,QK];first
      | exact F6 (by rw[Ac6];omega)
     rw[hkp] at hQ5 hres3 hok3 mu3;obtain ⟨hkb,P5⟩:=hQ5;subst hkb;simp(disch:=(try simp only[Ad]);omega)only[Ag,Cw,CA,Cz,Cy,Cx,his,e5,AG,↓Ac,Ae,↓reduceIte,↓reduceDIte,↓Qe,Qu,Qv,Qw,Qx,Qy,Qz,QA,QB,QC,QD,QE,QF,QG,QH,QI,QK];first
     | exact ⟨(⟨ra,rc,ob2,ids5,H5⟩,none),⟨P5,e5,n5,⟨.mk nk2 nt2 nks2 nl2,L5,fun m hm=>by cases hm⟩,m5,by have:ra.length+2<r.length+2:=mu3;show ra.length<rest.length;omega,hres3,hok3⟩,by have:ra.length+2<r.length+2:=mu3;show ra.length<r.length;omega,.inl ⟨rfl,by simp[sA,kZ,CK]⟩⟩
    | false =>
     rw[if_neg (by rw[h44];simp)] at hres3 hok3 mu3;have s5:=P4.lift (G:=G) (r':=(sgn (AH t.kind) (sgn 44 r).1).1) (fun v=>hsig (AH t.kind) (sgn 44 r).1 (by omega) v) (by simp);obtain ⟨P5,K5⟩:=P4.rest (r':=(sgn (AH t.kind) (sgn 44 r).1).1);have hl55:=A7 (AH t.kind) (sgn 44 r).1;have KK:=K4.trans K5;simp(disch:=(try simp only[Ad]);omega)only[Ag,Cw,CA,Cz,Cy,Cx,his,e3b,g30,gl3,AG,↓Ac,Ae,↓reduceIte,↓reduceDIte,↓Qe,Qu,Qv,Qw,Qx,Qy,Qz,QA,QB,QC,QD,QE,QF,QG,QH,QI,QK];refine Ab.of (Bq t.kind) (by rfl) ?_;simp(disch:=(try simp only[Ad]);omega)only[Ag,Cw,CA,Cz,Cy,Cx,his,e3b,g30,gl3,AG,↓Ac,Ae,↓reduceIte,↓reduceDIte,↓Qe,Qu,Qv,Qw,Qx,Qy,Qz,QA,QB,QC,QD,QE,QF,QG,QH,QI,QK];refine Aq.go s5 ⟨.inl rfl,.inl rfl,trivial⟩ (by simp) ?_;have ek:(Cs t (.mk nk2 nt2 nks2 nl2)).kind=t.kind:=rfl;cases hcl5:(sgn (AH t.kind) (sgn 44 r).1).2 with
     | true =>
      rw[if_pos hcl5] at hres3 hok3 mu3;obtain ⟨ids6,H6,d6,P6,K6⟩:=HL (G:=G) P5 (by omega);have d6:Ctr TP G 82 [.ptr 0 0] _ (.d (NdD (.mk t.kind t.text t.keys (t.kids++[.mk nk2 nt2 nks2 nl2])))) H6:=d6;have K7:=KK.trans K6;have e6:H6[1]?=some (.box zN):=(by rw[K7.keep 1 (by omega) (by omega) n3];exact b3)
      have n6:=K7.not_mem n3 (by omega);have L6:H6[H'.length]?=some (.box [.d (.int .i64 nk2),.d (S nt2),.d (Ss nks2 false),.d (.sl nl2.length false (A0 nl2))]):=(by rw[K7.keep H'.length (by omega) (by omega) L3.2];exact L3.1)
      have m6:=K7.not_mem L3.2 (by omega);have l6:=K7.len;simp(disch:=(try simp only[Ad]);omega)only[Ag,Cw,CA,Cz,Cy,Cx,his,AG,↓Ac,Ae,↓reduceIte,↓reduceDIte,↓Qe,Qu,Qv,Qw,Qx,Qy,Qz,QA,QB,QC,QD,QE,QF,QG,QH,QI,QK];refine Aq.go d6 ⟨.inl rfl,trivial⟩ K6.len ?_;generalize hkk:t.kids++[Nd.mk nk2 nt2 nks2 nl2]=kk at *;have hak:Cs t (.mk nk2 nt2 nks2 nl2)=.mk t.kind t.text t.keys kk:=(by rw[<-hkk];rfl)
      simp(disch:=(try simp only[Ad]);omega)only[Ag,Cw,CA,Cz,Cy,Cx,his,L6,ndC,AG,↓Ac,Ae,↓reduceIte,↓reduceDIte,↓Qe,Qu,Qv,Qw,Qx,Qy,Qz,QA,QB,QC,QD,QE,QF,QG,QH,QI,QK];rw[hak] at hres3 hok3;first
      | exact ⟨(⟨(sgn (AH t.kind) (sgn 44 r).1).1,s,ob2,ids6,H6.set H'.length (.box [.d (.int .i64 t.kind),.d (S t.text),.d (Ss t.keys false),.d (.sl kk.length false (A0 kk))])⟩,some (.mk t.kind t.text t.keys kk)),⟨P6.other (by omega) m6 (by simp),by show (H6.set _ _)[1]?=_;rw[Ao (by omega)];exact e6,n6,⟨.mk t.kind t.text t.keys kk,Bt (by omega),fun m hm=>by cases hm;rfl⟩,m6,by have:=mu3;simp only[muP] at this;show (sgn (AH t.kind) (sgn 44 r).1).1.length<rest.length;omega,hres3,hok3⟩,by have:=mu3;simp only[muP] at this;show (sgn (AH t.kind) (sgn 44 r).1).1.length<r.length;omega,.inl ⟨rfl,by simp[sA,kZ,CK]⟩⟩
     | false =>
      rw[if_neg (by rw[hcl5];simp),GS] at hres3;subst hres3;simp(disch:=(try simp only[Ad]);omega)only[Ag,Cw,CA,Cz,Cy,Cx,his,b3,AG,↓Ac,Ae,↓reduceIte,↓reduceDIte,↓Qe,Qu,Qv,Qw,Qx,Qy,Qz,QA,QB,QC,QD,QE,QF,QG,QH,QI,QK];first
      | exact F6 (by simp;omega)
      | exact F6 (by simp)
def szW (t:Nd):Prop:=t.text.length<=1000000000/\(∀ s∈t.keys,s.length<=1000000000)/\∀ k∈t.kids,szN k
def UR:∀ {l:List Nd},(∀ n∈l,szN n)->Xl l
 | [],_=>trivial
 | n::r,h=>⟨h n (by simp),UR fun x hx=>h x (AbH _ hx)⟩
def Pk {t:Nd} (h:szW t) (h1:t.keys.length<=100000) (h2:t.kids.length<=100000):szN t:=by cases t;exact ⟨h.1,h1,h.2.1,h2,UR h.2.2⟩
def szP:PSt->Prop
 | .beg _ st=>∀ t∈st,szW t
 | .got _ st n=>szN n/\∀ t∈st,szW t
 | .bad=>True
def UO (k:Int):szW (.mk k [] [] []):=⟨by simp[Nd.text],(fun s hs=>by cases hs),(fun s hs=>by cases hs)⟩
def UQ {rest:List UInt8} {t:Nd} {st:List Nd} (hl:rest.length<=100000) (h:szW t) (h2:∀ s∈st,szW s):szP (Eo rest t st):=by
 unfold Eo;split
 ·intro s hs;rcases AbU.1 hs with rfl | hs
  ·exact h
  exact h2 s hs
 split
 ·intro s hs;rcases AbU.1 hs with rfl | hs
  ·refine ⟨h.1,fun x hx=>?_,h.2.2⟩;rcases AbP.1 (show x∈t.keys++[(quo rest).2.1] from hx) with hx | hx
   ·exact h.2.1 x hx
   rw[AbQ.1 hx];have:=U3 rest;omega
  exact h2 s hs
 trivial
def UP {k:Int} {rest:List UInt8} {st:List Nd} (hl:rest.length<=100000) (h2:∀ s∈st,szW s):szP (FH k rest st):=by
 have:=A7 (AH k) rest;unfold FH;split;·exact ⟨Pk (UO k) (by simp[Nd.keys]) (by simp[Nd.kids]),h2⟩
 exact UQ (by omega) (UO k) h2
def ZG (s:List UInt8) (hl:s.length<=100000):szN (DD s).2.1:=by
 have hw:=EH s;have leaf:∀ (k:Int) (t:List UInt8),t.length<=1000000000->szN (.mk k t [] []):=fun k t ht=>Pk (t:=.mk k t [] []) ⟨ht,(fun s hs=>by cases hs),(fun s hs=>by cases hs)⟩ (by simp[Nd.keys]) (by simp[Nd.kids]);unfold DD;split;·exact leaf _ _ (by have:=U3 (AN s);omega)
 split;·exact leaf _ _ (by simp)
 split;·exact leaf _ _ (by decide)
 split;·exact leaf _ _ (by decide)
 exact leaf _ _ (by rw[List.length_take];omega)
def Zx {rest:List UInt8} {st:List Nd} (hl:rest.length<=100000) (h:szP (.beg rest st)):szP (CF rest st):=by
 have l1:=A7 91 rest;have l2:=A7 123 (sgn 91 rest).1;unfold CF;split;·exact UP (by omega) h
 split;·exact UP (by omega) h
 split;·exact ⟨ZG _ (by omega),h⟩
 trivial
def Zw {N:Nat} (hN:N<=100000) {rest:List UInt8} {t:Nd} {st:List Nd} {n:Nd} (ho:okP N (.got rest (t::st) n)) (h:szP (.got rest (t::st) n)):szP (Ic rest t st n):=by
 obtain ⟨h1,h2⟩:=h;have h3:=h2 t (by simp);have o3:=ho.2 t (by simp);have ol:=ho.1;have l1:=A7 44 rest;have hw:szW (Cs t n):=⟨h3.1,h3.2.1,fun k hk=>by
  rcases AbP.1 (show k∈t.kids++[n] from hk) with hk | hk
  ·exact h3.2.2 k hk
  rw[AbQ.1 hk];exact h1⟩
 unfold Ic;split;·exact UQ (by omega) hw fun s hs=>h2 s (AbH _ hs)
 split;·exact ⟨Pk hw (by show t.keys.length<=_;omega) (by show (t.kids++[n]).length<=_;rw[AbS];simp only[AbY,Ac7];omega),fun s hs=>h2 s (AbH _ hs)⟩
 trivial
def TG {N:Nat} (hN:N<=100000):∀ (k:Nat) (x:PSt) (r:List UInt8) (n:Nd),okP N x->szP x->VU k x=some (r,n)->szN n/\r.length<=N
 | 0,x,r,n,_,_,h=>by cases x<;>cases h
 | k+1,x,r,n,ho,hs,h=>by
   cases x with
   | bad=>cases h
   | beg rest st=>exact TG hN k _ r n (Vc ho) (Zx (by have:=ho.1;omega) hs) h
   | got rest st m =>
    cases st with
    | nil =>have e:some (rest,m)=some (r,n):=h;cases e;exact ⟨hs.1,by have:=ho.1;omega⟩
    | cons t st=>exact TG hN k _ r n (PH ho) (Zw hN ho hs) h
def Aa7 {data r:List UInt8} {n:Nd} (hd:data.length<=100000) (h:Dc (.beg data [])=some (r,n)):szN n/\r.length<=data.length :=
 TG hd _ (.beg data []) r n ⟨by simp,fun t ht=>by cases ht⟩ (fun t ht=>by cases ht) h
def YI (p:UInt8->Bool) (b:UInt8):∀ l:List UInt8,b∈l->p b=false->b∈l.dropWhile p
 | [],h,_=>by cases h
 | x::l,h,hc=>by
   rw[AdW];split
   ·rename_i hx;rcases AbU.1 h with rfl | h2
    ·rw[hc] at hx;cases hx
    exact YI p b l h2 hc
   exact h
def RC (s:List UInt8):(Num.trimL FB (Num.trimR FB s)=[])↔AN s=[]:=by
 have key:∀ l:List UInt8,l.dropWhile FB.contains=[]↔∀ b∈l,FB.contains b=true:=by
  intro l;induction l with
  | nil=>simp
  | cons b l ih =>
   rw[AdW];split;·rename_i h;rw[ih];simp only[AbU,forall_eq_or_imp,h,true_and]
   rename_i h;simp only[reduceCtorEq,AbU,forall_eq_or_imp,false_iff,not_and];exact fun q=>absurd q h
 unfold AN Num.trimL Num.trimR;rw[key,key];constructor
 ·intro h b hb;cases hc:FB.contains b with
  | true=>rfl
  | false =>
   have:b∈(s.reverse.dropWhile FB.contains).reverse:=by rw[AdX];exact YI _ _ _ (by simpa using hb) hc
   rw[h b this] at hc;cases hc
 intro h b hb;rw[AdX] at hb;have:=(List.dropWhile_sublist _).subset hb;exact h b (by simpa using this)
def PF (x:Nd × Int):D:=.tup [NdD x.1,.int .i64 x.2]
def GV (hT:HT G) (hG:Num.HG G) (data:List UInt8) (hd:data.length<=100000):Ctr TP G 23 [.d (S data)] [] (.d (PF (Gc data))) []:=by
 obtain ⟨r,hr⟩:∃ r,r=Gc data:=⟨_,rfl⟩;rw[<-hr];unfold Gc at hr;have hn:=XW (G:=G) data (by omega);have hsz:=fun r n=>Aa7 (r:=r) (n:=n) hd;have hv:=Ea (G:=G) hT data (by omega);refine Ctr.pure (M:=M0) Al Tryz.func23 rfl go23 ?_;simp(disch:=(try simp only[Ad]);omega)only[Ag,Tryz.f23,↓Ac,Ae,↓reduceIte,↓reduceDIte,↓Qe,Qu,Qv,Qw,Qx,Qy,Qz,QA,QB,QC,QD,QE,QF,QG,QH,QI,QK];refine Ab.by hn (by rfl) (by rfl) (by simp) ?_;cases hx:Dc (.beg data []) with
 | none =>rw[hx] at hr;simp only at hr;subst hr;simp(disch:=(try simp only[Ad]);omega)only[Ag,My,R9,ndC,noN,↓Ac,Ae,↓reduceIte,↓reduceDIte,↓Qe,Qu,Qv,Qw,Qx,Qy,Qz,QA,QB,QC,QD,QE,QF,QG,QH,QI,QK];first | done | rfl
 | some x =>
  obtain ⟨q,m⟩:=x;obtain ⟨sz1,sz2⟩:=hsz q m hx;rw[hx] at hr;simp only at hr;have hm:=Ex (G:=G) hT hG m sz1;have htr:Ctr TP G 48 [.d (S q),.d (S FB)] [] (.d (S (Num.trimL FB (Num.trimR FB q)))) []:=Num.trim_spec q FB (by omega) (by decide) (by decide) (by decide);have hbl:=RC q;generalize Num.trimL FB (Num.trimR FB q)=tq at *;generalize Bg m 0=okm at *;obtain ⟨mk,mt,mks,ml⟩:=m;simp(disch:=(try simp only[Ad]);omega)only[Ag,My,R9,ndC,↓Ac,Ae,↓reduceIte,↓reduceDIte,↓Qe,Qu,Qv,Qw,Qx,Qy,Qz,QA,QB,QC,QD,QE,QF,QG,QH,QI,QK];refine Ab.of hv (by rfl) ?_;cases hvd:Lib.validD data
  ·rw[if_neg (by rw[hvd];simp)] at hr;subst hr;simp(disch:=(try simp only[Ad]);omega)only[Ag,↓Ac,Ae,↓reduceIte,↓reduceDIte,↓Qe,Qu,Qv,Qw,Qx,Qy,Qz,QA,QB,QC,QD,QE,QF,QG,QH,QI,QK];first | done | rfl
  simp(disch:=(try simp only[Ad]);omega)only[Ag,↓Ac,Ae,↓reduceIte,↓reduceDIte,↓Qe,Qu,Qv,Qw,Qx,Qy,Qz,QA,QB,QC,QD,QE,QF,QG,QH,QI,QK];refine Ab.of htr (by rfl) ?_;by_cases hq0:tq=[]
  ·rw[if_pos ⟨hvd,hbl.1 hq0⟩] at hr;simp(disch:=(try simp only[Ad]);omega)only[Ag,hq0,↓Ac,Ae,↓reduceIte,↓reduceDIte,↓Qe,Qu,Qv,Qw,Qx,Qy,Qz,QA,QB,QC,QD,QE,QF,QG,QH,QI,QK];refine Ab.of hm (by rfl) ?_;cases okm;·rw[if_neg (by simp)] at hr;subst hr;simp(disch:=(try simp only[Ad]);omega)only[Ag,↓Ac,Ae,↓reduceIte,↓reduceDIte,↓Qe,Qu,Qv,Qw,Qx,Qy,Qz,QA,QB,QC,QD,QE,QF,QG,QH,QI,QK];first | done | rfl
   rw[if_pos rfl] at hr;subst hr;simp(disch:=(try simp only[Ad]);omega)only[Ag,ndC,↓Ac,Ae,↓reduceIte,↓reduceDIte,↓Qe,Qu,Qv,Qw,Qx,Qy,Qz,QA,QB,QC,QD,QE,QF,QG,QH,QI,QK];first | done | rfl
  rw[if_neg (fun c=>hq0 (hbl.2 c.2))] at hr;subst hr;have hq1:(tq=[])=False:=eq_false hq0;simp(disch:=(try simp only[Ad]);omega)only[Ag,hq1,↓Ac,Ae,↓reduceIte,↓reduceDIte,↓Qe,Qu,Qv,Qw,Qx,Qy,Qz,QA,QB,QC,QD,QE,QF,QG,QH,QI,QK];first | done | rfl
def exB:List UInt8:=[91,123,34,97,34,58,49,44,34,98,34,58,91,50,44,51,93,125,44,123,34,97,34,58,52,125,93]
def exN:Nd:=.mk 5 [] [] [.mk 6 [] [[97],[98]] [.mk 3 [49] [] [],.mk 5 [] [] [.mk 3 [50] [] [],.mk 3 [51] [] []]],.mk 6 [] [[97]] [.mk 3 [52] [] []]]
def Abp:Dc (.beg exB [])=some ([],exN):=by rfl
def AaU:Bg exN 0=true:=by decide
def YA:Lib.validD exB=true:=by decide
def Abq:Lib.decDigits 0=[48]:=Lib.decDigits_one (by omega)
def YB:Gc exB=(exN,0):=by unfold Gc;rw[Abp];simp only;rw[if_pos ⟨YA,rfl⟩,if_pos AaU]
def Uf:Tab:=⟨5,[],[⟨[97],[([49],false),([52],false)]⟩]⟩
def Wo:Tab:=⟨6,[46,98],[⟨Pz,[([48],false),([48],false)]⟩,⟨Ii,[([50],false),([51],false)]⟩]⟩
def exE:List Elm:=[(0,.mk 3 [50] [] []),(0,.mk 3 [51] [] [])]
def Aab:Fz (AL false (Eh exN)) (5+(0:Nat)) []=(Uf,true):=by rfl
def Aaa:Fz (AL true exE) (5+(1:Nat)) [46,98]=(Wo,true):=by
 have hr:CO (AL true exE).above=⟨Pz,[([48],false),([48],false)]⟩:=by
  show CO [0,0]=_
  simp[CO,Abq]
 have ht:Fy (AL true exE) (5+(1:Nat)) [46,98]=Wo:=by unfold Fy EB;rw[if_pos (show (AL true exE).further=true from rfl),hr];rfl
 unfold Fz;rw[if_neg (by decide),ht];rfl
def Aac:Sr 17 [] 5 exN=([Uf,Wo],0):=by
 unfold Sr;rw[if_pos ⟨AaU,by decide,by decide⟩];have h2:FSa 16 (AL true exE) 5 [46,98] [Uf]=([Uf,Wo],true):=by unfold FSa;rw[show ((5:Int)+([Uf]:List Tab).length)=5+(1:Nat) from rfl,Aaa,if_pos ⟨rfl,by decide⟩];rw[show (AL true exE).lists=[] from rfl];rfl
 have h:FSa 17 (AL false (Eh exN)) 5 [] []=([Uf,Wo],true):=by unfold FSa;rw[show ((5:Int)+([]:List Tab).length)=5+(0:Nat) from rfl,Aab,if_pos ⟨rfl,by decide⟩];rw[show (AL false (Eh exN)).lists=[[98]] from rfl];rw[List.foldl_cons,List.foldl_nil,if_pos rfl];rw[show (AL false (Eh exN)).it [98]=exE from rfl];exact h2
 rw[h,if_pos rfl]
def YC:AaT ([Uf,Wo],0)=.tup [.sl 2 false [.int .i64 5,S [],.sl 1 false [S [97],.sl 2 false [.bool false,S [49],.bool false,S [52]]],
  .int .i64 6,S [46,98],.sl 2 false [S Pz,.sl 2 false [.bool false,S [48],.bool false,S [48]],S Ii,.sl 2 false [.bool false,S [50],.bool false,S [51]]]],.int .i64 0]:=rfl
def Ac9:szN exN:=by simp[exN,szN,Xl]
def TD (hT:HT G) (hP:HP G) (hG:Num.HG G):Ctr TP G 7 [] [] (.d (.bool true)) []:=by have hp:=GV (G:=G) hT hG exB (by decide);rw[YB] at hp;have hf:=ND (G:=G) hT hP hG 17 [] 5 exN Ac9 (by simp) (by decide) (by decide) (fun h=>Z9 (by decide) (by decide) h);rw[Aac,YC] at hf;generalize exN=n at *;obtain ⟨k,t,ks,l⟩:=n;refine Ctr.pure (M:=M0) Al Tryz.func7 rfl go7 ?_;simp(disch:=(try simp only[Ad]);omega)only[Ag,Tryz.f7,↓Ac,Ae,↓reduceIte,↓reduceDIte,↓Qe,Qu,Qv,Qw,Qx,Qy,Qz,QA,QB,QC,QD,QE,QF,QG,QH,QI,QK];refine Ab.of hp (by rfl) ?_;simp(disch:=(try simp only[Ad]);omega)only[Ag,PF,ndC,↓Ac,Ae,↓reduceIte,↓reduceDIte,↓Qe,Qu,Qv,Qw,Qx,Qy,Qz,QA,QB,QC,QD,QE,QF,QG,QH,QI,QK];refine Ab.of hf (by rfl) ?_;simp(disch:=(try simp only[Ad]);omega)only[Ag,↓Ac,Ae,↓reduceIte,↓reduceDIte,↓Qe,Qu,Qv,Qw,Qx,Qy,Qz,QA,QB,QC,QD,QE,QF,QG,QH,QI,QK];first | done | rfl
def Vz (G:Ah) (t:List Int) (d:Nat):Prop:=∀ k:Nat,Ctr TP G 11 [.ptr 0 0,.d (.int .i64 d)] [DiceM t k] (.d (NdD (Dv t d k).1)) [DiceM t (Dv t d k).2]
def N2:[D.str (bs [97]),D.str (bs [98]),D.str (bs [97,46,98]),D.str (bs [99]),D.str (bs []),D.str (bs [114,111,119])]=strs Fb:=rfl
def Wj {t:List Int} {f:Nat->Nd × Nat} {m:Nat} {ks:List (List UInt8)} {l:List Nd} {k:Nat} (h:Jo t k∈ks):C2 t f (m+1) ks l k=C2 t f m ks l (k+1):=by rw[C2,if_pos h]
def Yr {t:List Int} {f:Nat->Nd × Nat} {m:Nat} {ks:List (List UInt8)} {l:List Nd} {k:Nat} (h:¬Jo t k∈ks):C2 t f (m+1) ks l k=C2 t f m (ks++[Jo t k]) (l++[(f (k+1)).1]) (f (k+1)).2:=by rw[C2,if_neg h]
abbrev zN7:List AV:=[.d (.int .i64 0),.d (.str ByteArray.empty),.d (.sl 0 true []),.d (.sl 0 true [])]
structure FldS where
 m:Nat
 ks:List (List UInt8)
 l:List Nd
 k:Nat
def PC (t:List Int) (ht:OkM t) (d:Nat) (hd:d<=1000) (hn:Vz G t d) (k:Nat) :
  Ctr TP G 16 [.ptr 0 0,.d (.int .i64 (d+1:Nat))] [DiceM t k] (.d (NdD (Jg t (Dv t d) k).1)) [DiceM t (Jg t (Dv t d) k).2]:=by
 obtain ⟨m0,hm0,hm1⟩:=pk_nat t k 4 (by decide);obtain ⟨r,hr⟩:∃ r,r=Jg t (Dv t d) k:=⟨_,rfl⟩;rw[<-hr];unfold Jg at hr;rw[hm0,AdL] at hr;refine Ctr.body (M:=M0) Al Tryz.func16 rfl go16 ?_;simp(disch:=(try simp only[Ad]);omega)only[Ag,Tryz.f16,↓Ac,Ae,↓reduceIte,↓reduceDIte,↓Qe,Qu,Qv,Qw,Qx,Qy,Qz,QA,QB,QC,QD,QE,QF,QG,QH,QI,QK];refine Ab.by (pick_spec t k 4 ht (by decide) (by decide)) (by rfl) (by rfl) (AbZ _) ?_;rw[hm0];simp(disch:=(try simp only[Ad]);omega)only[Ag,↓Ac,Ae,↓reduceIte,↓reduceDIte,↓Qe,Qu,Qv,Qw,Qx,Qy,Qz,QA,QB,QC,QD,QE,QF,QG,QH,QI,QK];refine As.fr 51 (α:=FldS) (fun x=>x.m) (fun x=>[(6,.d (.int .i64 (x.m:Nat)))]) (fun x=>[DiceM t x.k,.box zN7,.box [.d (.int .i64 6),.d (.str ByteArray.empty),.lsl 3 1 0 x.ks.length,.lsl 4 4 0 x.l.length],.row false (strs x.ks),.row false (A0 x.l)])
  (fun x=>C2 t (Dv t d) x.m x.ks x.l x.k=C2 t (Dv t d) m0 [] [] (k+1)/\x.ks.length=x.l.length/\x.l.length+x.m<=3) ⟨m0,[],[],k+1⟩ ⟨rfl,rfl,by simp;omega⟩ ?_ ?_
 ·first
  | exact ⟨[some 0,some 1,some 2,none,none],rfl,by simp,by simp[sA,kZ,SW,AW],by simp[HW,BW,SW,AW,strs,A0]⟩
 rintro ⟨m,ks,l,k2⟩ ⟨b1,b2,b3⟩;simp only at b1 b2 b3;simp only[Cr,AdO,AdP,reduceIte];have sl:=@strs_length ks;have nl:=Bc l;cases m with
 | zero =>rw[C2] at b1;rw[<-b1] at hr;subst hr;simp(disch:=(try simp only[Ad]);omega)only[Ag,sl,nl,↓Ac,Ae,↓reduceIte,↓reduceDIte,↓Qe,Qu,Qv,Qw,Qx,Qy,Qz,QA,QB,QC,QD,QE,QF,QG,QH,QI,QK];have q1:cut (strs ks) 0 (ks.length*1)=strs ks:=Jy (by rw[sl,Ad0]);have q2:cut (A0 l) 0 (l.length*4)=A0 l:=Jy (by omega);refine ⟨[some 0],rfl,by simp,by simp[HW,BW,SW,AW],.inr ⟨.agg [.int .i64 6,.str ByteArray.empty,.sl ks.length false (cut (strs ks) 0 (ks.length*1)),.sl l.length false (cut (A0 l) 0 (l.length*4))],rfl,?_,rfl⟩⟩;rw[q1,q2];rfl
 | succ m =>
  obtain ⟨c,hc,hc2⟩:=pk_nat t k2 6 (by decide);have hky:Jo t k2=Fb.getD c []:=by unfold Jo;rw[hc,AdL]
  have lk:=@strs_length Fb;have lk':Fb.length=6:=rfl;have gs:=strs_getD (l:=Fb) (i:=c) (by omega);simp(disch:=(try simp only[Ad]);omega)only[Ag,sl,nl,N2,strs_unf,lk,lk',↓Ac,Ae,↓reduceIte,↓reduceDIte,↓Qe,Qu,Qv,Qw,Qx,Qy,Qz,QA,QB,QC,QD,QE,QF,QG,QH,QI,QK];refine Ab.by (pick_spec t k2 6 ht (by decide) (by decide)) (by rfl) (by rfl) (AbZ _) ?_;rw[hc];rw[<-hky] at gs;simp(disch:=(try simp only[Ad]);omega)only[Ag,sl,nl,N2,strs_unf,lk,lk',gs,↓Ac,Ae,↓reduceIte,↓reduceDIte,↓Qe,Qu,Qv,Qw,Qx,Qy,Qz,QA,QB,QC,QD,QE,QF,QG,QH,QI,QK];have cu:cut (strs ks) 0 ks.length=Dst.strs ks:=by unfold cut strs Dst.strs;rw[List.drop_zero,List.take_of_length_le (by simp)]
  refine Ab.frozenE (Dst.has_spec ks false (Jo t k2) (by omega)) (by rw[cu]) ?_;by_cases hm:Jo t k2∈ks
  ·rw[Wj hm] at b1;rw[decide_eq_true hm];simp(disch:=(try simp only[Ad]);omega)only[Ag,sl,nl,↓Ac,Ae,↓reduceIte,↓reduceDIte,↓Qe,Qu,Qv,Qw,Qx,Qy,Qz,QA,QB,QC,QD,QE,QF,QG,QH,QI,QK];first
   | exact ⟨⟨m,ks,l,k2+1⟩,⟨b1,b2,by simp only;omega⟩,by simp only;omega,⟨[some 0,some 1,some 2,some 3,some 4],rfl,by simp,by simp[sA,kZ,SW,AW],by simp[HW,BW,SW,AW]⟩⟩
  rw[Yr hm] at b1;rw[decide_eq_false hm];have hnd:=hn (k2+1);generalize Dv t d (k2+1)=nn at *;obtain ⟨⟨na,nb,nc,ne⟩,k3⟩:=nn;simp only at hnd b1;simp(disch:=(try simp only[Ad]);omega)only[Ag,sl,nl,↓Ac,Ae,↓reduceIte,↓reduceDIte,↓Qe,Qu,Qv,Qw,Qx,Qy,Qz,QA,QB,QC,QD,QE,QF,QG,QH,QI,QK];refine Ab.by hnd (by rfl) (by rfl) (AbZ _) ?_;simp(disch:=(try simp only[Ad]);omega)only[Ag,sl,nl,ndC,↓Ac,Ae,↓reduceIte,↓reduceDIte,↓Qe,Qu,Qv,Qw,Qx,Qy,Qz,QA,QB,QC,QD,QE,QF,QG,QH,QI,QK];have hs1:strs (ks++[Jo t k2])=strs ks++[.str (bs (Jo t k2))]:=by simp[strs]
  have hs2:A0 (l++[.mk na nb nc ne])=A0 l++[.int .i64 na,.str (bs nb),.sl nc.length false (strs nc),.sl ne.length false (A0 ne)]:=by rw[G5];rfl
  first
  | exact ⟨by rfl,by rfl,⟨m,ks++[Jo t k2],l++[.mk na nb nc ne],k3⟩,⟨b1,by simp[b2],by simp;omega⟩,by simp only;omega,⟨[some 0,some 1,some 2,some 7,some 9],rfl,by simp,by simp[sA,kZ,SW,AW],by simp[HW,BW,SW,AW,hs1,hs2,cut]⟩⟩
def T1 (f:Nat->Nd × Nat) (m:Nat) (l:List Nd) (k:Nat):Gv f (m+1) l k=Gv f m (l++[(f k).1]) (f k).2:=rfl
def Aa5:[D.str (bs Fx),D.str (bs FP)]=strs [Fx,FP]:=rfl
structure KidS where
 m:Nat
 l:List Nd
 k:Nat
def Mw (t:List Int) (ht:OkM t) (d:Nat) (hd:d<=1000) (hn:d=0\/Vz G t d):Vz G t (d+1):=by
 intro k;obtain ⟨c,hc,hc2⟩:=pk_nat t k 8 (by decide);obtain ⟨r,hr⟩:∃ r,r=Dv t (d+1) k:=⟨_,rfl⟩;rw[<-hr];unfold Dv at hr;rw[hc] at hr;refine Ctr.body (M:=M0) Al Tryz.func11 rfl go11 ?_;simp(disch:=(try simp only[Ad]);omega)only[Ag,Tryz.f11,↓Ac,Ae,↓reduceIte,↓reduceDIte,↓Qe,Qu,Qv,Qw,Qx,Qy,Qz,QA,QB,QC,QD,QE,QF,QG,QH,QI,QK];refine Ab.by (pick_spec t k 8 ht (by decide) (by decide)) (by rfl) (by rfl) (AbZ _) ?_;rw[hc];by_cases c0:c=0
 ·subst c0;rw[if_pos (by omega)] at hr;subst hr;simp(disch:=(try simp only[Ad]);omega)only[Ag,↓Ac,Ae,↓reduceIte,↓reduceDIte,↓Qe,Qu,Qv,Qw,Qx,Qy,Qz,QA,QB,QC,QD,QE,QF,QG,QH,QI,QK];first
  | (refine ⟨[some 0],rfl,by simp,by simp[HW,BW,SW,AW],.inr ⟨_,rfl,?_,rfl⟩⟩;rfl)
 rw[if_neg (by omega)] at hr;have i0:¬((c:Int)=0):=by omega
 by_cases c1:c=1
 ·subst c1;rw[if_pos (by omega)] at hr;obtain ⟨a,ha,ha2⟩:=pk_nat t (k+1) 2 (by decide);simp(disch:=(try simp only[Ad]);omega)only[Ag,Aa5,strs_unf,↓Ac,Ae,↓reduceIte,↓reduceDIte,↓Qe,Qu,Qv,Qw,Qx,Qy,Qz,QA,QB,QC,QD,QE,QF,QG,QH,QI,QK];refine Ab.by (pick_spec t (k+1) 2 ht (by decide) (by decide)) (by rfl) (by rfl) (AbZ _) ?_;rw[ha];rw[ha] at hr;rcases (by omega:a=0\/a=1) with rfl | rfl
  ·rw[if_pos (by omega)] at hr;subst hr;simp(disch:=(try simp only[Ad]);omega)only[Ag,↓Ac,Ae,↓reduceIte,↓reduceDIte,↓Qe,Qu,Qv,Qw,Qx,Qy,Qz,QA,QB,QC,QD,QE,QF,QG,QH,QI,QK];first
   | (refine ⟨[some 0],rfl,by simp,by simp[HW,BW,SW,AW],.inr ⟨_,rfl,?_,rfl⟩⟩;rfl)
  rw[if_neg (by omega)] at hr;subst hr;simp(disch:=(try simp only[Ad]);omega)only[Ag,↓Ac,Ae,↓reduceIte,↓reduceDIte,↓Qe,Qu,Qv,Qw,Qx,Qy,Qz,QA,QB,QC,QD,QE,QF,QG,QH,QI,QK];first
  | (refine ⟨[some 0],rfl,by simp,by simp[HW,BW,SW,AW],.inr ⟨_,rfl,?_,rfl⟩⟩;rfl)
 rw[if_neg (by omega)] at hr;have i1:¬((c:Int)=1):=by omega
 by_cases c2:c=2
 ·subst c2;rw[if_pos (by omega)] at hr;simp(disch:=(try simp only[Ad]);omega)only[Ag,↓Ac,Ae,↓reduceIte,↓reduceDIte,↓Qe,Qu,Qv,Qw,Qx,Qy,Qz,QA,QB,QC,QD,QE,QF,QG,QH,QI,QK];refine Ab.by (GY t (k+1) ht) (by rfl) (by rfl) (AbZ _) ?_;subst hr;generalize Iw t (k+1)=q;simp(disch:=(try simp only[Ad]);omega)only[Ag,↓Ac,Ae,↓reduceIte,↓reduceDIte,↓Qe,Qu,Qv,Qw,Qx,Qy,Qz,QA,QB,QC,QD,QE,QF,QG,QH,QI,QK];first
  | (refine ⟨[some 0],rfl,by simp,by simp[HW,BW,SW,AW],.inr ⟨_,rfl,?_,rfl⟩⟩;rfl)
 rw[if_neg (by omega)] at hr;have i2:¬((c:Int)=2):=by omega
 by_cases c5:c<5\/d=0
 ·rw[if_pos (by omega)] at hr;obtain ⟨a,ha,ha2⟩:=pk_nat t (k+1) 8 (by decide);rw[ha,AdL] at hr;rcases (by omega:c<5\/(¬c<5/\d=0)) with c5' | ⟨c5',d0⟩
  ·have i5:(c:Int)<5:=(by omega);simp(disch:=(try simp only[Ad]);omega)only[Ag,i0,i1,i2,i5,↓Ac,Ae,↓reduceIte,↓reduceDIte,↓Qe,Qu,Qv,Qw,Qx,Qy,Qz,QA,QB,QC,QD,QE,QF,QG,QH,QI,QK];refine Ab.by (pick_spec t (k+1) 8 ht (by decide) (by decide)) (by rfl) (by rfl) (AbZ _) ?_;rw[ha];simp(disch:=(try simp only[Ad]);omega)only[Ag,↓Ac,Ae,↓reduceIte,↓reduceDIte,↓Qe,Qu,Qv,Qw,Qx,Qy,Qz,QA,QB,QC,QD,QE,QF,QG,QH,QI,QK];refine Ab.by (KO t (k+1+1) a ht (by omega)) (by rfl) (by rfl) (AbZ _) ?_;subst hr;generalize ET t (k+1+1) a=q;simp(disch:=(try simp only[Ad]);omega)only[Ag,↓Ac,Ae,↓reduceIte,↓reduceDIte,↓Qe,Qu,Qv,Qw,Qx,Qy,Qz,QA,QB,QC,QD,QE,QF,QG,QH,QI,QK];first
   | (refine ⟨[some 0],rfl,by simp,by simp[HW,BW,SW,AW],.inr ⟨_,rfl,?_,rfl⟩⟩;rfl)
  subst d0;have i5:¬((c:Int)<5):=by omega
  simp(disch:=(try simp only[Ad]);omega)only[Ag,i0,i1,i2,i5,↓Ac,Ae,↓reduceIte,↓reduceDIte,↓Qe,Qu,Qv,Qw,Qx,Qy,Qz,QA,QB,QC,QD,QE,QF,QG,QH,QI,QK];refine Ab.by (pick_spec t (k+1) 8 ht (by decide) (by decide)) (by rfl) (by rfl) (AbZ _) ?_;rw[ha];simp(disch:=(try simp only[Ad]);omega)only[Ag,↓Ac,Ae,↓reduceIte,↓reduceDIte,↓Qe,Qu,Qv,Qw,Qx,Qy,Qz,QA,QB,QC,QD,QE,QF,QG,QH,QI,QK];refine Ab.by (KO t (k+1+1) a ht (by omega)) (by rfl) (by rfl) (AbZ _) ?_;subst hr;generalize ET t (k+1+1) a=q;simp(disch:=(try simp only[Ad]);omega)only[Ag,↓Ac,Ae,↓reduceIte,↓reduceDIte,↓Qe,Qu,Qv,Qw,Qx,Qy,Qz,QA,QB,QC,QD,QE,QF,QG,QH,QI,QK];first
  | (refine ⟨[some 0],rfl,by simp,by simp[HW,BW,SW,AW],.inr ⟨_,rfl,?_,rfl⟩⟩;rfl)
 rw[if_neg (by omega)] at hr;have hn:=hn.resolve_left (by omega);have i5:¬((c:Int)<5):=by omega
 have id:¬(((d+1:Nat):Int)<2):=by omega
 by_cases c6:c=5
 ·subst c6;rw[if_pos (by omega)] at hr;obtain ⟨m0,hm0,hm1⟩:=pk_nat t (k+1) 4 (by decide);rw[hm0,AdL] at hr;simp(disch:=(try simp only[Ad]);omega)only[Ag,i0,i1,i2,i5,id,↓Ac,Ae,↓reduceIte,↓reduceDIte,↓Qe,Qu,Qv,Qw,Qx,Qy,Qz,QA,QB,QC,QD,QE,QF,QG,QH,QI,QK];refine Ab.by (pick_spec t (k+1) 4 ht (by decide) (by decide)) (by rfl) (by rfl) (AbZ _) ?_;rw[hm0];simp(disch:=(try simp only[Ad]);omega)only[Ag,↓Ac,Ae,↓reduceIte,↓reduceDIte,↓Qe,Qu,Qv,Qw,Qx,Qy,Qz,QA,QB,QC,QD,QE,QF,QG,QH,QI,QK];refine As.fr 83 (α:=KidS) (fun x=>x.m) (fun x=>[(7,.d (.int .i64 (x.m:Nat)))]) (fun x=>[DiceM t x.k,.box zN7,.box [.d (.int .i64 5),.d (.str ByteArray.empty),.d (.sl 0 true []),.lsl 3 4 0 x.l.length],.row false (A0 x.l)])
   (fun x=>Gv (Dv t d) x.m x.l x.k=Gv (Dv t d) m0 [] (k+2)/\x.l.length+x.m<=3) ⟨m0,[],k+2⟩ ⟨rfl,by simp;omega⟩ ?_ ?_
  ·first
   | exact ⟨[some 0,some 1,some 2,none],rfl,by simp,by simp[sA,kZ,SW,AW],by simp[HW,BW,SW,AW,A0]⟩
  rintro ⟨m,l,k2⟩ ⟨b1,b3⟩;simp only at b1 b3;simp only[Cr,AdO,AdP,reduceIte];have nl:=Bc l;cases m with
  | zero =>rw[Gv] at b1;rw[<-b1] at hr;subst hr;simp(disch:=(try simp only[Ad]);omega)only[Ag,nl,↓Ac,Ae,↓reduceIte,↓reduceDIte,↓Qe,Qu,Qv,Qw,Qx,Qy,Qz,QA,QB,QC,QD,QE,QF,QG,QH,QI,QK];have q2:cut (A0 l) 0 (l.length*4)=A0 l:=Jy (by omega);refine ⟨[some 0],rfl,by simp,by simp[HW,BW,SW,AW],.inr ⟨.agg [.int .i64 5,.str ByteArray.empty,.sl 0 true [],.sl l.length false (cut (A0 l) 0 (l.length*4))],rfl,?_,rfl⟩⟩;rw[q2];rfl
  | succ m =>
   rw[T1] at b1;have hnd:=hn k2;generalize Dv t d k2=nn at *;obtain ⟨⟨na,nb,nc,ne⟩,k3⟩:=nn;simp only at hnd b1;simp(disch:=(try simp only[Ad]);omega)only[Ag,nl,↓Ac,Ae,↓reduceIte,↓reduceDIte,↓Qe,Qu,Qv,Qw,Qx,Qy,Qz,QA,QB,QC,QD,QE,QF,QG,QH,QI,QK];refine Ab.by hnd (by rfl) (by rfl) (AbZ _) ?_;simp(disch:=(try simp only[Ad]);omega)only[Ag,nl,ndC,↓Ac,Ae,↓reduceIte,↓reduceDIte,↓Qe,Qu,Qv,Qw,Qx,Qy,Qz,QA,QB,QC,QD,QE,QF,QG,QH,QI,QK];have hs2:A0 (l++[.mk na nb nc ne])=A0 l++[.int .i64 na,.str (bs nb),.sl nc.length false (strs nc),.sl ne.length false (A0 ne)]:=(by rw[G5];rfl)
   first
   | exact ⟨by rfl,by rfl,⟨m,l++[.mk na nb nc ne],k3⟩,⟨b1,by simp;omega⟩,by simp only;omega,⟨[some 0,some 1,some 2,some 5],rfl,by simp,by simp[sA,kZ,SW,AW],by simp[HW,BW,SW,AW,hs2,cut]⟩⟩
 rw[if_neg (by omega)] at hr;have i6:¬((c:Int)=5):=by omega
 have hrec:=PC (G:=G) t ht d hd hn (k+1);rw[<-hr] at hrec;obtain ⟨⟨na,nb,nc,ne⟩,k3⟩:=r;simp(disch:=(try simp only[Ad]);omega)only[Ag,i0,i1,i2,i5,i6,id,↓Ac,Ae,↓reduceIte,↓reduceDIte,↓Qe,Qu,Qv,Qw,Qx,Qy,Qz,QA,QB,QC,QD,QE,QF,QG,QH,QI,QK];refine Ab.by hrec (by rfl) (by rfl) (AbZ _) ?_;simp(disch:=(try simp only[Ad]);omega)only[Ag,ndC,↓Ac,Ae,↓reduceIte,↓reduceDIte,↓Qe,Qu,Qv,Qw,Qx,Qy,Qz,QA,QB,QC,QD,QE,QF,QG,QH,QI,QK];first
 | (refine ⟨[some 0],rfl,by simp,by simp[HW,BW,SW,AW],.inr ⟨_,rfl,?_,rfl⟩⟩;rfl)
def Mx (t:List Int) (ht:OkM t):∀ d:Nat,d<=1000->Vz G t (d+1)
 | 0,h=>Mw t ht 0 (by omega) (.inl rfl)
 | d+1,h=>Mw t ht (d+1) (by omega) (.inr (Mx t ht d (by omega)))
def Vg {P:Nd->Prop} {f:Nat->Nd × Nat} (hf:∀ k,P (f k).1):∀ (m:Nat) (l:List Nd) (k:Nat),(∀ n∈l,P n)->(∀ n∈(Gv f m l k).1,P n)/\(Gv f m l k).1.length=l.length+m
 | 0,l,k,h=>⟨h,rfl⟩
 | m+1,l,k,h=>by
   obtain ⟨h1,h2⟩:=Vg hf m (l++[(f k).1]) (f k).2 fun n hn=>by
    rcases AbP.1 hn with hn | hn
    ·exact h n hn
    rw[AbQ.1 hn];exact hf k
   refine ⟨h1,?_⟩;rw[Gv,h2,AbS];simp only[AbY,Ac7];omega
def PX {P:Nd->Prop} {t:List Int} {f:Nat->Nd × Nat} (hf:∀ k,P (f k).1):∀ (m:Nat) (ks:List (List UInt8)) (l:List Nd) (k:Nat),(∀ n∈l,P n)->ks.Nodup->(∀ s∈ks,s∈Fb\/s=[])->ks.length=l.length ->
  (∀ n∈(C2 t f m ks l k).1.2,P n)/\(C2 t f m ks l k).1.1.Nodup/\(∀ s∈(C2 t f m ks l k).1.1,s∈Fb\/s=[])/\(C2 t f m ks l k).1.1.length=(C2 t f m ks l k).1.2.length/\(C2 t f m ks l k).1.2.length<=l.length+m
 | 0,ks,l,k,h,h2,h3,h4=>⟨h,h2,h3,h4,AbZ _⟩
 | m+1,ks,l,k,h,h2,h3,h4=>by
   rw[C2];split;·obtain ⟨a1,a2,a3,a4,a5⟩:=PX hf m ks l (k+1) h h2 h3 h4;exact ⟨a1,a2,a3,a4,by omega⟩
   rename_i hk;obtain ⟨a1,a2,a3,a4,a5⟩:=PX (t:=t) hf m (ks++[Jo t k]) (l++[(f (k+1)).1]) (f (k+1)).2 (fun n hn=>by
    rcases AbP.1 hn with hn | hn
    ·exact h n hn
    ·rw[AbQ.1 hn];exact hf _) (AbT.2 ⟨h2,by simp,fun x hx y hy e=>hk (by rw[AbQ.1 hy] at e;rw[<-e];exact hx)⟩) (fun s hs=>by
    rcases AbP.1 hs with hs | hs
    ·exact h3 s hs
    rw[AbQ.1 hs];unfold Jo;rcases Ad6 (pk t k 6).toNat Fb.length with q | q
    ·exact .inl (E1 q)
    right;rw[Adc,AdT q];rfl) (by simp[h4])
   refine ⟨a1,a2,a3,a4,?_⟩;rw[AbS] at a5;simp only[AbY,Ac7] at a5;omega
mutual
def txN:Nd->Prop
 | .mk _ t ks l=>t.length<=40/\(∀ s∈ks,s.length<=40)/\Zr l
def Zr:List Nd->Prop
 | []=>True
 | n::r=>txN n/\Zr r
end
def Pi:∀ {l:List Nd},(∀ n∈l,txN n)->Zr l
 | [],_=>trivial
 | n::r,h=>⟨h n (by simp),Pi fun x hx=>h x (AbH _ hx)⟩
def zM:Nat->Nat
 | 0=>0
 | d+1=>1+3*zM d
structure GN (d:Nat) (n:Nd):Prop where
 ok:∀ a,a+d<=16->Bg n a=true
 sz:nsz n<=zM d
 ka:kA n
 w:wN n<=3^(d-1)
 q:qN n<=nsz n
 tx:txN n
def AbL:∀ s∈Fb,BI s/\s.length<=3:=by intro s hs;simp only[Fb,AbU,AdH,or_false] at hs;rcases hs with rfl | rfl | rfl | rfl | rfl | rfl<;>exact ⟨by unfold BI;decide,by decide⟩
def Yf {s:List UInt8} (h:s∈Fb\/s=[]):BI s/\s.length<=3:=by
 rcases h with h | h
 ·exact AbL s h
 subst h;exact ⟨Dy,by decide⟩
def Tk {w:Nat}:∀ {l:List Nd},(∀ n∈l,wN n<=w)->wNs l<=w*l.length
 | [],_=>AdU _
 | n::r,h=>by have h1:=h n (by simp);have h2:=Tk (l:=r) fun x hx=>h x (AbH _ hx);rw[wNs,AbY,Nat.mul_succ];omega
def TN:∀ {l:List Nd},(∀ n∈l,qN n<=nsz n)->qNs l<=Ce l
 | [],_=>AdU _
 | n::r,h=>by have h1:=h n (by simp);have h2:=TN (l:=r) fun x hx=>h x (AbH _ hx);rw[qNs,Ce];omega
def Ud (t:List Int) (k c:Nat):A2 (ET t k c)=true:=by
 have num:=fun k=>M8 (Of t k);have asc:∀ s:List UInt8,BI s->s.length<=40->(∀ b∈s,Hi b=false)->A2 s=true:=fun s h1 h2 h3=>by unfold A2;rw[decide_eq_true (show s.length<=1024 by omega),BQ s h1,List.any_eq_false.2 fun b hb=>by rw[h3 b hb];simp];rfl
 have fall:∀ (l:List (List UInt8)) (i:Nat),(∀ s∈l,A2 s=true)->A2 (l.getD i [])=true:=fun l i h=>by
  rcases Ad6 i l.length with q | q
  ·exact h _ (E1 q)
  rw[Adc,AdT q];rfl
 have fapp:∀ a b:List UInt8,A2 a=true->A2 b=true->a.length+b.length<=1024->A2 (a++b)=true:=fun a b h1 h2 h3=>by unfold A2 at h1 h2 ⊢;simp only[AdY,decide_eq_true_eq,Bool.not_eq_true'] at h1 h2 ⊢;refine ⟨by rw[AbS];omega,BT h1.2.1 h2.2.1,?_⟩;rw[List.any_append,h1.2.2,h2.2.2];rfl
 have one:A2 [45]=true/\A2 [47]=true/\A2 [46]=true:=by decide
 have fy:∀ s∈DT,A2 s=true:=by decide
 have fm:∀ s∈CZ,A2 s=true:=by decide
 have fd:∀ s∈FQ,A2 s=true:=by decide
 have fu:∀ s∈Fm,A2 s=true:=by decide
 have ly:=fun i=>B6 (l:=DT) (m:=4) (by decide) i;have lm:=fun i=>B6 (l:=CZ) (m:=2) (by decide) i;have ld:=fun i=>B6 (l:=FQ) (m:=2) (by decide) i;unfold ET;repeat' split
 ·exact fall _ _ Ub
 ·exact num k
 ·unfold KQ;simp only;have y:=fall DT (pk t k 6).toNat fy;have m:=fall CZ (pk t (k+1) 5).toNat fm;have d:=fall FQ (pk t (k+2) 5).toNat fd;have y2:=ly (pk t k 6).toNat;have m2:=lm (pk t (k+1) 5).toNat;have d2:=ld (pk t (k+2) 5).toNat;generalize DT.getD (pk t k 6).toNat []=ys at *;generalize CZ.getD (pk t (k+1) 5).toNat []=ms at *;generalize FQ.getD (pk t (k+2) 5).toNat []=ds at *;have join:∀ (a b c:List UInt8) (x:UInt8),A2 a=true->A2 b=true->A2 c=true->A2 [x]=true->a.length<=4->b.length<=4->c.length<=4->A2 (a++[x]++b++[x]++c)=true:=fun a b c x h1 h2 h3 h4 l1 l2 l3 =>
   fapp _ _ (fapp _ _ (fapp _ _ (fapp _ _ h1 h4 (by simp;omega)) h2 (by simp;omega)) h4 (by simp;omega)) h3 (by simp;omega)
  split;·exact join ys ms ds 45 y m d one.1 (by omega) (by omega) (by omega)
  split;·exact join ys ms ds 47 y m d one.2.1 (by omega) (by omega) (by omega)
  exact join ds ms ys 46 d m y one.2.2 (by omega) (by omega) (by omega)
 ·exact fall _ _ Ue
 ·have:=(GZ t k).2;have l2:=B6 (l:=Fm) (m:=4) (by decide) (pk t (NA t k) 7).toNat;exact fapp _ _ (num k) (fall _ _ fu) (by omega)
 ·exact fall _ _ Uc
 exact fall _ _ Wk
def Jn {d:Nat} {k:Int} {t:List UInt8} (h1:1<=k/\k<=4) (h2:Db k t=true) (h3:t.length<=40):GN (d+1) (.mk k t [] []):=by
 refine ⟨fun a ha=>?_,?_,⟨fun s hs=>(by cases hs),trivial⟩,?_,?_,⟨h3,fun s hs=>(by cases hs),trivial⟩⟩;·rw[Bg,h2,decide_eq_true (show 1<=k/\k<=6 by omega),decide_eq_true (show a<16 by omega)];unfold Fa;rw[if_neg (by omega)];simp[Eg]
 ·rw[nsz,zM,Ce];omega
 ·rw[wN,if_neg (by omega)];exact Nat.one_le_pow _ _ (by omega)
 rw[qN,if_neg (by omega),qNs];omega
def Aa8 {d:Nat} {t:List Int} {f:Nat->Nd × Nat} (hf:∀ k,GN (d+1) (f k).1) (k:Nat):GN (d+2) (Jg t f k).1/\(Jg t f k).1.kind=6/\(Jg t f k).1.text=[]:=by
 have hr:=@pk_range t k 4 (by decide);obtain ⟨a1,a2,a3,a4,a5⟩:=PX (P:=GN (d+1)) (t:=t) hf (pk t k 4).toNat [] [] (k+1) (fun n hn=>by cases hn) AdM (fun s hs=>by cases hs) rfl;unfold Jg;generalize C2 t f (pk t k 4).toNat [] [] (k+1)=r at *;obtain ⟨⟨ks,l⟩,k2⟩:=r;simp only at a1 a2 a3 a4 a5 ⊢;simp only[Ac7] at a5;have h3:l.length<=3:=by omega
 refine ⟨⟨fun a ha=>?_,?_,⟨fun s hs=>Yf (a3 s hs),T5 fun n hn=>(a1 n hn).ka⟩,?_,?_,⟨by simp,fun s hs=>by have:=(Yf (a3 s hs)).2;omega,Pi fun n hn=>(a1 n hn).tx⟩⟩,rfl,rfl⟩
 ·rw[Bg,J5 fun n hn=>(a1 n hn).ok (a+1) (by omega)];have e1:Fa 6 ks l.length=true:=by
   rw[Fa,if_pos rfl,a4,decide_eq_true rfl,decide_eq_true a2,List.all_eq_true.2 fun s hs=>Wl (a3 s hs)];rfl
  rw[e1,decide_eq_true (show a<16 by omega)];rfl
 ·rw[nsz,zM];have:=PJ (l:=l) (z:=zM (d+1)) fun n hn=>(a1 n hn).sz;have:=AdI (zM (d+1)) h3;omega
 ·rw[wN,if_pos (.inr rfl)];have h1:=Tk (l:=l) (w:=3^d) fun n hn=>(a1 n hn).w;have h2:=AdI (3^d) h3;show wNs l<=3^(d+1)
  rw[Ad7];omega
 rw[qN,if_neg (by decide),nsz];have:=TN (l:=l) fun n hn=>(a1 n hn).q;omega
def PK (t:List Int):∀ (d k:Nat),GN (d+1) (Dv t (d+1) k).1
 | d,k=>by
   have hk:=@pk_range t k 8 (by decide);rw[Dv];split;·exact Jn (by decide) rfl (by simp)
   split
   ·split;·exact Jn (by decide) (by decide) (by decide)
    exact Jn (by decide) (by decide) (by decide)
   split;·exact Jn (by decide) (by show Db 3 _=true;unfold Db;rw[if_neg (by decide),if_pos rfl];exact Of t (k+1)) (by have:=(GZ t (k+1)).2;show (Iw t (k+1)).length<=40;omega)
   split
   ·refine Jn (by decide) ?_ (by have:=(Wm t (k+2) (pk t (k+1) 8).toNat).2;show (ET t (k+2) (pk t (k+1) 8).toNat).length<=40;omega);show Db 4 _=true
    unfold Db;rw[if_neg (by decide),if_neg (by decide),if_pos rfl];exact Ud _ _ _
   rename_i hd;obtain ⟨e,rfl⟩:∃ e,d=e+1:=⟨d-1,by omega⟩;split
   ·have hr:=@pk_range t (k+1) 4 (by decide);obtain ⟨a1,a2⟩:=Vg (P:=GN (e+1)) (PK t e) (pk t (k+1) 4).toNat [] (k+2) fun n hn=>by cases hn
    generalize Gv (Dv t (e+1)) (pk t (k+1) 4).toNat [] (k+2)=r at *;obtain ⟨l,k2⟩:=r;simp only at a1 a2 ⊢;simp only[Ac7] at a2;have h3:l.length<=3:=(by omega)
    refine ⟨fun a ha=>?_,?_,⟨fun s hs=>(by cases hs),T5 fun n hn=>(a1 n hn).ka⟩,?_,?_,⟨by simp,fun s hs=>(by cases hs),Pi fun n hn=>(a1 n hn).tx⟩⟩;·rw[Bg,J5 fun n hn=>(a1 n hn).ok (a+1) (by omega),decide_eq_true (show a<16 by omega)];rfl
    ·rw[nsz,zM];have:=PJ (l:=l) (z:=zM (e+1)) fun n hn=>(a1 n hn).sz;have:=AdI (zM (e+1)) h3;omega
    ·rw[wN,if_pos (.inl rfl)];have h1:=Tk (l:=l) (w:=3^e) fun n hn=>(a1 n hn).w;have h2:=AdI (3^e) h3;show wNs l<=3^(e+1)
     rw[Ad7];omega
    rw[qN,if_pos rfl,nsz];have:=TN (l:=l) fun n hn=>(a1 n hn).q;omega
   exact (Aa8 (t:=t) (PK t e) (k+1)).1
def Xm:∀ (N:Nat) (n:Nd) (a:Nat),nsz n<=N->Bg n a=true->nsz n<=100000->szN n
 | 0,n,_,h,_,_=>by have:=CY n;omega
 | N+1,n,a,hN,h,hz=>by
   have o:=Em h;have e:=DF n;have hl:=ER n.kids;have hk:∀ k∈n.kids,szN k:=fun k hk=>by have:=DG hk;exact Xm N k (a+1) (by omega) (o.kids k hk) (by omega)
   refine Pk ⟨by have:=o.text;omega,fun s hs=>?_,hk⟩ ?_ (by omega)
   ·by_cases k6:n.kind=6;·have:=FO ((o.recd k6).2.2 s hs);omega
    rw[o.nrecd k6] at hs;cases hs
   by_cases k6:n.kind=6;·have:=(o.recd k6).1;omega
   rw[o.nrecd k6];simp
end
section
open Go Go.Proofs Go.Abs
def Su:∀ s:List UInt8,(DB s).length<=2*s.length
 | []=>AbZ _
 | b::s=>by
   have ih:=Su s;have e:DB (b::s)=Lg b++DB s:=(by simp[DB])
   rw[e,AbS,AbY];rcases Gj b with ⟨c,h1,_⟩ | ⟨h1,_⟩
   ·rw[h1];simp only[AbY,Ac7];omega
   rw[h1];simp only[AbY,Ac7];omega
def F7 (s:List UInt8):(BZ s).length<=2*s.length+2:=by have:=Su s;simp only[BZ,AbY,AbS,Ac7];omega
def Wi {B:Nat} {ks:List (List UInt8)} (h:∀ s∈ks,s.length<=B):(ks.headD []).length<=B:=by
 cases ks with
 | nil=>exact AdU _
 | cons a r=>exact h a (by simp)
def Sq (rec:Bool):∀ (l:List Nd) (ks:List (List UInt8)) (first:Bool),(∀ n∈l,(B9 n).length+84<=170*nsz n)->(∀ s∈ks,s.length<=40)->(DA rec ks l first).length<=170*Ce l
 | [],ks,f,_,_=>by rw[Ha];exact AdU _
 | n::r,ks,f,h,hk=>by
   have h1:=h n (by simp);have h2:=Sq rec r ks.tail false (fun x hx=>h x (AbH _ hx)) fun s hs=>hk s (AdV hs);have h3:=Wi hk;have h4:=F7 (ks.headD []);rw[DY,Ce];simp only[AbS];have h5:(if f=true then ([]:List UInt8) else [44]).length<=1:=(by split<;>simp)
   have h6:(if rec=true then BZ (ks.headD [])++[58] else ([]:List UInt8)).length<=83:=by
    split;·simp only[AbS,AbY,Ac7];omega
    simp
   omega
def Rz:∀ {l:List Nd},Zr l->∀ n∈l,txN n
 | [],_,n,h=>by cases h
 | x::r,h,n,hn=>by
   rcases AbU.1 hn with rfl | hn
   ·exact h.1
   exact Rz h.2 n hn
def Sp:∀ (N:Nat) (n:Nd),nsz n<=N->txN n->(B9 n).length+84<=170*nsz n
 | 0,n,h,_=>by have:=CY n;omega
 | N+1,.mk k t ks l,hN,hx=>by
   have e:nsz (.mk k t ks l)=1+Ce l:=DF _;obtain ⟨x1,x2,x3⟩:=hx;have h2:=fun rec=>Sq rec l ks true (fun c hc=>Sp N c (by have:=DG hc;omega) (Rz x3 c hc)) x2;have h2a:=h2 false;have h2b:=h2 true;have h4:=F7 t;rw[B9,e];split;·simp[Jj];omega
   split;·omega
   split;·simp only[AbS,AbY,Ac7];omega
   split;·simp only[AbS,AbY,Ac7];omega
   omega
def YE (a b:List UInt8):DB (a++b)=DB a++DB b:=by simp[DB]
def Oz:∀ {p:List UInt8},(∀ c∈p,128<=c.toNat)->DB p=p
 | [],_=>rfl
 | c::r,h=>by
   have e:DB (c::r)=Lg c++DB r:=(by simp[DB]);rw[e,Oz fun x hx=>h x (by simp[hx])];have hc:=h c (by simp);rcases Gj c with ⟨d,h1,h2,h3⟩ | ⟨h1,_⟩
   ·rcases h2 with rfl | rfl | rfl | rfl | rfl<;>exact absurd hc (by decide)
   rw[h1];rfl
def VB:∀ (n:Nat) (x:List UInt8),x.length=n->Lib.validD x=true->Lib.validD (DB x)=true:=by
 intro n;induction n using Nat.strongRecOn with
 | _ n ih =>
  intro x hn hx;rcases Ku hx with rfl | ⟨p,m,rfl,hp,hm,hall,hc⟩
  ·rfl
  have:=List.length_pos_iff.2 hp;have hr:=ih m.length (by rw[AbS] at hn;omega) m rfl hm;rw[YE];rcases hc with ⟨c,rfl,hc⟩ | hc
  ·refine BT ?_ hr;show Lib.validD (Lg c++[])=true
   rw[Adh];rcases Gj c with ⟨d,h1,h2,h3⟩ | ⟨h1,_⟩
   ·rw[h1];exact BQ _ fun x hx=>by
     rcases AbU.1 hx with rfl | hx
     ·decide
     rw[AbQ.1 hx];exact h3
   rw[h1];exact BQ _ fun x hx=>by rw[AbQ.1 hx];exact hc
  rw[Oz hc,hall];exact hr
def Ds {b:UInt8} (h:b.toNat<128):Lib.validD [b]=true:=BQ _ fun x hx=>by rw[AbQ.1 hx];exact h
def Kt {s:List UInt8} (h:Lib.validD s=true):Lib.validD (BZ s)=true:=by
 show Lib.validD ([34]++(DB s++[34]))=true
 exact BT (Ds (by decide)) (BT (VB _ s rfl h) (Ds (by decide)))
def IC {s:List UInt8} (h:A2 s=true):Lib.validD s=true:=by unfold A2 at h;simp only[AdY] at h;exact h.2.1
def LP (rec:Bool):∀ (l:List Nd) (ks:List (List UInt8)) (first:Bool),(∀ n∈l,Lib.validD (B9 n)=true)->(∀ s∈ks,Lib.validD s=true)->Lib.validD (DA rec ks l first)=true
 | [],ks,f,_,_=>by rw[Ha];rfl
 | n::r,ks,f,h,hk=>by
   have h1:=h n (by simp);have h2:=LP rec r ks.tail false (fun x hx=>h x (AbH _ hx)) fun s hs=>hk s (AdV hs);have h3:Lib.validD (ks.headD [])=true:=by
    cases ks with
    | nil=>rfl
    | cons a r=>exact hk a (by simp)
   rw[DY];refine BT ?_ (BT ?_ (BT h1 h2))
   ·split;·rfl
    exact Ds (by decide)
   split;·exact BT (Kt h3) (Ds (by decide))
   rfl
def JP:∀ (N:Nat) (n:Nd) (a:Nat),nsz n<=N->Bg n a=true->Lib.validD (B9 n)=true
 | 0,n,_,h,_=>by have:=CY n;omega
 | N+1,.mk k t ks l,a,hN,hx=>by
   have e:nsz (.mk k t ks l)=1+Ce l:=DF _;have o:=Em hx;have ov:Lib.validD t=true:=by
    have q:Db k t=true:=o.scal;unfold Db at q;split at q;·rcases of_decide_eq_true q with rfl | rfl<;>exact BQ _ (by decide)
    split at q;·exact IC (M8 q)
    split at q;·exact IC q
    rw[of_decide_eq_true q];rfl
   have ok:∀ s∈ks,Lib.validD s=true:=fun s hs=>by
    by_cases k6:k=6;·exact IC ((o.recd k6).2.2 s hs)
    rw[show ks=[] from o.nrecd k6] at hs;cases hs
   have h2:=fun rec=>LP rec l ks true (fun c hc=>JP N c (a+1) (by have:=DG hc;omega) (o.kids c hc)) ok;rw[B9];split;·exact BQ _ (by decide)
   split;·exact Kt ov
   split
   ·show Lib.validD ([91]++(_++[93]))=true
    exact BT (Ds (by decide)) (BT (h2 false) (Ds (by decide)))
   split
   ·show Lib.validD ([123]++(_++[125]))=true
    exact BT (Ds (by decide)) (BT (h2 true) (Ds (by decide)))
   exact ov
def SC {s:List UInt8} (h:Num.decOk s=true):∃ b r,s=b::r/\(b=43\/b=45\/Num.isD b):=by
 obtain ⟨g,f,b,hg,hf,hfd,_,hs⟩:=OI h;obtain ⟨f0,fr,rfl⟩:∃ x y,f=x::y:=by
  cases f with
  | nil=>exact absurd rfl hf
  | cons x y=>exact ⟨x,y,rfl⟩
 have q:∃ r,s=g++(f0::r):=by
  rcases hs with ⟨rfl,_⟩ | ⟨_,rfl⟩
  ·exact ⟨fr,rfl⟩
  exact ⟨fr++46::b,by simp⟩
 obtain ⟨r,rfl⟩:=q;rcases hg with rfl | rfl | rfl
 ·exact ⟨f0,r,rfl,.inr (.inr (hfd f0 (by simp)))⟩
 ·exact ⟨43,f0::r,rfl,.inl rfl⟩
 exact ⟨45,f0::r,rfl,.inr (.inl rfl)⟩
def R6 {b:UInt8} (h:b=43\/b=45\/Num.isD b):42<b.toNat/\b.toNat<58:=by
 rcases h with rfl | rfl | ⟨h1,h2⟩
 ·decide
 ·decide
 have a1:(48:Nat)<=b.toNat:=by simpa using h1
 have a2:b.toNat<=(57:Nat):=by simpa using h2
 omega
def PL {b:UInt8} (h:32<b.toNat):FB.contains b=false:=by
 cases e:FB.contains b with
 | false=>rfl
 | true =>simp only[FB,List.contains_eq_mem,AbU,AdH,or_false,decide_eq_true_eq] at e;rcases e with rfl | rfl | rfl | rfl<;>exact absurd h (by decide)
def Dw {b c:UInt8} (h:b.toNat≠c.toNat):¬b=c:=fun e=>h (by rw[e])
def Yp {n:Nd} {a:Nat} (h:Bg n a=true):∃ b r,B9 n=b::r/\32<b.toNat/\b≠93/\b≠125:=by
 have o:=Em h;obtain ⟨k,t,ks,l⟩:=n;have ok:1<=k/\k<=6:=o.kind;have os:Db k t=true:=o.scal;rw[B9];split;·exact ⟨_,_,rfl,by decide,by decide,by decide⟩
 split;·exact ⟨_,_,rfl,by decide,by decide,by decide⟩
 split;·exact ⟨_,_,rfl,by decide,by decide,by decide⟩
 split;·exact ⟨_,_,rfl,by decide,by decide,by decide⟩
 rcases (by omega:k=2\/k=3) with rfl | rfl
 ·rcases of_decide_eq_true (show decide (t=Fx\/t=FP)=true from os) with rfl | rfl
  ·exact ⟨_,_,rfl,by decide,by decide,by decide⟩
  exact ⟨_,_,rfl,by decide,by decide,by decide⟩
 obtain ⟨b,r,e,hb⟩:=SC (show Num.decOk t=true from os);obtain ⟨q1,q2⟩:=R6 hb;exact ⟨b,r,e,by omega,Dw (by show b.toNat≠93;omega),Dw (by show b.toNat≠125;omega)⟩
def LG {b c:UInt8} {r p:List UInt8} (h:¬b=c):hasP (b::r) (c::p)=false:=by unfold hasP;refine decide_eq_false fun e=>?_;simp only[AbY,List.take_succ_cons,List.cons.injEq] at e;exact h e.1
def Hq {s rest:List UInt8} {b:UInt8} {r:List UInt8} {st:List Nd} {n:Nd} (hs:s=b::r) (hb:32<b.toNat) (h1:b≠91) (h2:b≠123) (h:DD s=(rest,n,true)):CF s st=.got rest st n:=by subst hs;have k:=EC (PL hb) r;unfold CF;rw[L7 k h1,L7 k h2,h];rfl
def VS {n:Nd} {a:Nat} (h:Bg n a=true) (h5:n.kind≠5) (h6:n.kind≠6) {rest:List UInt8} (st:List Nd) (he:M2 rest):Dc (.beg (B9 n++rest) st)=Dc (.got rest st n):=by
 have o:=Em h;obtain ⟨k,t,ks,l⟩:=n;replace h5:k≠5:=h5;replace h6:k≠6:=h6;have ok:1<=k/\k<=6:=o.kind;have os:Db k t=true:=o.scal;have ek:ks=[]:=o.nrecd h6;have el:l=[]:=o.leaf h5 h6;subst ek;subst el;rw[Ee];congr 1;rcases (by omega:k=1\/k=2\/k=3\/k=4) with rfl | rfl | rfl | rfl
 ·have et:t=[]:=of_decide_eq_true (show decide (t=[])=true from os);subst et;rw[B9,if_pos rfl];refine Hq (r:=[117,108,108]++rest) rfl (by decide) (by decide) (by decide) ?_;have k:=EC (b:=110) (by decide) ([117,108,108]++rest);show DD (110::([117,108,108]++rest))=_
  unfold DD;rw[k];rfl
 ·rcases of_decide_eq_true (show decide (t=Fx\/t=FP)=true from os) with rfl | rfl
  ·show CF (Fx++rest) st=_
   refine Hq (r:=[114,117,101]++rest) rfl (by decide) (by decide) (by decide) ?_;have k:=EC (b:=116) (by decide) ([114,117,101]++rest);show DD (116::([114,117,101]++rest))=_
   unfold DD;rw[k];rfl
  show CF (FP++rest) st=_
  refine Hq (r:=[97,108,115,101]++rest) rfl (by decide) (by decide) (by decide) ?_;have k:=EC (b:=102) (by decide) ([97,108,115,101]++rest);show DD (102::([97,108,115,101]++rest))=_
  unfold DD;rw[k];rfl
 ·have od:Num.decOk t=true:=os;obtain ⟨b,r,e,hb⟩:=SC od;obtain ⟨q1,q2⟩:=R6 hb;have nd:=ZP od he;have tl:0<t.length:=by rw[e];simp
  show CF (t++rest) st=_
  refine Hq (b:=b) (r:=r++rest) (by rw[e];rfl) (by omega) (Dw (by show b.toNat≠91;omega)) (Dw (by show b.toNat≠123;omega)) ?_;have k:AN (t++rest)=t++rest:=by rw[e];exact EC (PL (by omega)) (r++rest)
  have n1:hasP (t++rest) [34]=false:=by rw[e];exact LG (Dw (by show b.toNat≠34;omega))
  have n2:hasP (t++rest) Jj=false:=by rw[e];exact LG (Dw (by show b.toNat≠110;omega))
  have n3:hasP (t++rest) Fx=false:=by rw[e];exact LG (Dw (by show b.toNat≠116;omega))
  have n4:hasP (t++rest) FP=false:=by rw[e];exact LG (Dw (by show b.toNat≠102;omega))
  unfold DD;rw[k,n1,n2,n3,n4,nd,List.drop_left,AdG,decide_eq_true tl];rfl
 have of:A2 t=true:=os;show CF (BZ t++rest) st=_
 have q:=N6 t rest (MW of);refine Hq (b:=34) (r:=(DB t++[34])++rest) rfl (by decide) (by decide) (by decide) ?_;have k:AN (BZ t++rest)=BZ t++rest:=by
  show AN (34::((DB t++[34])++rest))=34::((DB t++[34])++rest)
  exact EC (by decide) _
 have n1:hasP (BZ t++rest) [34]=true:=by unfold hasP;simp[BZ]
 unfold DD;rw[k,n1,q];rfl
def EM {c:UInt8} (h:32<c.toNat) (s:List UInt8):sgn c (c::s)=(s,true):=Lz (EC (PL h) s)
def HD {c b:UInt8} (h:32<b.toNat) (hb:b≠c) (s:List UInt8):sgn c (b::s)=(b::s,false):=L7 (EC (PL h) s) hb
def Jv {b:UInt8} (h:b=44\/57<b.toNat) (s:List UInt8):M2 (b::s):=fun c r e=>by cases e;exact .inr h
def ML {rest:List UInt8} {st:List Nd}:∀ (l:List Nd) (c:Nd) (dn:List Nd),(∀ x∈c::l,∀ rest st,M2 rest->Dc (.beg (B9 x++rest) st)=Dc (.got rest st x)) ->
  Dc (.beg (B9 c++(DA false [] l false++93::rest)) (.mk 5 [] [] dn::st))=Dc (.got rest st (.mk 5 [] [] (dn++c::l)))
 | [],c,dn,h=>by rw[Ha,Ad1,h c (by simp) _ _ (Jv (.inr (by decide)) _),FF];unfold Ic;rw[HD (by decide) (by decide)];simp only[AdD,if_false];rw[show AH (Nd.kind (.mk 5 [] [] dn))=93 from rfl,EM (by decide)];rfl
 | d::l,c,dn,h=>by
   have ih:=ML (rest:=rest) (st:=st) l d (dn++[c]) fun x hx=>h x (AbH _ hx);have e:DA false [] (d::l) false++93::rest=44::(B9 d++(DA false [] l false++93::rest)):=(by rw[DY];simp)
   rw[e,h c (by simp) _ _ (Jv (.inl rfl) _),FF];unfold Ic;rw[EM (by decide)];simp only[if_true];rw[show (dn++c::d::l)=(dn++[c])++d::l by simp,<-ih];rfl
def Om {s k:List UInt8} {t:Nd} {st:List Nd} (h5:t.kind≠5) (h:∀ b∈k,Hi b=false):Eo (BZ k++58::s) t st=.beg s (Es t k::st):=by unfold Eo;rw[if_neg h5,N6 k (58::s) h,EM (by decide)];rfl
def MK {rest:List UInt8} {st:List Nd}:∀ (l:List Nd) (ks:List (List UInt8)) (kd:List (List UInt8)) (c:Nd) (dn:List Nd),(∀ x∈c::l,∀ rest st,M2 rest->Dc (.beg (B9 x++rest) st)=Dc (.got rest st x))->ks.length=l.length->(∀ s∈ks,A2 s=true) ->
  Dc (.beg (B9 c++(DA true ks l false++125::rest)) (.mk 6 [] kd dn::st))=Dc (.got rest st (.mk 6 [] (kd++ks) (dn++c::l)))
 | [],ks,kd,c,dn,h,hl,_=>by have ek:ks=[]:=Adt.1 hl;subst ek;rw[Ha,Ad1,h c (by simp) _ _ (Jv (.inr (by decide)) _),FF,Adh];unfold Ic;rw[HD (by decide) (by decide)];simp only[AdD,if_false];rw[show AH (Nd.kind (.mk 6 [] kd dn))=125 from rfl,EM (by decide)];rfl
 | d::l,[],kd,c,dn,h,hl,_=>by simp at hl
 | d::l,k::ks,kd,c,dn,h,hl,hk=>by
   have ih:=MK (rest:=rest) (st:=st) l ks (kd++[k]) d (dn++[c]) (fun x hx=>h x (AbH _ hx)) (by simpa using hl) fun s hs=>hk s (AbH _ hs);have e:DA true (k::ks) (d::l) false++125::rest=44::(BZ k++58::(B9 d++(DA true ks l false++125::rest))):=(by rw[DY];simp)
   rw[e,h c (by simp) _ _ (Jv (.inl rfl) _),FF];unfold Ic;rw[EM (by decide)];simp only[if_true];rw[Om (by show (6:Int)≠5;decide) (MW (hk k (by simp)))];rw[show (dn++c::d::l)=(dn++[c])++d::l by simp,show kd++k::ks=(kd++[k])++ks by simp,<-ih];rfl
def N5:∀ (N:Nat) (n:Nd) (a:Nat),nsz n<=N->Bg n a=true->∀ (rest:List UInt8) (st:List Nd),M2 rest->Dc (.beg (B9 n++rest) st)=Dc (.got rest st n)
 | 0,n,_,h,_=>by have:=CY n;omega
 | N+1,n,a,hN,h=>by
   intro rest st he;have o:=Em h;have hz:=DF n;have ih:∀ c∈n.kids,∀ rest st,M2 rest->Dc (.beg (B9 c++rest) st)=Dc (.got rest st c):=fun c hc=>N5 N c (a+1) (by have:=DG hc;omega) (o.kids c hc);by_cases h5:n.kind=5
   ·obtain ⟨k,t,ks,l⟩:=n;replace h5:k=5:=h5;subst h5;have et:t=[]:=of_decide_eq_true (show decide (t=[])=true from o.scal);have ek:ks=[]:=o.nrecd (by show (5:Int)≠6;decide);subst et;subst ek;cases l with
    | nil =>
     show Dc (.beg (91::93::rest) st)=_
     rw[Ee];unfold CF;rw[EM (by decide)];simp only[if_true];unfold FH;rw[show AH 5=93 from rfl,EM (by decide)];rfl
    | cons c r =>
     have e:B9 (.mk 5 [] [] (c::r))++rest=91::(B9 c++(DA false [] r false++93::rest)):=by
      show 91::(DA false [] (c::r) true++[93])++rest=_
      rw[DY];simp
     obtain ⟨b,x,hb,b1,b2,b3⟩:=Yp (o.kids c (by simp[Nd.kids]));rw[e,Ee];unfold CF;rw[EM (by decide)];simp only[if_true];unfold FH;rw[show AH 5=93 from rfl,hb,AdZ,HD b1 b2];simp only[AdD,if_false];rw[<-AdZ,<-hb];exact ML r c [] ih
   by_cases h6:n.kind=6
   ·obtain ⟨k,t,ks,l⟩:=n;replace h6:k=6:=h6;subst h6;have et:t=[]:=of_decide_eq_true (show decide (t=[])=true from o.scal);obtain ⟨r1,r2,r3⟩:=o.recd rfl;replace r1:ks.length=l.length:=r1;replace r3:∀ s∈ks,A2 s=true:=r3;subst et;cases l with
    | nil =>
     have ek:ks=[]:=Adt.1 r1;subst ek;show Dc (.beg (123::125::rest) st)=_
     rw[Ee];unfold CF;rw[HD (by decide) (by decide)];simp only[AdD,if_false];rw[EM (by decide)];simp only[if_true];unfold FH;rw[show AH 6=125 from rfl,EM (by decide)];rfl
    | cons c r =>
     cases ks with
     | nil=>simp at r1
     | cons key ks =>
      have e:B9 (.mk 6 [] (key::ks) (c::r))++rest=123::(BZ key++58::(B9 c++(DA true ks r false++125::rest))):=by
       show 123::(DA true (key::ks) (c::r) true++[125])++rest=_
       rw[DY];simp
      rw[e,Ee];unfold CF;rw[HD (by decide) (by decide)];simp only[AdD,if_false];rw[EM (by decide)];simp only[if_true];unfold FH;rw[show AH 6=125 from rfl,show BZ key++58::(B9 c++(DA true ks r false++125::rest))=34::((DB key++[34])++58::(B9 c++(DA true ks r false++125::rest))) from rfl,HD (by decide) (by decide)];simp only[AdD,if_false];have kb:=Om (s:=B9 c++(DA true ks r false++125::rest)) (t:=.mk 6 [] [] []) (st:=st) (by show (6:Int)≠5;decide) (MW (r3 key (by simp)));have kb2:Eo (34::((DB key++[34])++58::(B9 c++(DA true ks r false++125::rest)))) (.mk 6 [] [] []) st=_:=kb;rw[kb2];exact MK r ks [key] c [] ih (by simpa using r1) fun s hs=>r3 s (AbH _ hs)
   exact VS h h5 h6 st he
def Xs {c:UInt8} {s s2:List UInt8} (h:AN s=AN s2):sgn c s=sgn c s2:=by unfold sgn;rw[h]
def WJ {s s2:List UInt8} (h:AN s=AN s2) (st:List Nd):CF s st=CF s2 st:=by unfold CF;rw[Xs h]
def Mp {n:Nd} (h:Bg n 0=true) {data w2:List UInt8} (h1:AN data=AN (B9 n++w2)) (h2:M2 w2) (h3:AN w2=[]) (h4:Lib.validD data=true):Gc data=(n,0):=by unfold Gc;rw[Ee,WJ h1,<-Ee,N5 _ n 0 (AbZ _) h w2 [] h2,XF];simp only;rw[if_pos ⟨h4,h3⟩,if_pos h]
def Aag:M2 []:=fun b r e=>by cases e
def V3 {n:Nd} (h:Bg n 0=true):Gc (B9 n)=(n,0) :=
 Mp h (w2:=[]) (by rw[Adh]) Aag rfl (JP _ n 0 (AbZ _) h)
def TO {n:Nd} (h:Bg n 0=true) {w1 w2:List UInt8} (h1:∀ s,AN (w1++s)=AN s) (h2:M2 w2) (h3:AN w2=[]) (h4:Lib.validD w1=true) (h5:Lib.validD w2=true):Gc (w1++(B9 n++w2))=(n,0) :=
 Mp h (h1 _) h2 h3 (BT h4 (BT (JP _ n 0 (AbZ _) h) h5))
end
section
open Go Go.Proofs Go.Abs
variable {G:Ah}
def ZH (b:UInt8):rpO b=Lg b:=by
 unfold rpO rpN Lg;by_cases h1:b=92;·subst h1;rfl
 by_cases h2:b=34;·subst h2;rfl
 by_cases h3:b=10;·subst h3;rfl
 by_cases h4:b=13;·subst h4;rfl
 by_cases h5:b=9;·subst h5;rfl
 rw[if_neg h1,if_neg h2,if_neg h3,if_neg h4,if_neg h5,if_neg h1,if_neg h2,if_neg h3,if_neg h4,if_neg h5]
def ZI (s:List UInt8):rpL s=DB s:=by unfold rpL DB;exact congrArg (s.flatMap ·) (funext ZH)
def KF (s:List UInt8) (hs:s.length<=1000000000):Ctr TP G 69 [.d (S s)] [] (.d (S (BZ s))) []:=by have h:=TM (G:=G) s hs;rw[ZI] at h;exact h
def CT (used:Bool) (l x:List UInt8) (hl:l.length<=10000000000000) (hx:x.length<=10000000000000) (y:List UInt8) (hy:l++x=y) :
  Ctr TP G 68 [.ptr 0 0,.d (S x)] (BL used l) (.tup [.d (.int .i64 x.length),.undef]) [.bld 79 true y.length (some 2),.dead,.buf 5 y]:=by
 subst hy;exact JO used l x hl hx
def YO {P:Program} {f:FuncId} {args:List AV} {res:AV} {H':List Aa} {T e:TypeId} {used:Bool} (spec:Ctr P G f args [.bld T used 0 (some 1),.buf e []] res H') (ha:SW [some 0,none] args args) :
  Ctr P G f args [.bld T used 0 none] res H':=by
 refine ⟨spec.1,fun h ρ w vs hs hvs=>?_⟩;have ρ1:∀ k,k≠0->ρ k=none:=by
  intro k hk;cases er:ρ k with
  | none=>rfl
  | some x =>obtain ⟨_,b,hb⟩:=hs.dom k x.1 x.2 er;obtain ⟨j,rfl⟩:∃ j,k=j+1:=⟨k-1,by omega⟩;simp[hp] at hb
 have epl:plN [some 0,none] ρ=ρ:=by
  funext k;rcases k with _ | _ | k
  ·rfl
  ·rw[ρ1 1 (by omega)];rfl
  rw[ρ1 (k+2) (by omega)];rfl
 obtain ⟨h1,t1,_,s2,r2⟩:=Hv (fl:=[some 0,none]) (H:=[.bld T used 0 none]) (s:=args) (s2:=args) (H2:=[.bld T used 0 (some 1),.buf e []]) (tmps:=vs) (by simp) ha (by simp[HW,BW]) hs hvs;rw[epl] at s2 r2;refine (spec.2 h1 ρ w vs s2 r2).mono ?_;rintro e w' ⟨v,h',ρ',rfl,a,b,c⟩;exact ⟨v,h',ρ',rfl,a,b,t1.trans c⟩
mutual
def eqN:Nd->Nd->Bool
 | .mk k t ks l,.mk k2 t2 ks2 l2=>decide (k=k2) && (decide (t=t2) && (decide (ks=ks2) && Hc l l2))
def Hc:List Nd->List Nd->Bool
 | [],[]=>true
 | a::r,b::s=>eqN a b && Hc r s
 | [],_::_=>false
 | _::_,[]=>false
end
mutual
def Sw:∀ n:Nd,eqN n n=true
 | .mk k t ks l=>by rw[eqN,OA l];simp
def OA:∀ l:List Nd,Hc l l=true
 | []=>by rw[Hc]
 | a::r=>by rw[Hc,Sw a,OA r];rfl
end
def Sv:∀ {l m:List Nd},l.length≠m.length->Hc l m=false
 | [],[],h=>absurd rfl h
 | [],_::_,_=>by rw[Hc]
 | _::_,[],_=>by rw[Hc]
 | a::r,b::s,h=>by rw[Hc,Sv fun e=>h (by simp[e]),Bool.and_false]
def Aaf {l m:List Nd} {i:Nat} (h:i<l.length) (h2:i<m.length):Hc (l.drop i) (m.drop i)=(eqN (l.getD i noN) (m.getD i noN) && Hc (l.drop (i+1)) (m.drop (i+1))):=by rw[AdN h,AdN h2,Hc,Adc,AdJ h,Adc,AdJ h2];rfl
end
end Go.Proofs.YtmidaophnbdcdaaGreatDoor
