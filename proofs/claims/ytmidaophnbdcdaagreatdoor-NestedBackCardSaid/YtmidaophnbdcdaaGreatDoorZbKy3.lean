/-
  Contracts of the functions, one after another.
-/
import Derived.Test.YtmidaophnbdcdaaGreatDoorZbKy2
set_option linter.all false
open Go.Abs renaming A6->HW,Dz->BW,Cm->SW,Am->AW,Bd->sA,A4->kZ
open Go.Proofs.Tryz renaming prog->TP
set_option maxHeartbeats 16000000
set_option maxRecDepth 100000
open Go.Abs renaming Ef->Qe
open Nat renaming reduceAdd->Qu,reduceSub->Qv,reduceMul->Qw,reducePow->Qx,reduceDiv->Qy,reduceMod->Qz,reduceEqDiff->QI,reduceBEq->QK
open Int renaming reduceAdd->QA,reduceSub->QB,reduceMul->QC,reducePow->QD,reduceNeg->QE,reduceToNat->QF,reduceLT->QG,reduceLE->QH
open List renaming getElem?_cons_zero->AbH,getElem?_cons_succ->AbM,length_cons->AbO,length_append->AbP,length_nil->AbQ,getElem?_eq_getElem->AbR,getD_eq_getElem?_getD->AbT,mem_singleton->AbU,length_drop->AbY,mem_cons_of_mem->AbZ,map_cons->Ac6,getElem?_eq_some_iff->Ac7,append_assoc->Ac8,length_set->Adc,mem_cons->Adt,getElem?_append_right->Adu,mem_append->Ady,map_nil->Adz,length_map->AdC,mem_map->AdD,drop_eq_getElem_cons->AdF,getElem?_map->AdG,getElem?_range->AdH,take_length->AdJ,cons_append->AdK,not_mem_nil->AdL,take_add_one->AdN,range->AdO,getElem?_zipIdx->AdP,mem_range->AdQ,nodup_nil->AdW,all_eq_true->AdX,map_append->AdY,nodup_cons->AdZ,dropWhile_cons->Ad0,mem_cons_self->Ad1,getElem?_zip_eq_some->Ad4,any_eq_false->Ad5,length_eq_zero_iff->Ad6,getElem_mem->Ad7,dropWhile_sublist->Ad9,nil_append->Aeb,contains_eq_mem->Aec,mem_of_getElem?->Aed,set_cons_zero->Aeh,set_cons_succ->Aei,nodup_append->Aek,drop_drop->Aen,drop_left->Aeo
open Nat renaming le_refl->AbS,reduceMod->Adg,reduceDiv->Adh,lt_or_ge->AdA,zero_le->AdB,add_assoc->AdE,eq_of_beq_eq_true->AdM,zero_add->AdR,reduceAdd->AdS,add_sub_cancel_left->AdU,eq_zero_or_pos->Ad2,le_add_right->Ad8,lt_of_lt_of_le->Aej,sub_self->Aep,beq->Aeq,le_trans->Aer
open Bool renaming and_eq_true->AbV,not_eq_true'->AdV,false_eq_true->Ad3,or_eq_true->Aea,true_and->Aeg
open Option renaming getD_some->AdI,toList_some->AdT,map_some->Ael,map_map->Aem
open Or renaming inr->Aee,inl->Aef
namespace Go.Proofs.YtmidaophnbdcdaaGreatDoor
section
open Go Go.Proofs Go.Abs
variable {G:Ah}
def Hj (r:List UInt8->Option Cel) (p:List UInt8):Cel:=match r p with
 | some c=>c
 | none=>([],true)
def Pz:List UInt8:=[114,111,119]
def CO (above:List Int):Col:=⟨Pz,above.map fun a=>(Lib.decDigits a.toNat,false)⟩
def E6 (rows:List (List UInt8->Option Cel)) (p:List UInt8):Col:=⟨p,rows.map fun r=>Hj r p⟩
def EB (s:Ly):List Col:=if s.further=true then [CO s.above] else []
def Fy (s:Ly) (id:Int) (name:List UInt8):Tab:=⟨id,name,EB s++s.paths.map (E6 s.rows)⟩
def Fz (s:Ly) (id:Int) (name:List UInt8):Tab × Bool:=if 64<s.paths.length\/4096<s.rows.length then (⟨id,name,[]⟩,false) else (Fy s id name,Oa (Fy s id name))
def KD (n:Nat):Aa:=if n=0 then .row false [] else .box ((AdO n).map fun i=>.mp (4+i))
structure TblH (s:Ly) (P0:List Aa):Prop where
 len:P0.length=4+s.rows.length
 c0:∃ x y z:D,P0[0]?=some (.box [.d (.bool s.further),.lsl 1 1 0 s.above.length,.lsl 2 1 0 s.paths.length,.lsl 3 1 0 s.rows.length,.d x,.d y,.d z])
 c1:P0[1]?=some (.row false (Au .i64 s.above))
 c2:P0[2]?=some (.row false (strs s.paths))
 c3:P0[3]?=some (KD s.rows.length)
 cm:∀ i,(h:i<s.rows.length)->∃ m:List (D × D),P0[4+i]?=some (.map m)/\Ht m/\∀ p,Fw m (S p)=(s.rows[i] p).map fun c=>.agg (GI c)
 self:∀ b∈P0,S7 P0.length b
 nox:NoX P0
structure LyT (s:Ly):Prop where
 above:∀ a∈s.above,0<=a/\a<10000000
 al:s.above.length<=1000000
 pl:s.paths.length<=1000000
 rl:s.rows.length<=1000000
 ps:∀ p∈s.paths,p.length<=1000000000
 cs:∀ r∈s.rows,∀ p c,r p=some c->c.1.length<=1000000000
abbrev zB:Aa:=.box [.d (.int .i64 0),.d (.str ByteArray.empty),.d (.sl 0 true [])]
abbrev tB (id:Int) (name:List UInt8) (c:AV):Aa:=.box [.d (.int .i64 id),.d (S name),c]
def IF (s:Ly) (k:Nat):List Cel:=(CO (s.above.take k)).cells
def SK (s:Ly) (k:Nat) (h:k<=s.above.length):(IF s k).length=k:=by simp[IF,CO];omega
def Ww (s:Ly) (k:Nat) (h:k<s.above.length):IF s (k+1)=IF s k++[(Lib.decDigits (s.above.getD k 0).toNat,false)]:=by unfold IF CO;rw[AdN,AbR h,AbT,AbR h];simp only[AdT,AdY,Ac6,Adz,AdI]
def Hh (s:Ly):IF s s.above.length=(CO s.above).cells:=by unfold IF;rw[AdJ]
def D1 (s:Ly) (k:Nat):List Col:=EB s++(s.paths.take k).map (E6 s.rows)
def Jz (s:Ly) (k:Nat) (h:k<=s.paths.length):(D1 s k).length=(EB s).length+k:=by simp[D1];omega
def OL (s:Ly) (k:Nat) (h:k<s.paths.length):D1 s (k+1)=D1 s k++[E6 s.rows (s.paths.getD k [])]:=by unfold D1;rw[AdN,AbR h,AbT,AbR h];simp only[AdT,AdY,Ac6,Adz,AdI,Ac8]
def SF (s:Ly):D1 s s.paths.length=EB s++s.paths.map (E6 s.rows):=by unfold D1;rw[AdJ]
def Dq (s:Ly) (p:List UInt8) (i:Nat):List Cel:=(s.rows.take i).map fun r=>Hj r p
def JA (s:Ly) (p:List UInt8) (i:Nat) (h:i<=s.rows.length):(Dq s p i).length=i:=by simp[Dq];omega
def OP (s:Ly) (p:List UInt8) (i:Nat) (h:i<s.rows.length):Dq s p (i+1)=Dq s p i++[Hj s.rows[i] p]:=by unfold Dq;rw[AdN,AbR h];simp only[AdT,AdY,Ac6,Adz]
def SJ (s:Ly) (p:List UInt8):Dq s p s.rows.length=(E6 s.rows p).cells:=by unfold Dq;rw[AdJ];rfl
def Ig.pre2 {P0 l:List Aa} {v r:AV} {d:D} (hs:∀ b∈P0,S7 P0.length b) (hd:sealA (P0++l) v=some d) (hi:∀ j∈AJ v,P0.length<=j) (hr:r=.d (unf d)):Ig P0.length (P0++l) v r P0:=hr▸Ig.pre hs hd hi
def YK {n:Nat} (h:n<10000000):(Lib.decDigits n).length<=21:=by have:=Lib.itoa_length_le (n:Int) (by omega) (by omega);rwa[Lib.itoa_nonneg] at this
def UN {s:Ly} (hs:LyT s) (hp:¬64<s.paths.length) (id:Int) {name:List UInt8} (hn:name.length<=1000000000):Abf (Fy s id name):=by
 obtain ⟨s1,s2,s3,s4,s5,s6⟩:=hs;have tcl:(EB s).length<=1:=by unfold EB;split<;>simp
 refine ⟨hn,by simp[Fy];omega,fun c hc=>?_⟩;rcases Ady.1 hc with hc | hc
 ·unfold EB at hc;split at hc;·rw[AbU.1 hc];refine ⟨by simp[CO,Pz],by simp[CO];omega,fun x hx=>?_⟩;obtain ⟨a,ha,rfl⟩:=AdD.1 hx;obtain ⟨b1,b2⟩:=s1 a ha;have:=YK (n:=a.toNat) (by omega);simp only;omega
  cases hc
 obtain ⟨p,hq,rfl⟩:=AdD.1 hc;refine ⟨s5 p hq,by simp[E6];omega,fun x hx=>?_⟩;obtain ⟨r,hr,rfl⟩:=AdD.1 hx;unfold Hj;split;·exact s6 r hr p _ (by assumption)
 simp
def VK (hT:HT G) (hP:HP G) (s:Ly) (hs:LyT s) (id:Int) (i1:-9223372036854775808<=id) (i2:id<=9223372036854775807) (name:List UInt8) (hn:name.length<=1000000000) {P0:List Aa} (h:TblH s P0) :
  Ctr TP G 56 [.ptr 0 0,.d (.int .i64 id),.d (S name)] P0 (.d (.tup [WP (Fz s id name).1 false,.bool (Fz s id name).2])) P0:=by
 obtain ⟨s1,s2,s3,s4,s5,s6⟩:=hs;obtain ⟨x,y,z,q0⟩:=h.c0;have q1:=h.c1;have q2:=h.c2;have q3:=h.c3;have hl:=h.len;have al:=@ints_length .i64 s.above;have sl:=@strs_length s.paths;obtain ⟨r,hr⟩:∃ r,r=Fz s id name:=⟨_,rfl⟩;rw[<-hr];unfold Fz at hr;refine Ctr.body (M:=M0) Al Tryz.func56 rfl go56 ?_ (hx:=h.nox.ok);by_cases hp:64<s.paths.length
 ·rw[if_pos (.inl hp)] at hr;subst hr;simp(disch:=(try simp only[Ad]);omega)only[Ag,Tryz.f56,q0,q1,q2,q3,al,sl,AG,↓Ac,Ae,↓reduceIte,↓reduceDIte,↓Qe,Qu,Qv,Qw,Qx,Qy,Qz,QA,QB,QC,QD,QE,QF,QG,QH,QI,QK];exact Ig.pre2 (d:=.tup [.agg [.int .i64 id,S name,.sl 0 true []],.bool false]) h.self (by rfl) (by simp[AJ,idsL]) (by rfl)
 by_cases hw:4096<s.rows.length
 ·rw[if_pos (.inr hw)] at hr;subst hr;simp(disch:=(try simp only[Ad]);omega)only[Ag,Tryz.f56,q0,q1,q2,q3,al,sl,AG,↓Ac,Ae,↓reduceIte,↓reduceDIte,↓Qe,Qu,Qv,Qw,Qx,Qy,Qz,QA,QB,QC,QD,QE,QF,QG,QH,QI,QK];first
  | exact Ig.pre2 (d:=.tup [.agg [.int .i64 id,S name,.sl 0 true []],.bool false]) h.self (by rfl) (by simp[AJ,idsL]) (by rfl)
 rw[if_neg (by omega)] at hr;cases hf:s.further with
 | false =>
  rw[hf] at q0;simp(disch:=(try simp only[Ad]);omega)only[Ag,Tryz.f56,q0,q1,q2,q3,al,sl,AG,↓Ac,Ae,↓reduceIte,↓reduceDIte,↓Qe,Qu,Qv,Qw,Qx,Qy,Qz,QA,QB,QC,QD,QE,QF,QG,QH,QI,QK];refine As.fr 1770887431076116955457 (α:=Nat) (fun k=>s.paths.length-k) (fun k=>[(71,.d (.int .i64 k))]) (fun k=>P0++[zB,tB id name (.lsl (P0.length+2) 2 0 ((EB s).length+k)),.row false (B8 (D1 s k))]) (fun k=>k<=s.paths.length) 0 (AdB _) ?_ ?_
  ·first
   | exact C8.pre [some P0.length,some (P0.length+1),none] h.self (by simp) (by simp) (by simp(disch:=omega) [sA,kZ,SW,AW,AQ,A1,A3,AbH,AbM,D1,EB,hf,B8,cut,CO,Pz,Hh]) (by simp(disch:=omega) [HW,BW,SW,AW,AQ,A1,A3,AR,AbH,AbM,D1,EB,hf,B8,cut,CO,Pz,Hh])
  intro k hkk;simp only[Cr,Adg,Adh,reduceIte];rcases AdA k s.paths.length with hlt | hge
  ·have gk:=strs_getD hlt;have ck:=Jz s k hkk;have cdl:=BO (D1 s k);have csu:=OL s k hlt;have tcl:(EB s).length<=1:=(by unfold EB;split<;>simp)
   have cce:B8 (D1 s (k+1))=B8 (D1 s k)++[.str (bs (s.paths.getD k [])),.sl s.rows.length false (Bz (Dq s (s.paths.getD k []) s.rows.length))]:=(by rw[csu,OU,SJ];simp[B8,E6]);generalize hpk:s.paths.getD k []=pk at *;generalize htc:(EB s).length=tc at *;simp(disch:=(try simp only[Ad]);omega)only[Ag,q0,q1,q2,q3,al,sl,gk,AG,↓Ac,Ae,↓reduceIte,↓reduceDIte,↓Qe,Qu,Qv,Qw,Qx,Qy,Qz,QA,QB,QC,QD,QE,QF,QG,QH,QI,QK];refine As.fr 3630909529516398463705409 (α:=Nat) (fun i=>s.rows.length-i) (fun i=>[(82,.d (.int .i64 i))]) (fun i=>P0++[zB,tB id name (.lsl (P0.length+2) 2 0 (tc+k)),.row false (B8 (D1 s k)),.box [.d (S pk),.lsl (P0.length+4) 2 0 i],.row false (Bz (Dq s pk i))]) (fun i=>i<=s.rows.length) 0 (AdB _) ?_ ?_
   ·first
    | exact C8.pre [some P0.length,some (P0.length+1),some (P0.length+2),some (P0.length+3),none] h.self (by simp) (by simp) (by simp(disch:=omega) [sA,kZ,SW,AW,AQ,A1,A3,AbH,AbM,Dq,Bz]) (by simp(disch:=omega) [HW,BW,SW,AW,AQ,A1,A3,AR,AbH,AbM,Dq,Bz])
   intro i hii;simp only[Cr,Adg,Adh,reduceIte];rcases AdA i s.rows.length with hit | hig
   ·have q3':=q3;rw[KD,if_neg (by omega)] at q3';have rl:((AdO s.rows.length).map fun i=>AV.mp (4+i)).length=s.rows.length:=(by simp)
    have rg:((AdO s.rows.length).map fun i=>AV.mp (4+i)).getD i .undef=.mp (4+i):=(by rw[AbT,AdG,AdH hit];rfl);generalize ((AdO s.rows.length).map fun i=>AV.mp (4+i))=rb at *;obtain ⟨m,m1,m2,m3⟩:=h.cm i hit;have kr:=m2.ok;have cl:=JA s pk i hii;have cel:=BP (Dq s pk i);have csc:=OP s pk i hit;obtain ⟨cf,hcf⟩:=C7 [P0.length+3,P0.length+4,P0.length+5,P0.length+6,P0.length+7] (by simp);have c0:=hcf 0 _ rfl;have c1:=hcf 1 _ rfl;have c2:=hcf 2 _ rfl;have c3:=hcf 3 _ rfl;have c4:=hcf 4 _ rfl;cases hc:s.rows[i] pk with
    | none =>
     have v2:Dh (.agg [.bool false,.str ByteArray.empty]) m (S pk) true=.tup [.agg [.bool false,.str ByteArray.empty],.bool false]:=(by rw[CQ,m3,hc];rfl);have cge:Bz (Dq s pk (i+1))=Bz (Dq s pk i)++[.bool true,.str ByteArray.empty]:=(by rw[csc,FR];unfold Hj;rw[hc];rfl);simp(disch:=(try simp only[Ad]);omega)only[Ag,q0,q1,q2,q3',m1,kr,rl,rg,v2,al,sl,cel,cl,AG,↓Ac,Ae,↓reduceIte,↓reduceDIte,↓Qe,Qu,Qv,Qw,Qx,Qy,Qz,QA,QB,QC,QD,QE,QF,QG,QH,QI,QK];first
     | exact ⟨by simp[cut],by simp[cut],i+1,hit,by simp only;omega,C8.pre [some P0.length,some (P0.length+1),some (P0.length+2),some (P0.length+3),some (P0.length+7)] h.self (by simp) (by simp) (by simp(disch:=omega) [sA,kZ,SW,AW,AQ,A1,A3,AbH,AbM,cge,cut]) (by simp(disch:=omega) [HW,BW,SW,AW,AQ,A1,A3,AR,AbH,AbM,cge,cut])⟩
     | exact ⟨by simp[cut],i+1,hit,by simp only;omega,C8.pre [some P0.length,some (P0.length+1),some (P0.length+2),some (P0.length+3),some (P0.length+7)] h.self (by simp) (by simp) (by simp(disch:=omega) [sA,kZ,SW,AW,AQ,A1,A3,AbH,AbM,cge,cut]) (by simp(disch:=omega) [HW,BW,SW,AW,AQ,A1,A3,AR,AbH,AbM,cge,cut])⟩
    | some c =>
     have v2:Dh (.agg [.bool false,.str ByteArray.empty]) m (S pk) true=.tup [.agg (GI c),.bool true]:=(by rw[CQ,m3,hc];rfl);have cge:Bz (Dq s pk (i+1))=Bz (Dq s pk i)++[.bool c.2,.str (bs c.1)]:=(by rw[csc,FR];unfold Hj;rw[hc];rfl);obtain ⟨c1',c2'⟩:=c;cases c2'
     ·simp(disch:=(try simp only[Ad]);omega)only[Ag,q0,q1,q2,q3',m1,kr,rl,rg,v2,al,sl,cel,cl,AG,↓Ac,Ae,↓reduceIte,↓reduceDIte,↓Qe,Qu,Qv,Qw,Qx,Qy,Qz,QA,QB,QC,QD,QE,QF,QG,QH,QI,QK];first
      | exact ⟨by simp[cut],i+1,hit,by simp only;omega,C8.pre [some P0.length,some (P0.length+1),some (P0.length+2),some (P0.length+3),some (P0.length+7)] h.self (by simp) (by simp) (by simp(disch:=omega) [sA,kZ,SW,AW,AQ,A1,A3,AbH,AbM,cge,cut]) (by simp(disch:=omega) [HW,BW,SW,AW,AQ,A1,A3,AR,AbH,AbM,cge,cut])⟩
     simp(disch:=(try simp only[Ad]);omega)only[Ag,q0,q1,q2,q3',m1,kr,rl,rg,v2,al,sl,cel,cl,AG,↓Ac,Ae,↓reduceIte,↓reduceDIte,↓Qe,Qu,Qv,Qw,Qx,Qy,Qz,QA,QB,QC,QD,QE,QF,QG,QH,QI,QK];first
     | exact ⟨by simp[cut],i+1,hit,by simp only;omega,C8.pre [some P0.length,some (P0.length+1),some (P0.length+2),some (P0.length+3),some (P0.length+7)] h.self (by simp) (by simp) (by simp(disch:=omega) [sA,kZ,SW,AW,AQ,A1,A3,AbH,AbM,cge,cut]) (by simp(disch:=omega) [HW,BW,SW,AW,AQ,A1,A3,AR,AbH,AbM,cge,cut])⟩
   obtain rfl:i=s.rows.length:=by omega
   have cl:=JA s pk s.rows.length (AbS _);have cel:=BP (Dq s pk s.rows.length);have ccu:cut (Bz (Dq s pk s.rows.length)) 0 (s.rows.length*2)=Bz (Dq s pk s.rows.length):=cut_all (by omega);simp(disch:=(try simp only[Ad]);omega)only[Ag,q0,q1,q2,q3,al,sl,cel,cl,cdl,ck,ccu,AG,↓Ac,Ae,↓reduceIte,↓reduceDIte,↓Qe,Qu,Qv,Qw,Qx,Qy,Qz,QA,QB,QC,QD,QE,QF,QG,QH,QI,QK];first
   | exact ⟨by simp[cut],k+1,hlt,by simp only;omega,C8.pre [some P0.length,some (P0.length+1),some (P0.length+6)] h.self (by simp) (by simp) (by simp(disch:=omega) [sA,kZ,SW,AW,AQ,A1,A3,AbH,AbM,cce,cut,AdE]) (by simp(disch:=omega) [HW,BW,SW,AW,AQ,A1,A3,AR,AbH,AbM,cce,cut,AdE])⟩
   | exact ⟨k+1,hlt,by simp only;omega,C8.pre [some P0.length,some (P0.length+1),some (P0.length+6)] h.self (by simp) (by simp) (by simp(disch:=omega) [sA,kZ,SW,AW,AQ,A1,A3,AbH,AbM,cce,AdE]) (by simp(disch:=omega) [HW,BW,SW,AW,AQ,A1,A3,AR,AbH,AbM,cce,AdE])⟩
  obtain rfl:k=s.paths.length:=by omega
  have ck:=Jz s s.paths.length (AbS _);have cdl:=BO (D1 s s.paths.length);have tl:(Fy s id name).cols.length=(EB s).length+s.paths.length:=by simp[Fy]
  have cpt:D1 s s.paths.length=(Fy s id name).cols:=SF s;have ctt:cut (B8 (D1 s s.paths.length)) 0 (((EB s).length+s.paths.length)*2)=B8 (Fy s id name).cols:=by rw[<-cpt];exact cut_all (by omega)
  simp(disch:=(try simp only[Ad]);omega)only[Ag,q0,q1,q2,q3,al,sl,ctt,AG,↓Ac,Ae,↓reduceIte,↓reduceDIte,↓Qe,Qu,Qv,Qw,Qx,Qy,Qz,QA,QB,QC,QD,QE,QF,QG,QH,QI,QK];refine Ab.frozenE (I2 hT (Fy s id name) false (UN ⟨s1,s2,s3,s4,s5,s6⟩ hp id hn) i1 i2) (by rw[<-tl];rfl) ?_;rw[cpt] at *;rw[<-tl];simp(disch:=(try simp only[Ad]);omega)only[Ag,q0,q1,q2,q3,al,sl,ctt,frz,AG,↓Ac,Ae,↓reduceIte,↓reduceDIte,↓Qe,Qu,Qv,Qw,Qx,Qy,Qz,QA,QB,QC,QD,QE,QF,QG,QH,QI,QK];obtain ⟨cf,hcf⟩:=C7 [P0.length,P0.length+1,P0.length+2] (by simp);have c0:=hcf 0 _ rfl;have c1:=hcf 1 _ rfl;have c2:=hcf 2 _ rfl;refine ⟨AD cf (by simp(disch:=omega)only[Bf,AP,AO,Ba,A9,and_self]) (by simp only[Ac6,Adz,c0,c1,c2];rfl),?_⟩;subst hr;refine Ig.pre2 (d:=.tup [WP (Fy s id name) false,.bool (Oa (Fy s id name))]) h.self ?_ (by simp[AJ,idsL]) (by rfl);first
  | (simp[sealA,sealL,Bt,Ao,Az,AR,BU,Cd,Adc,AbP,Ac8,AdU,Aep,Aeh,Aei];exact ⟨rfl,rfl,cut_all (by rw[BO];omega)⟩)
 | true =>
  rw[hf] at q0;simp(disch:=(try simp only[Ad]);omega)only[Ag,Tryz.f56,q0,q1,q2,q3,al,sl,AG,↓Ac,Ae,↓reduceIte,↓reduceDIte,↓Qe,Qu,Qv,Qw,Qx,Qy,Qz,QA,QB,QC,QD,QE,QF,QG,QH,QI,QK];refine As.fr 105553116267329 (α:=Nat) (fun k=>s.above.length-k) (fun k=>[(47,.d (.int .i64 k))]) (fun k=>P0++[zB,tB id name (.d (.sl 0 true [])),.box [.d (.str {data:=#[114,111,119]}),.lsl (P0.length+3) 2 0 k],.row false (Bz (IF s k))]) (fun k=>k<=s.above.length) 0 (AdB _) ?_ ?_
  ·first
   | exact C8.pre [some P0.length,some (P0.length+1),some (P0.length+2),none] h.self (by simp) (by simp) (by simp(disch:=omega) [sA,kZ,SW,AW,AQ,A1,A3,AbH,AbM,IF,CO,Bz]) (by simp(disch:=omega) [HW,BW,SW,AW,AQ,A1,A3,AR,AbH,AbM,IF,CO,Bz])
  intro k hkk;simp only[Cr,Adg,Adh,reduceIte];rcases AdA k s.above.length with hlt | hge
  ·have ck:=SK s k hkk;have cdl:=BP (IF s k);have csu:=Ww s k hlt;obtain ⟨b1,b2⟩:=s1 _ (E1 (d:=0) hlt);obtain ⟨m,hm⟩:∃ m:Nat,s.above.getD k 0=m:=⟨(s.above.getD k 0).toNat,by omega⟩;rw[hm] at csu b1 b2;simp(disch:=(try simp only[Ad]);omega)only[Ag,q0,q1,q2,q3,al,sl,hm,cdl,ck,AG,↓Ac,Ae,↓reduceIte,↓reduceDIte,↓Qe,Qu,Qv,Qw,Qx,Qy,Qz,QA,QB,QC,QD,QE,QF,QG,QH,QI,QK];refine Ab.of (MO hP m (by omega)) (by rfl) ?_;simp(disch:=(try simp only[Ad]);omega)only[Ag,q0,q1,q2,q3,al,sl,hm,cdl,ck,AG,↓Ac,Ae,↓reduceIte,↓reduceDIte,↓Qe,Qu,Qv,Qw,Qx,Qy,Qz,QA,QB,QC,QD,QE,QF,QG,QH,QI,QK];obtain ⟨cf,hcf⟩:=C7 [P0.length+2,P0.length+3,P0.length+4,P0.length+5] (by simp);have c0:=hcf 0 _ rfl;have c1:=hcf 1 _ rfl;have c2:=hcf 2 _ rfl;have c3:=hcf 3 _ rfl;have cge:Bz (IF s (k+1))=Bz (IF s k)++[.bool false,.str (bs (Lib.decDigits m))]:=(by rw[csu,FR];rfl)
   first
   | exact ⟨by simp[cut],AD cf (by simp(disch:=omega)only[Bf,AP,AO,Ba,A9,and_self]) (by simp only[Ac6,Adz,c0,c1,c2,c3];rfl),k+1,hlt,by simp only;omega,C8.pre [some P0.length,some (P0.length+1),some (P0.length+2),some (P0.length+5)] h.self (by simp) (by simp) (by simp(disch:=omega) [sA,kZ,SW,AW,AQ,A1,A3,AbH,AbM,cge,cut]) (by simp(disch:=omega) [HW,BW,SW,AW,AQ,A1,A3,AR,AbH,AbM,cge,cut])⟩
  obtain rfl:k=s.above.length:=by omega
  have ck:=SK s s.above.length (AbS _);have cdl:=BP (IF s s.above.length);simp(disch:=(try simp only[Ad]);omega)only[Ag,q0,q1,q2,q3,al,sl,cdl,ck,AG,↓Ac,Ae,↓reduceIte,↓reduceDIte,↓Qe,Qu,Qv,Qw,Qx,Qy,Qz,QA,QB,QC,QD,QE,QF,QG,QH,QI,QK];refine ⟨by simp[cut],?_⟩;have cda:cut (Bz (IF s s.above.length)) 0 (s.above.length*2)=Bz (CO s.above).cells:=by rw[<-Hh];exact cut_all (by omega)
  rw[cda];refine As.fr 1770887431076116955457 (α:=Nat) (fun k=>s.paths.length-k) (fun k=>[(71,.d (.int .i64 k))]) (fun k=>P0++[zB,tB id name (.lsl (P0.length+2) 2 0 ((EB s).length+k)),.row false (B8 (D1 s k))]) (fun k=>k<=s.paths.length) 0 (AdB _) ?_ ?_
  ·first
   | exact C8.pre [some P0.length,some (P0.length+1),some (P0.length+5)] h.self (by simp) (by simp) (by simp(disch:=omega) [sA,kZ,SW,AW,AQ,A1,A3,AbH,AbM,D1,EB,hf,B8,cut,CO,Pz,Hh]) (by simp(disch:=omega) [HW,BW,SW,AW,AQ,A1,A3,AR,AbH,AbM,D1,EB,hf,B8,cut,CO,Pz,Hh])
  intro k hkk;simp only[Cr,Adg,Adh,reduceIte];rcases AdA k s.paths.length with hlt | hge
  ·have gk:=strs_getD hlt;have ck:=Jz s k hkk;have cdl:=BO (D1 s k);have csu:=OL s k hlt;have tcl:(EB s).length<=1:=(by unfold EB;split<;>simp)
   have cce:B8 (D1 s (k+1))=B8 (D1 s k)++[.str (bs (s.paths.getD k [])),.sl s.rows.length false (Bz (Dq s (s.paths.getD k []) s.rows.length))]:=(by rw[csu,OU,SJ];simp[B8,E6]);generalize hpk:s.paths.getD k []=pk at *;generalize htc:(EB s).length=tc at *;simp(disch:=(try simp only[Ad]);omega)only[Ag,q0,q1,q2,q3,al,sl,gk,AG,↓Ac,Ae,↓reduceIte,↓reduceDIte,↓Qe,Qu,Qv,Qw,Qx,Qy,Qz,QA,QB,QC,QD,QE,QF,QG,QH,QI,QK];refine As.fr 3630909529516398463705409 (α:=Nat) (fun i=>s.rows.length-i) (fun i=>[(82,.d (.int .i64 i))]) (fun i=>P0++[zB,tB id name (.lsl (P0.length+2) 2 0 (tc+k)),.row false (B8 (D1 s k)),.box [.d (S pk),.lsl (P0.length+4) 2 0 i],.row false (Bz (Dq s pk i))]) (fun i=>i<=s.rows.length) 0 (AdB _) ?_ ?_
   ·first
    | exact C8.pre [some P0.length,some (P0.length+1),some (P0.length+2),some (P0.length+3),none] h.self (by simp) (by simp) (by simp(disch:=omega) [sA,kZ,SW,AW,AQ,A1,A3,AbH,AbM,Dq,Bz]) (by simp(disch:=omega) [HW,BW,SW,AW,AQ,A1,A3,AR,AbH,AbM,Dq,Bz])
   intro i hii;simp only[Cr,Adg,Adh,reduceIte];rcases AdA i s.rows.length with hit | hig
   ·have q3':=q3;rw[KD,if_neg (by omega)] at q3';have rl:((AdO s.rows.length).map fun i=>AV.mp (4+i)).length=s.rows.length:=(by simp)
    have rg:((AdO s.rows.length).map fun i=>AV.mp (4+i)).getD i .undef=.mp (4+i):=(by rw[AbT,AdG,AdH hit];rfl);generalize ((AdO s.rows.length).map fun i=>AV.mp (4+i))=rb at *;obtain ⟨m,m1,m2,m3⟩:=h.cm i hit;have kr:=m2.ok;have cl:=JA s pk i hii;have cel:=BP (Dq s pk i);have csc:=OP s pk i hit;obtain ⟨cf,hcf⟩:=C7 [P0.length+3,P0.length+4,P0.length+5,P0.length+6,P0.length+7] (by simp);have c0:=hcf 0 _ rfl;have c1:=hcf 1 _ rfl;have c2:=hcf 2 _ rfl;have c3:=hcf 3 _ rfl;have c4:=hcf 4 _ rfl;cases hc:s.rows[i] pk with
    | none =>
     have v2:Dh (.agg [.bool false,.str ByteArray.empty]) m (S pk) true=.tup [.agg [.bool false,.str ByteArray.empty],.bool false]:=(by rw[CQ,m3,hc];rfl);have cge:Bz (Dq s pk (i+1))=Bz (Dq s pk i)++[.bool true,.str ByteArray.empty]:=(by rw[csc,FR];unfold Hj;rw[hc];rfl);simp(disch:=(try simp only[Ad]);omega)only[Ag,q0,q1,q2,q3',m1,kr,rl,rg,v2,al,sl,cel,cl,AG,↓Ac,Ae,↓reduceIte,↓reduceDIte,↓Qe,Qu,Qv,Qw,Qx,Qy,Qz,QA,QB,QC,QD,QE,QF,QG,QH,QI,QK];first
     | exact ⟨by simp[cut],by simp[cut],i+1,hit,by simp only;omega,C8.pre [some P0.length,some (P0.length+1),some (P0.length+2),some (P0.length+3),some (P0.length+7)] h.self (by simp) (by simp) (by simp(disch:=omega) [sA,kZ,SW,AW,AQ,A1,A3,AbH,AbM,cge,cut]) (by simp(disch:=omega) [HW,BW,SW,AW,AQ,A1,A3,AR,AbH,AbM,cge,cut])⟩
     | exact ⟨by simp[cut],i+1,hit,by simp only;omega,C8.pre [some P0.length,some (P0.length+1),some (P0.length+2),some (P0.length+3),some (P0.length+7)] h.self (by simp) (by simp) (by simp(disch:=omega) [sA,kZ,SW,AW,AQ,A1,A3,AbH,AbM,cge,cut]) (by simp(disch:=omega) [HW,BW,SW,AW,AQ,A1,A3,AR,AbH,AbM,cge,cut])⟩
    | some c =>
     have v2:Dh (.agg [.bool false,.str ByteArray.empty]) m (S pk) true=.tup [.agg (GI c),.bool true]:=(by rw[CQ,m3,hc];rfl);have cge:Bz (Dq s pk (i+1))=Bz (Dq s pk i)++[.bool c.2,.str (bs c.1)]:=(by rw[csc,FR];unfold Hj;rw[hc];rfl);obtain ⟨c1',c2'⟩:=c;cases c2'
     ·simp(disch:=(try simp only[Ad]);omega)only[Ag,q0,q1,q2,q3',m1,kr,rl,rg,v2,al,sl,cel,cl,AG,↓Ac,Ae,↓reduceIte,↓reduceDIte,↓Qe,Qu,Qv,Qw,Qx,Qy,Qz,QA,QB,QC,QD,QE,QF,QG,QH,QI,QK];first
      | exact ⟨by simp[cut],i+1,hit,by simp only;omega,C8.pre [some P0.length,some (P0.length+1),some (P0.length+2),some (P0.length+3),some (P0.length+7)] h.self (by simp) (by simp) (by simp(disch:=omega) [sA,kZ,SW,AW,AQ,A1,A3,AbH,AbM,cge,cut]) (by simp(disch:=omega) [HW,BW,SW,AW,AQ,A1,A3,AR,AbH,AbM,cge,cut])⟩
     simp(disch:=(try simp only[Ad]);omega)only[Ag,q0,q1,q2,q3',m1,kr,rl,rg,v2,al,sl,cel,cl,AG,↓Ac,Ae,↓reduceIte,↓reduceDIte,↓Qe,Qu,Qv,Qw,Qx,Qy,Qz,QA,QB,QC,QD,QE,QF,QG,QH,QI,QK];first
     | exact ⟨by simp[cut],i+1,hit,by simp only;omega,C8.pre [some P0.length,some (P0.length+1),some (P0.length+2),some (P0.length+3),some (P0.length+7)] h.self (by simp) (by simp) (by simp(disch:=omega) [sA,kZ,SW,AW,AQ,A1,A3,AbH,AbM,cge,cut]) (by simp(disch:=omega) [HW,BW,SW,AW,AQ,A1,A3,AR,AbH,AbM,cge,cut])⟩
   obtain rfl:i=s.rows.length:=by omega
   have cl:=JA s pk s.rows.length (AbS _);have cel:=BP (Dq s pk s.rows.length);have ccu:cut (Bz (Dq s pk s.rows.length)) 0 (s.rows.length*2)=Bz (Dq s pk s.rows.length):=cut_all (by omega);simp(disch:=(try simp only[Ad]);omega)only[Ag,q0,q1,q2,q3,al,sl,cel,cl,cdl,ck,ccu,AG,↓Ac,Ae,↓reduceIte,↓reduceDIte,↓Qe,Qu,Qv,Qw,Qx,Qy,Qz,QA,QB,QC,QD,QE,QF,QG,QH,QI,QK];first
   | exact ⟨by simp[cut],k+1,hlt,by simp only;omega,C8.pre [some P0.length,some (P0.length+1),some (P0.length+6)] h.self (by simp) (by simp) (by simp(disch:=omega) [sA,kZ,SW,AW,AQ,A1,A3,AbH,AbM,cce,cut,AdE]) (by simp(disch:=omega) [HW,BW,SW,AW,AQ,A1,A3,AR,AbH,AbM,cce,cut,AdE])⟩
   | exact ⟨k+1,hlt,by simp only;omega,C8.pre [some P0.length,some (P0.length+1),some (P0.length+6)] h.self (by simp) (by simp) (by simp(disch:=omega) [sA,kZ,SW,AW,AQ,A1,A3,AbH,AbM,cce,AdE]) (by simp(disch:=omega) [HW,BW,SW,AW,AQ,A1,A3,AR,AbH,AbM,cce,AdE])⟩
  obtain rfl:k=s.paths.length:=by omega
  have ck:=Jz s s.paths.length (AbS _);have cdl:=BO (D1 s s.paths.length);have tl:(Fy s id name).cols.length=(EB s).length+s.paths.length:=by simp[Fy]
  have cpt:D1 s s.paths.length=(Fy s id name).cols:=SF s;have ctt:cut (B8 (D1 s s.paths.length)) 0 (((EB s).length+s.paths.length)*2)=B8 (Fy s id name).cols:=by rw[<-cpt];exact cut_all (by omega)
  simp(disch:=(try simp only[Ad]);omega)only[Ag,q0,q1,q2,q3,al,sl,ctt,AG,↓Ac,Ae,↓reduceIte,↓reduceDIte,↓Qe,Qu,Qv,Qw,Qx,Qy,Qz,QA,QB,QC,QD,QE,QF,QG,QH,QI,QK];refine Ab.frozenE (I2 hT (Fy s id name) false (UN ⟨s1,s2,s3,s4,s5,s6⟩ hp id hn) i1 i2) (by rw[<-tl];rfl) ?_;rw[cpt] at *;rw[<-tl];simp(disch:=(try simp only[Ad]);omega)only[Ag,q0,q1,q2,q3,al,sl,ctt,frz,AG,↓Ac,Ae,↓reduceIte,↓reduceDIte,↓Qe,Qu,Qv,Qw,Qx,Qy,Qz,QA,QB,QC,QD,QE,QF,QG,QH,QI,QK];obtain ⟨cf,hcf⟩:=C7 [P0.length,P0.length+1,P0.length+2] (by simp);have c0:=hcf 0 _ rfl;have c1:=hcf 1 _ rfl;have c2:=hcf 2 _ rfl;refine ⟨AD cf (by simp(disch:=omega)only[Bf,AP,AO,Ba,A9,and_self]) (by simp only[Ac6,Adz,c0,c1,c2];rfl),?_⟩;subst hr;refine Ig.pre2 (d:=.tup [WP (Fy s id name) false,.bool (Oa (Fy s id name))]) h.self ?_ (by simp[AJ,idsL]) (by rfl);first
  | (simp[sealA,sealL,Bt,Ao,Az,AR,BU,Cd,Adc,AbP,Ac8,AdU,Aep,Aeh,Aei];exact ⟨rfl,rfl,cut_all (by rw[BO];omega)⟩)
def RX {f:Nat->Nat} {r r':List Nat} (h:C1 r=false) (hc:∀ b∈r,f b∈r') (b:Nat) (hb:rd r' (f b)=false):rd r b=false:=by simp only[rd,Bool.or_eq_false_iff,Aec,decide_eq_false_iff_not] at hb ⊢;exact ⟨fun hm=>hb.1 (hc b hm),h⟩
def Lr (f:Nat->Nat):TR->TR->Prop
 | [],[]=>True
 | t::r,u::v=>(C1 t.1=false/\(∀ b∈t.1,f b∈u.1)/\∀ b∈t.2,f b∈u.2)/\Lr f r v
 | _,_=>False
def Lr.get {f:Nat->Nat}:∀ {tr ur:TR},Lr f tr ur->∀ (i:Nat) t,tr[i]?=some t->∃ u,ur[i]?=some u/\C1 t.1=false/\(∀ b∈t.1,f b∈u.1)/\∀ b∈t.2,f b∈u.2
 | [],[],_,i,t,h=>by simp at h
 | x::r,y::v,hc,i,t,h=>by
   cases i with
   | zero=>simp at h;subst h;exact ⟨y,rfl,hc.1⟩
   | succ i=>simp at h;simpa using Lr.get hc.2 i t h
 | [],_::_,hc,_,_,_=>by simp[Lr] at hc
 | _::_,[],hc,_,_,_=>by simp[Lr] at hc
def PR {ops:Array Oper} {x y:Oper} {f:Nat->Nat} {tx ty ux uy:List Nat × List Nat} (h1:C1 tx.1=false) (h3:C1 ty.1=false)
  (c1:∀ b∈tx.1,f b∈ux.1) (c2:∀ b∈tx.2,f b∈ux.2) (c3:∀ b∈ty.1,f b∈uy.1) (c4:∀ b∈ty.2,f b∈uy.2)
  (h:Ep ops x y ux uy=true):Ep ops x y tx ty=true:=by
 simp only[Ep,AbV,AdX,AdV] at h ⊢;obtain ⟨⟨⟨⟨k1,k2⟩,k3⟩,k4⟩,k5⟩:=h;refine ⟨⟨⟨⟨k1,k2⟩,k3⟩,fun b hb=>⟨RX h3 c3 b (k4 (f b) (c2 b hb)).1,?_⟩⟩,fun b hb=>RX h1 c1 b (k5 (f b) (c4 b hb))⟩;have:=(k4 (f b) (c2 b hb)).2;simp only[Aec,decide_eq_false_iff_not] at this ⊢;exact fun hm=>this (c4 b hm)
def DI {ops:Array Oper} {tr:TR} (f:Nat->Nat) (ur:TR) (hc:Lr f tr ur) (h:DJ ops ur=true):DJ ops tr=true:=by
 have gz:∀ {i:Nat} {o:Oper} {t:List Nat × List Nat},(ops.toList.zip tr).zipIdx[i]?=some ((o,t),i)->∃ u,(ops.toList.zip ur).zipIdx[i]?=some ((o,u),i)/\C1 t.1=false/\(∀ b∈t.1,f b∈u.1)/\∀ b∈t.2,f b∈u.2:=by
  intro i o t hi;rw[AdP] at hi;cases hz:(ops.toList.zip tr)[i]? with
  | none=>simp[hz] at hi
  | some p =>simp[hz] at hi;subst hi;rw[Ad4] at hz;obtain ⟨z1,z2⟩:=hz;obtain ⟨u,u1,u2⟩:=hc.get i _ z2;refine ⟨u,?_,u2⟩;have e:(ops.toList.zip ur)[i]?=some (o,u):=Ad4.2 ⟨z1,u1⟩;rw[AdP,e];simp
 have idx:∀ {l:List (Oper × (List Nat × List Nat))} {q:(Oper × (List Nat × List Nat)) × Nat},q∈l.zipIdx->l.zipIdx[q.2]?=some (q.1,q.2):=by intro l q hq;obtain ⟨x,j⟩:=q;rw[List.mem_zipIdx_iff_getElem?] at hq;rw[AdP,hq];simp
 simp only[DJ,AdX] at h ⊢;rintro ⟨⟨o,t⟩,j⟩ hm;have hj:=idx hm;obtain ⟨u,u1,u2,u3,u4⟩:=gz hj;have hh:=h ((o,u),j) (Aed u1);simp only[AbV,AdX,decide_eq_true_eq,Aea] at hh ⊢;refine ⟨hh.1,?_⟩;rintro ⟨⟨o',t'⟩,i⟩ hi;have hi2:=List.mem_take_iff_getElem.1 hi;obtain ⟨k,hk,ek⟩:=hi2;have hk2:(ops.toList.zip tr).zipIdx[k]?=some ((o',t'),i):=by rw[AbR (by omega),ek]
 have hik:i=k:=by
  rw[AdP] at hk2;cases hz:(ops.toList.zip tr)[k]? with
  | none=>simp[hz] at hk2
  | some p=>simp[hz] at hk2;exact hk2.2.symm
 subst hik;obtain ⟨v,v1,v2,v3,v4⟩:=gz hk2;rcases hh.2 ((o',v),i) (by refine Aed (i:=i) ?_;rw[List.getElem?_take,if_pos (by omega)];exact v1) with h1 | h1
 ·exact .inl h1
 exact .inr (PR v2 u2 v3 v4 u3 u4 h1)
section
variable {P:Program} {M:B0} {ops:Array Oper} {rest:List Oper} {s:List AV} {H Hn:List Aa} {tr:TR} {dst:Option Nat} {K:RK} {v:AV}
def De (base k:Nat):outN [] base k=base+k:=by simp[outN]
def Nn:∀ (a b:List (Nat × Aa)) (H:List Aa),applyW H (a++b)=applyW (applyW H a) b
 | [],_,_=>rfl
 | (i,x)::r,b,H=>by simp only[AdK,applyW];exact Nn r b _
def UH:∀ (a b:List (Nat × Aa)) (n:Nat),(∀ p∈a,p.1<n)->wOK n (a++b)=wOK n b
 | [],_,_,_=>rfl
 | (i,x)::r,b,n,h=>by simp only[AdK,wOK];rw[if_pos (h (i,x) (by simp))];exact UH r b n fun p hp=>h p (AbZ _ hp)
def O6:∀ (a:List (Nat × Aa)) (H:List Aa),(∀ p∈a,p.1<H.length)->(applyW H a).length=H.length
 | [],_,_=>rfl
 | (i,x)::r,H,h=>by simp only[applyW];rw[if_pos (h (i,x) (by simp)),O6 r _ fun p hp=>by rw[Adc];exact h p (AbZ _ hp),Adc]
def U8 (f:Nat->Nat) (base:Nat):∀ (l:List Aa) (k:Nat),wOK (base+k) (outW [] base k l)=true
 | [],_=>rfl
 | b::r,k=>by simp only[outW,wOK,De];rw[if_neg (by omega)];simp only[BEq.rfl,Aeg];exact U8 f base r (k+1)
def Mt (base:Nat):∀ (l:List Aa) (k:Nat) (H:List Aa),H.length=base+k->applyW H (outW [] base k l)=H++l.map (renB (outN [] base))
 | [],_,H,_=>by simp[outW,applyW]
 | b::r,k,H,h=>by simp only[outW,applyW,De];rw[if_neg (by omega),Mt base r (k+1) _ (by simp;omega)];simp
def Ab.newgo {f:FuncId} {ars ars':List AV} {ids:List Nat} {H1:List Aa} (h:Ctr P G f ars' [] v Hn) (ea:ars=ars') (hn:Hn≠[]) (hw:∀ p∈frz H ids,p.1<H.length) (e1:applyW H (frz H ids)=H1)
  (hk:∀ t:List Nat × List Nat,El P G M ops rest (putA s dst (renA (outN [] H.length) v)) (H1++Hn.map (renB (outN [] H.length))) (tr++[t]) K):Ab P G H f ars [] ids [] (OpC P G M ops rest s H tr dst K):=by
 subst ea;refine .by h rfl rfl (by simp) ?_;have hne:Hn.isEmpty=false:=by cases Hn with | nil=>exact absurd rfl hn | cons=>rfl
 have e2:applyW H (frz H ids++outW [] H.length 0 Hn)=H1++Hn.map (renB (outN [] H.length)):=by rw[Nn,e1,Mt H.length Hn 0 H1 (by rw[<-e1,O6 _ _ hw];rfl)]
 unfold callEff;rw[hne,Bool.and_false,Bool.false_and,if_neg (by simp),OpC_mk,e2,UH _ _ _ hw];exact ⟨U8 id H.length Hn 0,hk _⟩
end
def FG (f:Nat->Nat) (b off:Nat):renA f (.ptr b off)=.ptr (f b) off:=by simp[renA]
def Oy {β γ:Type} (g:β->γ) (k:D):∀ m:List (D × β),BG k (m.map fun p=>(p.1,g p.2))=(BG k m).map fun p=>(p.1,g p.2)
 | []=>rfl
 | x::r=>by
   rw[Ac6,BG,BG];by_cases h:Ci k x.1=true;·rw[if_pos h,if_pos h];rfl
   rw[if_neg h,if_neg h,Oy g k r,Aem,Aem];rfl
def W2 {β γ:Type} (g:β->γ) (k:D) (m:List (D × β)):Fw (m.map fun p=>(p.1,g p.2)) k=(Fw m k).map g:=by unfold Fw;rw[Oy];cases BG k m<;>rfl
def BB.shift {L:Rl->Nat} {s:Ly} {H:List Aa} (h:BB L s H) (E:List Aa):BB (fun a=>outN [] E.length (L a)) s (E++H.map (renB (outN [] E.length))):=by
 have get:∀ {i:Nat} {b:Aa},H[i]?=some b->(E++H.map (renB (outN [] E.length)))[outN [] E.length i]?=some (renB (outN [] E.length) b):=by intro i b e;rw[De,Adu (by omega),AdU,AdG,e];rfl
 refine ⟨fun a b ha hb e=>h.inj a b ha hb (by simp only[De] at e;omega),fun a ha=>?_,?_,?_,?_,?_,?_,?_,?_,?_,?_,?_⟩;·have:=h.lt a ha;simp only[De,AbP,AdC];omega
 ·rw[get h.box];simp[renB,renL,renA]
 ·obtain ⟨m,m1,m2,m3⟩:=h.seen;exact ⟨m,by rw[get m1];simp[renB],m2,m3⟩
 ·rw[get h.above];simp[renB]
 ·rw[get h.paths];simp[renB]
 ·rw[get h.rows];unfold Je;split;·simp[renB]
  simp only[renB,CX,List.map_map];congr 3
 ·rw[get h.lists];simp[renB]
 ·obtain ⟨m,m1,m2,m3⟩:=h.items;refine ⟨m.map fun p=>(p.1,renA (outN [] E.length) p.2),by rw[get m1];simp[renB],fun e he=>?_,fun p=>?_⟩;·obtain ⟨x,hx,rfl⟩:=AdD.1 he;exact m2 x hx
  rw[W2,m3];split;·rfl
  simp[renA]
 ·obtain ⟨m,m1,m2,m3⟩:=h.sev;exact ⟨m,by rw[get m1];simp[renB],m2,m3⟩
 ·intro i hi;obtain ⟨m,m1,m2,m3⟩:=h.row i hi;exact ⟨m,by rw[get m1];simp[renB],m2,m3⟩
 intro p hp;rw[get (h.item p hp)];simp[renB]
def NoX.ren {H:List Aa} (h:NoX H) (f:Nat->Nat):NoX (H.map (renB f)):=fun b hb J t e=>by obtain ⟨x,hx,rfl⟩:=AdD.1 hb;cases x<;>simp[renB] at e
end
section
open Go Go.Proofs Go.Abs
variable {G:Ah}
def Ir (L:Rl->Nat) (n:Nat):List Nat:=[L (.n 0),L (.n 2),L (.n 3),L (.n 4)]++(AdO n).map fun i=>L (.n (8+i))
def Zu (s:Ly) (e:Nat->Nat->Value):Aa:=.box [.d (.bool s.further),.lsl 1 1 0 s.above.length,.lsl 2 1 0 s.paths.length,.lsl 3 1 0 s.rows.length,.d (.val (e 0 4)),.d (.val (e 0 5)),.d (.val (e 0 6))]
def Xe (L:Rl->Nat) (n:Nat) (H:List Aa):List Aa:=(AdO n).map fun i=>(H[L (.n (8+i))]?).getD .dead
def To (L:Rl->Nat) (s:Ly) (H:List Aa) (e:Nat->Nat->Value):List Aa:=[Zu s e,.row false (Au .i64 s.above),.row false (strs s.paths),KD s.rows.length]++Xe L s.rows.length H
def RJ (L:Rl->Nat) (n:Nat):(Ir L n).length=4+n:=by simp[Ir];omega
def Xd (L:Rl->Nat) (n:Nat) (H:List Aa):(Xe L n H).length=n:=by simp[Xe]
def RI (L:Rl->Nat) (s:Ly) (H:List Aa) (e:Nat->Nat->Value):(To L s H e).length=4+s.rows.length:=by simp only[To,AbP,Xd,AbO,AbQ]
def UM (L:Rl->Nat) {n i:Nat} (h:i<n):(Ir L n)[4+i]?=some (L (.n (8+i))):=by unfold Ir;rw[Adu (by simp only[AbO,AbQ];omega)];simp only[AbO,AbQ];rw[show 4+i-(0+1+1+1+1)=i by omega,AdG,AdH h,Ael]
def Zt {L:Rl->Nat} {n i:Nat} {H:List Aa} {b:Aa} (h:i<n) (e:H[L (.n (8+i))]?=some b):(Xe L n H)[i]?=some b:=by unfold Xe;rw[AdG,AdH h,Ael,e];rfl
def UL {L:Rl->Nat} {s:Ly} {H:List Aa} {e:Nat->Nat->Value} {i:Nat} {b:Aa} (h:i<s.rows.length) (q:H[L (.n (8+i))]?=some b):(To L s H e)[4+i]?=some b:=by unfold To;rw[Adu (by simp only[AbO,AbQ];omega)];simp only[AbO,AbQ];rw[show 4+i-(0+1+1+1+1)=i by omega];exact Zt h q
def RH {L:Rl->Nat} {s:Ly} {H:List Aa} (h:BB L s H) {e:Nat->Nat->Value} {b:Aa} (hb:b∈To L s H e) :
  b=Zu s e\/b=.row false (Au .i64 s.above)\/b=.row false (strs s.paths)\/b=KD s.rows.length\/∃ m:List (D × D),b=.map m:=by
 rcases Ady.1 hb with hb | hb
 ·simp only[Adt,AdL,or_false] at hb;rcases hb with hb | hb | hb | hb
  ·exact .inl hb
  ·exact .inr (.inl hb)
  ·exact .inr (.inr (.inl hb))
  exact .inr (.inr (.inr (.inl hb)))
 obtain ⟨i,hi,rfl⟩:=AdD.1 hb;obtain ⟨m,m1,_⟩:=h.row i (AdQ.1 hi);exact .inr (.inr (.inr (.inr ⟨m,by rw[m1];rfl⟩)))
def US (fs:List (Option Nat)) (N:Nat):∀ (l:List Nat),(∀ i∈l,4+i<N)->SW (idf N++fs) (l.map fun i=>.mp (4+i)) (l.map fun i=>.mp (4+i))
 | [],_=>trivial
 | i::r,h=>by refine ⟨?_,US fs N r fun j hj=>h j (AbZ _ hj)⟩;simp only[AW,AQ (h i (by simp))]
def tblH {L:Rl->Nat} {s:Ly} {H:List Aa} (h:BB L s H) (e:Nat->Nat->Value):TblH s (To L s H e):=by
 have hl:=RI L s H e;refine ⟨hl,⟨_,_,_,rfl⟩,rfl,rfl,rfl,fun i hi=>?_,fun b hb fs=>?_,fun b hb J t q=>?_⟩;·obtain ⟨m,m1,m2,m3⟩:=h.row i hi;exact ⟨m,UL hi m1,m2,m3⟩
 ·rw[hl];rcases RH h hb with rfl | rfl | rfl | rfl | ⟨m,rfl⟩
  ·have k1:=AQ (n:=4+s.rows.length) (k:=1) (fs:=fs) (by omega);have k2:=AQ (n:=4+s.rows.length) (k:=2) (fs:=fs) (by omega);have k3:=AQ (n:=4+s.rows.length) (k:=3) (fs:=fs) (by omega);simp[Zu,BW,SW,AW,k1,k2,k3]
  ·simp[BW]
  ·simp[BW]
  ·unfold KD;split;·simp[BW]
   simp only[BW];exact US fs _ _ fun i hi=>by have:=AdQ.1 hi;omega
  simp[BW]
 rcases RH h hb with rfl | rfl | rfl | rfl | ⟨m,rfl⟩
 ·simp[Zu] at q
 ·simp at q
 ·simp at q
 ·unfold KD at q;split at q<;>simp at q
 simp at q
def Tp {L:Rl->Nat} {s:Ly} {H:List Aa} (h:BB L s H):(Ir L s.rows.length).Nodup:=by
 have ok:∀ k,k<8+s.rows.length->Bm s (.n k):=fun k hk=>hk;have ne:∀ {i j:Nat},i<8+s.rows.length->j<8+s.rows.length->i≠j->¬L (.n i)=L (.n j):=fun hi hj hij=>h.ne (ok _ hi) (ok _ hj) (by simpa using hij);unfold Ir;refine Aek.2 ⟨?_,?_,?_⟩
 ·simp only[AdZ,Adt,AdL,or_false,not_or,AdW,and_true,not_false_eq_true];exact ⟨⟨ne (by omega) (by omega) (by decide),ne (by omega) (by omega) (by decide),ne (by omega) (by omega) (by decide)⟩,⟨ne (by omega) (by omega) (by decide),ne (by omega) (by omega) (by decide)⟩,ne (by omega) (by omega) (by decide)⟩
 ·refine List.pairwise_map.2 (List.Pairwise.imp_of_mem (fun {a b} ha hb hab=>?_) List.nodup_range);have:=AdQ.1 ha;have:=AdQ.1 hb;exact ne (by omega) (by omega) (by omega)
 intro a ha b hb;obtain ⟨i,hi,rfl⟩:=AdD.1 hb;have hi:=AdQ.1 hi;simp only[Adt,AdL,or_false] at ha;rcases ha with rfl | rfl | rfl | rfl
 ·exact ne (by omega) (by omega) (by omega)
 ·exact ne (by omega) (by omega) (by omega)
 ·exact ne (by omega) (by omega) (by omega)
 exact ne (by omega) (by omega) (by omega)
def EK (hT:HT G) (hP:HP G) {L:Rl->Nat} {s:Ly} {H:List Aa} (h:BB L s H) (hs:LyT s) (id:Int) (i1:-9223372036854775808<=id) (i2:id<=9223372036854775807) (name:List UInt8) (hn:name.length<=1000000000) {k:Eff->Prop}
  (hk:k ⟨.d (.tup [WP (Fz s id name).1 false,.bool (Fz s id name).2]),[],Ir L s.rows.length⟩):Aq TP G H 56 [.ptr (L (.n 0)) 0,.d (.int .i64 id),.d (S name)] k:=by
 refine Aq.view (ars:=[.ptr 0 0,.d (.int .i64 id),.d (S name)]) (Ir L s.rows.length) (To L s H) (Tp h) (fun e=>by rw[RI,RJ]) (fun e j b hj=>?_) ?_ (fun e=>VK hT hP s hs id i1 i2 name hn (tblH h e)) hk
 ·have hj2:j<4+s.rows.length:=by have:=(Ac7.1 hj).1;rwa[RJ] at this
  rcases AdA j 4 with hlt | hge
  ·rcases (by omega:j=0\/j=1\/j=2\/j=3) with rfl | rfl | rfl | rfl
   ·have:L (.n 0)=b:=by simpa[Ir] using hj
    subst this;refine ⟨_,_,h.box,rfl,?_⟩;refine ⟨rfl,fun i x y hx hy=>?_⟩;have hi:i<7:=(by have:=(Ac7.1 hx).1;simpa using this)
    rcases (by omega:i=0\/i=1\/i=2\/i=3\/i=4\/i=5\/i=6) with rfl | rfl | rfl | rfl | rfl | rfl | rfl<;>simp at hx hy<;>subst hx<;>subst hy
    ·exact .inr (.inl ⟨_,rfl,rfl⟩)
    ·exact .inr (.inr (.inl ⟨_,_,_,_,_,rfl,rfl,rfl⟩))
    ·exact .inr (.inr (.inl ⟨_,_,_,_,_,rfl,rfl,rfl⟩))
    ·exact .inr (.inr (.inl ⟨_,_,_,_,_,rfl,rfl,rfl⟩))
    ·exact .inl rfl
    ·exact .inl rfl
    exact .inl rfl
   ·have:L (.n 2)=b:=by simpa[Ir] using hj
    subst this;exact ⟨_,_,h.above,rfl,rfl,rfl⟩
   ·have:L (.n 3)=b:=by simpa[Ir] using hj
    subst this;exact ⟨_,_,h.paths,rfl,rfl,rfl⟩
   have:L (.n 4)=b:=by simpa[Ir] using hj
   subst this;refine ⟨_,_,h.rows,rfl,?_⟩;unfold Je KD;split;·exact ⟨rfl,rfl⟩
   refine ⟨by simp,fun i x y hx hy=>?_⟩;have hi:i<s.rows.length:=(by have:=(Ac7.1 hx).1;simpa using this)
   rw[AdG,AdH hi] at hx hy;simp at hx hy;subst hx;subst hy;exact .inr (.inr (.inr ⟨_,_,rfl,rfl,UM L hi⟩))
  obtain ⟨i,rfl⟩:∃ i,j=4+i:=⟨j-4,by omega⟩;have hi:i<s.rows.length:=by omega
  rw[UM L hi] at hj;cases hj;obtain ⟨m,m1,_⟩:=h.row i hi;exact ⟨_,_,m1,UL hi m1,rfl⟩
 exact ⟨.inr ⟨_,_,_,rfl,rfl,rfl⟩,.inl ⟨_,rfl,rfl,.inl rfl⟩,.inl ⟨_,rfl,rfl,.inl rfl⟩,trivial⟩
def Xg (L:Rl->Nat) (n:Nat):C1 (Ir L n)=false:=rfl
def Xf {L:Rl->Nat} {s:Ly} {H:List Aa} (h:BB L s H) {b:Nat} (hb:b∈Ir L s.rows.length):b<H.length/\∃ k,Bm s (.n k)/\b=L (.n k):=by
 have ok:∀ k,k<8+s.rows.length->Bm s (.n k):=fun k hk=>hk;rcases Ady.1 hb with hb | hb
 ·simp only[Adt,AdL,or_false] at hb;rcases hb with rfl | rfl | rfl | rfl
  ·exact ⟨h.lt _ (ok 0 (by omega)),0,ok 0 (by omega),rfl⟩
  ·exact ⟨h.lt _ (ok 2 (by omega)),2,ok 2 (by omega),rfl⟩
  ·exact ⟨h.lt _ (ok 3 (by omega)),3,ok 3 (by omega),rfl⟩
  exact ⟨h.lt _ (ok 4 (by omega)),4,ok 4 (by omega),rfl⟩
 obtain ⟨i,hi,rfl⟩:=AdD.1 hb;have hi:=AdQ.1 hi;exact ⟨h.lt _ (ok _ (by omega)),8+i,ok _ (by omega),rfl⟩
abbrev NI (t:Tab):List D:=[.int .i64 t.id,S t.name,Th t.cols false]
def C9 (l:List Tab):List D:=l.flatMap NI
def EA:∀ l:List Tab,(C9 l).length=3*l.length
 | []=>rfl
 | o::l=>by have ih:=EA l;simp only[C9,List.flatMap_cons,AbP,AbO,AbQ] at ih ⊢;omega
def FSa:Nat->Ly->Int->List UInt8->List Tab->List Tab × Bool
 | 0,_,_,_,ts=>(ts,true)
 | n+1,s,id,name,ts =>
  if (Fz s (id+ts.length) name).2=true/\ts.length+1<=1024 then
   s.lists.foldl (fun a p=>if a.2=true then FSa n (AL true (s.it p)) id (name++[46]++p) a.1 else a) (ts++[(Fz s (id+ts.length) name).1],true)
  else (ts++[(Fz s (id+ts.length) name).1],false)
def Dk (n:Nat) (s:Ly) (id:Int) (name:List UInt8) (ts:List Tab) (k:Nat):List Tab × Bool :=
 (s.lists.take k).foldl (fun a p=>if a.2=true then FSa n (AL true (s.it p)) id (name++[46]++p) a.1 else a) (ts,true)
def Km (n:Nat) (s:Ly) (id:Int) (name:List UInt8) (ts:List Tab) {k:Nat} (h:k<s.lists.length):Dk n s id name ts (k+1) =
  if (Dk n s id name ts k).2=true then FSa n (AL true (s.it (s.lists.getD k []))) id (name++[46]++s.lists.getD k []) (Dk n s id name ts k).1 else Dk n s id name ts k:=by
 unfold Dk;rw[AdN,AbR h,AbT,AbR h];simp only[AdT,List.foldl_append,List.foldl_cons,List.foldl_nil,AdI]
def Y1 (n:Nat) (s:Ly) (id:Int) (name:List UInt8) (ts:List Tab):Dk n s id name ts s.lists.length=s.lists.foldl (fun a p=>if a.2=true then FSa n (AL true (s.it p)) id (name++[46]++p) a.1 else a) (ts,true):=by unfold Dk;rw[AdJ]
def Vu (n:Nat) (s:Ly) (id:Int) (name:List UInt8) (ts:List Tab):FSa (n+1) s id name ts =
  if (Fz s (id+ts.length) name).2=true/\ts.length+1<=1024 then Dk n s id name (ts++[(Fz s (id+ts.length) name).1]) s.lists.length else (ts++[(Fz s (id+ts.length) name).1],false):=by
 rw[FSa,Y1]
def S5:∀ (n:Nat) (s:Ly) (id:Int) (name:List UInt8) (ts:List Tab),ts.length<=1024->(FSa n s id name ts).2=true->(FSa n s id name ts).1.length<=1024
 | 0,_,_,_,ts,h,_=>h
 | n+1,s,id,name,ts,h,ht=>by
   rw[Vu] at ht ⊢;by_cases c:(Fz s (id+ts.length) name).2=true/\ts.length+1<=1024
   ·rw[if_pos c] at ht ⊢;have key:∀ k,k<=s.lists.length->(Dk n s id name (ts++[(Fz s (id+ts.length) name).1]) k).2=true->(Dk n s id name (ts++[(Fz s (id+ts.length) name).1]) k).1.length<=1024:=by
     intro k;induction k with
     | zero=>intro _ _;simp[Dk];omega
     | succ k ih =>
      intro hk h2;rw[Km _ _ _ _ _ (by omega)] at h2 ⊢;by_cases e:(Dk n s id name (ts++[(Fz s (id+ts.length) name).1]) k).2=true;·rw[if_pos e] at h2 ⊢;exact S5 n _ _ _ _ (ih (by omega) e) h2
      rw[if_neg e] at h2;exact absurd h2 e
    exact key _ (AbS _) ht
   rw[if_neg c] at ht;cases ht
def Kn (n:Nat) (s:Ly) (id:Int) (name:List UInt8) (ts:List Tab) {k:Nat} (hf:(Dk n s id name ts k).2=false):∀ m,k+m<=s.lists.length->Dk n s id name ts (k+m)=Dk n s id name ts k
 | 0,_=>rfl
 | m+1,h=>by have ih:=Kn n s id name ts hf m (by omega);rw[<-AdE,Km _ _ _ _ _ (by omega),ih,hf,if_neg (by simp)]
def Pa:Nat->Ly->Nat->Prop
 | 0,_,_=>False
 | n+1,s,m=>LyT s/\m<=1000000000/\s.lists.length<=1000000/\s.lists.Nodup/\∀ p∈s.lists,(∀ e∈s.it p,GT e.2)/\CJ (s.it p)<=4000/\Pa n (AL true (s.it p)) (m+1+p.length)
def Kw (j:Option Nat) (n:Nat):AV:=match j with
 | none=>.d (.sl 0 true [])
 | some j=>.lsl j 3 0 n
def Adf (j:Option Nat) (ts:List Tab) (H:List Aa):Prop:=match j with
 | none=>ts=[]
 | some j=>H[j]?=some (.row false (C9 ts))
abbrev flB (id:Int) (j:Option Nat) (n:Nat):Aa:=.box [.d (.int .i64 id),Kw j n]
def MA:B0:=fun k=>Aeq k 4000056 || Aeq k 4000031
def NJ:MA 4000056=true:=rfl
def Gz:MA 4000031=true:=rfl
def DR {k:Nat} (h:¬(k=4000056\/k=4000031)):MA k=false:=by
 cases e:MA k with
 | false=>rfl
 | true =>
  unfold MA at e;rw[Aea] at e;rcases e with e | e
  ·exact absurd (.inl (AdM e)) h
  exact absurd (.inr (AdM e)) h
structure AaC (L:Rl->Nat) (s:Ly) (F:Nat) (j:Option Nat) (id:Int) (ts:List Tab) (H H':List Aa):Prop where
 len:H.length<=H'.length
 nox:NoX H'
 tabs:∃ q,H.length<=q/\H'[F]?=some (flB id (some q) ts.length)/\H'[q]?=some (.row false (C9 ts))
 same:∀ i,i<H.length->i≠F->some i≠j->(∀ p,¬s.it p=[]->i≠L (.i p))->H'[i]?=H[i]?
structure AddA (L:Rl->Nat) (s:Ly) (F:Nat) (j:Option Nat) (id:Int) (name:List UInt8) (ts:List Tab) (H:List Aa):Prop where
 lay:BB L s H
 nox:NoX H
 i1:-1000000000000<=id
 i2:id<=1000000000000
 cap:ts.length<=1024
 fl:H[F]?=some (flB id j ts.length)
 tabs:Adf j ts H
 fj:some F≠j
 ne:∀ a,Bm s a->L a≠F/\some (L a)≠j
def AddC (G:Ah) (n:Nat):Prop:=∀ {L:Rl->Nat} {s:Ly} {F:Nat} {j:Option Nat} {id:Int} {name:List UInt8} {ts:List Tab} {H:List Aa},Pa n s name.length->AddA L s F j id name ts H ->
 ∃ H',Ctr TP G 31 [.ptr F 0,.ptr (L (.n 0)) 0,.d (S name)] H (.d (.bool (FSa n s id name ts).2)) H'/\AaC L s F j id (FSa n s id name ts).1 H H'
def Jr (x:List Aa) (l:List Elm) (i:Nat):List Aa:=if l=[] then x else x.set i (.row true (Bo l))
def Yo (x:List Aa) (l:List Elm) (i:Nat):(Jr x l i).length=x.length:=by unfold Jr;split<;>simp
structure AaD (n:Nat) (L:Rl->Nat) (s:Ly) (F:Nat) (j:Option Nat) (id:Int) (name:List UInt8) (ts:List Tab) (H:List Aa) (k:Nat) (x:List Aa):Prop where
 p:AaC L s F j id (Dk n s id name ts k).1 H x
 rest:∀ q∈s.lists.drop k,¬s.it q=[]->x[L (.i q)]?=some (.row false (Bo (s.it q)))
 cap:(Dk n s id name ts k).2=true->(Dk n s id name ts k).1.length<=1024
def Zj (G:Ah) (n:Nat) (L:Rl->Nat) (s:Ly) (F:Nat) (id:Int) (name:List UInt8) (ts:List Tab) (k:Nat) (x y:List Aa):Prop :=
 ((Dk n s id name ts k).2=false->y=x)/\((Dk n s id name ts k).2=true->∃ H',Ctr TP G 32 [.d (.bool true),.d (ElS (s.it (s.lists.getD k [])) false)] [] (.ptr 2 0) H'/\H'≠[]/\x.length+H'.length<=y.length /\
  Ctr TP G 31 [.ptr F 0,.ptr (outN [] x.length 2) 0,.d (S (name++[46]++s.lists.getD k []))] (Jr x (s.it (s.lists.getD k [])) (L (.i (s.lists.getD k [])))++H'.map (renB (outN [] x.length))) (.d (.bool (Dk n s id name ts (k+1)).2)) y)
def S4 {n:Nat} (IH:AddC G n) {L:Rl->Nat} {s:Ly} {F:Nat} {j:Option Nat} {id:Int} {name:List UInt8} {ts:List Tab} {H:List Aa} (h:BB L s H) (i1:-1000000000000<=id) (i2:id<=1000000000000) (hFl:F<H.length)
  (hr:∀ a,Bm s a->L a≠F/\some (L a)≠j) (hnd:s.lists.Nodup) (hok:∀ p∈s.lists,(∀ e∈s.it p,GT e.2)/\CJ (s.it p)<=4000/\Pa n (AL true (s.it p)) (name.length+1+p.length))
  {k:Nat} (hk:k<s.lists.length) {x:List Aa} (hx:AaD n L s F j id name ts H k x):∃ y,Zj G n L s F id name ts k x y/\AaD n L s F j id name ts H (k+1) y:=by
 have hsucc:=Km n s id name ts hk;obtain ⟨⟨p1,p2,⟨q,q1,q2,q3⟩,p4⟩,hrest,hcap⟩:=hx;have hdr:∀ r,r∈s.lists.drop (k+1)->r∈s.lists.drop k:=fun r hr=>by rw[show s.lists.drop (k+1)=(s.lists.drop k).drop 1 by rw[Aen]] at hr;exact List.mem_of_mem_drop hr
 cases e:(Dk n s id name ts k).2 with
 | false =>rw[e,if_neg (by simp)] at hsucc;refine ⟨x,⟨fun _=>rfl,fun c=>(by rw[e] at c;cases c)⟩,⟨?_,fun r hr=>hrest r (hdr r hr),fun c=>(by rw[hsucc,e] at c;cases c)⟩⟩;rw[hsucc];exact ⟨p1,p2,⟨q,q1,q2,q3⟩,p4⟩
 | true =>
  rw[e,if_pos rfl] at hsucc;have hcap:=hcap e;have hpm:s.lists.getD k []∈s.lists:=E1 hk;have hpd:s.lists.getD k []∈s.lists.drop k:=by rw[AbT,AbR hk,AdI,AdF hk];exact Ad1
  have hpn:∀ r∈s.lists.drop (k+1),r≠s.lists.getD k []:=by intro r hr c;have:=List.Nodup.sublist (List.drop_sublist k s.lists) hnd;rw[AdF hk] at this;rw[AbT,AbR hk] at c;simp at c;exact (AdZ.1 this).1 (c▸hr)
  generalize hp:s.lists.getD k []=p at *;obtain ⟨k1,k2,k3⟩:=hok p hpm;obtain ⟨L',H',g1,g2,g3,g4⟩:=IA (G:=G) true (s.it p) false k1 k2;have hl1:=Yo x (s.it p) (L (.i p));have g5:=g2.shift (Jr x (s.it p) (L (.i p)));rw[hl1] at g5;have hH':0<H'.length:=by have:=g2.lt (.n 0) (by show 0<8+_;omega);omega
  have hne:H'≠[]:=by intro c;rw[c] at hH';simp at hH'
  have nx1:NoX (Jr x (s.it p) (L (.i p))):=by
   unfold Jr;split;·exact p2
   exact p2.set _ (by simp)
  have at1:∀ i,i<x.length->(¬s.it p=[]->i≠L (.i p))->(Jr x (s.it p) (L (.i p))++H'.map (renB (outN [] x.length)))[i]?=x[i]?:=by
   intro i hi hne;rw[List.getElem?_append_left (by omega)];unfold Jr;split;·rfl
   rename_i c;exact List.getElem?_set_ne fun c2=>hne c c2.symm
  have hFx:F<x.length:=by omega
  have hqx:q<x.length:=(Ac7.1 q3).1;obtain ⟨y,y1,⟨y2,y3,⟨q',y4,y5,y6⟩,y7⟩⟩:=IH (L:=fun a=>outN [] x.length (L' a)) (F:=F) (j:=some q) (id:=id) (name:=name++[46]++p) (ts:=(Dk n s id name ts k).1)
   (H:=Jr x (s.it p) (L (.i p))++H'.map (renB (outN [] x.length))) (by
    have:(name++[46]++p).length=name.length+1+p.length:=by simp only[AbP,AbO,AbQ]
    rw[this];exact k3)
   ⟨g5,nx1.app (g3.ren _),i1,i2,hcap,by rw[at1 F hFx fun c=>(hr (.i p) c).1.symm];exact q2,by
     show _=_
     rw[at1 q hqx fun c c2=>by have:=h.lt (.i p) c;omega];exact q3,by simp;intro c;omega,fun a ha=>⟨by rw[De];omega,by rw[De];simp;omega⟩⟩
  have lX:(Jr x (s.it p) (L (.i p))++H'.map (renB (outN [] x.length))).length=x.length+H'.length:=by rw[AbP,hl1,AdC]
  rw[lX] at y2 y4;have y7':∀ i,i<x.length->i≠F->i≠q->(¬s.it p=[]->i≠L (.i p))->y[i]?=x[i]?:=by intro i hi c1 c2 c3;rw[y7 i (by rw[lX];omega) c1 (by simpa using c2) fun r _=>by rw[De];omega];exact at1 i hi c3
  refine ⟨y,⟨fun c=>(by rw[e] at c;cases c),fun _=>⟨H',by rw[hp];exact g1,hne,y2,?_⟩⟩,⟨?_,fun r hr2 hrn=>?_,fun c=>?_⟩⟩
  ·rw[hp,hsucc];have:(fun a=>outN [] x.length (L' a)) (.n 0)=outN [] x.length 2:=by simp only[g4]
   rw[<-this];exact y1
  ·rw[hsucc];refine ⟨by omega,y3,⟨q',by omega,y5,y6⟩,fun i hi c1 c2 c3=>?_⟩;rw[y7' i (by omega) c1 (by omega) fun c=>c3 p c];exact p4 i hi c1 c2 c3
  ·have hlt:=h.lt (.i r) hrn;rw[y7' _ (by omega) (hr (.i r) hrn).1 (by omega) fun c=>h.ne hrn c (by intro c2;cases c2;exact hpn _ hr2 rfl)];exact hrest r (hdr r hr2) hrn
  rw[hsucc] at c ⊢;exact S5 n _ _ _ _ hcap c
def SZ {n:Nat} {L:Rl->Nat} {s:Ly} {F:Nat} {id:Int} {name:List UInt8} {ts:List Tab} {f:Nat->List Aa} (fT:∀ k,k<s.lists.length->Zj G n L s F id name ts k (f k) (f (k+1))) {k:Nat} (hf:(Dk n s id name ts k).2=false):∀ m,k+m<=s.lists.length->f (k+m)=f k
 | 0,_=>rfl
 | m+1,h=>((fT (k+m) (by omega)).1 (by rw[Kn n s id name ts hf m (by omega)];exact hf)).trans (SZ fT hf m (by omega))
def LK {n:Nat} {L:Rl->Nat} {s:Ly} {F:Nat} {id:Int} {name:List UInt8} {ts:List Tab} {f:Nat->List Aa} (fT:∀ k,k<s.lists.length->Zj G n L s F id name ts k (f k) (f (k+1))) {k:Nat} (hk:k<=s.lists.length) (hf:(Dk n s id name ts k).2=false) :
  f s.lists.length=f k/\(Dk n s id name ts s.lists.length).2=false:=by
 have e:=SZ fT hf (s.lists.length-k) (by omega);have e2:=Kn n s id name ts hf (s.lists.length-k) (by omega);rw[show k+(s.lists.length-k)=s.lists.length by omega] at e e2;exact ⟨e,by rw[e2];exact hf⟩
def Vt (hT:HT G) (hP:HP G):∀ n:Nat,AddC G n:=by
 intro n;induction n with
 | zero=>intro L s F j id name ts H hok _;cases hok
 | succ n IH =>
  intro L s F j id name ts H hok hA0;obtain ⟨h,h0,i1,i2,ht,hF,hj,hFj,hr⟩:=hA0;obtain ⟨hs,hn,hll,hnd,hok⟩:=hok;have fl:=(Ac7.1 hF).1;have tl:=EA ts;have q0:=h.box;have ok:∀ k,k<8+s.rows.length->Bm s (.n k):=fun k hk=>hk;have rF:∀ k,k<8+s.rows.length->¬L (.n k)=F:=fun k hk=>(hr _ (ok k hk)).1;have rj:∀ k,k<8+s.rows.length->some (L (.n k))≠j:=fun k hk=>(hr _ (ok k hk)).2;have b0:=h.lt _ (ok 0 (by omega));have F0:=rF 0 (by omega);obtain ⟨r,hrr⟩:∃ r,r=Fz s (id+ts.length) name:=⟨_,rfl⟩;have hA:=Vu n s id name ts;rw[<-hrr] at hA;have hcv:∀ b∈Ir L s.rows.length,b<H.length:=fun b hb=>(Xf h hb).1;have hcl:=Xg L s.rows.length;have sl:=@strs_length s.lists;cases j with
  | some j =>
   replace hj:H[j]?=some (.row false (C9 ts)):=hj;have jl:=(Ac7.1 hj).1;have Fj:¬F=j:=fun c=>hFj (by rw[c]);have J0:¬L (.n 0)=j:=fun c=>rj 0 (by omega) (by rw[c]);have hF2:=hF;unfold flB Kw at hF;simp only at hF;obtain ⟨HA,hHA⟩:∃ HA,HA=(H.set j .dead).set F (flB id (some (H.length+2)) (ts.length+1))++[.box [.d (.int .i64 r.1.id),.d (S r.1.name),.d (Th r.1.cols false)],.row false (NI r.1),.row false (C9 (ts++[r.1]))]:=⟨_,rfl⟩;have hsame:∀ i,i<H.length->i≠F->some i≠(some j)->HA[i]?=H[i]?:=(by intro i hi c1 c2;rw[hHA,Az (by simpa using hi),Ao (fun c=>c1 c.symm)];exact Ao fun c=>c2 (by rw[c]))
   have hAP:AaC L s F (some j) id (ts++[r.1]) H HA:=by
    refine ⟨by rw[hHA];simp,?_,⟨H.length+2,by omega,?_,?_⟩,fun i hi c1 c2 c3=>hsame i hi c1 c2⟩<;>rw[hHA];·exact ((h0.set _ (by simp)).set _ (by simp)).app (by simp[NoX])
    ·simp only[Az,Bt,Adc,fl,AbP,AbO,AbQ]
    rw[Adu (by simp)];simp
   obtain ⟨cf,hcf⟩:=C7 [F,j,H.length,H.length+1,H.length+2] (by simp only[AdZ,Adt,AdL,or_false,not_or,AdW,and_true,not_false_eq_true];omega);have c0:=hcf 0 _ rfl;have c1:=hcf 1 _ rfl;have c2:=hcf 2 _ rfl;have c3:=hcf 3 _ rfl;have c4:=hcf 4 _ rfl;cases hr2:r.2 with
   | false =>
    rw[hr2,if_neg (by simp)] at hA;refine ⟨HA,?_,by rw[hA];exact hAP⟩;refine Ctr.bodyI (M:=MA) Al Tryz.func31 rfl Ym hAP.nox.ok ?_;simp(disch:=(try simp only[Ad]);omega)only[Ag,Tryz.f31,DR,NJ,tl,hF,hj,q0,sl,AG,↓Ac,Ae,↓reduceIte,↓reduceDIte,↓Qe,Qu,Qv,Qw,Qx,Qy,Qz,QA,QB,QC,QD,QE,QF,QG,QH,QI,QK];refine EK hT hP h hs (id+ts.length) (by omega) (by omega) name hn ?_;rw[<-hrr,hr2,hA];simp(disch:=(try simp only[Ad]);omega)only[Ag,DR,NJ,tl,hF,hj,q0,sl,AG,↓Ac,Ae,↓reduceIte,↓reduceDIte,↓Qe,Qu,Qv,Qw,Qx,Qy,Qz,QA,QB,QC,QD,QE,QF,QG,QH,QI,QK];refine ⟨DI (fun x=>if x<H.length then 0 else 1) [([],[]),([],[]),([],[]),([],[]),([0],[]),([],[]),([],[]),([],[]),([0],[]),([],[]),([],[]),([],[]),([0],[]),([],[]),([],[]),([],[]),([1],[1]),([1],[1]),([],[])] (by simp[Lr,AP,AO,hcl,fl];exact hcv) (by rfl),by simp[cut],AD cf (by simp(disch:=omega)only[Bf,AP,AO,Ba,A9,and_self]) (by simp only[Ac6,Adz,c0,c1,c2,c3,c4];rfl),?_⟩;first
    | exact Or.inr ⟨by rw[hHA];simp[cut,flB,Kw,C9,NI],Or.inl rfl⟩
   | true =>
    by_cases hc:ts.length+1<=1024
    ·rw[hr2,if_pos ⟨rfl,hc⟩] at hA;obtain ⟨TS,hTS⟩:∃ TS,TS=ts++[r.1]:=⟨_,rfl⟩;rw[<-hTS] at hA hAP;have hTl:TS.length<=1024:=(by rw[hTS];simp only[AbP,AbO,AbQ];omega)
     obtain ⟨f,f0,fI,fT⟩:=JX (AaD n L s F (some j) id name TS H) (Zj G n L s F id name TS) s.lists.length HA
      ⟨hAP,fun q _ hq=>by rw[hsame _ (h.lt (.i q) hq) (hr (.i q) hq).1 (hr (.i q) hq).2];exact h.item q hq,fun _=>hTl⟩ (fun k hk x hx=>S4 IH h i1 i2 fl hr hnd hok hk hx)
     have fE:=fI _ (AbS _);refine ⟨f s.lists.length,?_,by rw[hA];exact fE.p⟩;refine Ctr.bodyI (M:=MA) Al Tryz.func31 rfl Ym fE.p.nox.ok ?_;simp(disch:=(try simp only[Ad]);omega)only[Ag,Tryz.f31,DR,NJ,tl,hF,hj,q0,sl,AG,↓Ac,Ae,↓reduceIte,↓reduceDIte,↓Qe,Qu,Qv,Qw,Qx,Qy,Qz,QA,QB,QC,QD,QE,QF,QG,QH,QI,QK];refine EK hT hP h hs (id+ts.length) (by omega) (by omega) name hn ?_;rw[<-hrr,hr2,hA];simp(disch:=(try simp only[Ad]);omega)only[Ag,DR,NJ,tl,hF,hj,q0,sl,AG,↓Ac,Ae,↓reduceIte,↓reduceDIte,↓Qe,Qu,Qv,Qw,Qx,Qy,Qz,QA,QB,QC,QD,QE,QF,QG,QH,QI,QK];refine ⟨DI (fun x=>if x<H.length then 0 else 1) [([],[]),([],[]),([],[]),([],[]),([0],[]),([],[]),([],[]),([],[]),([0],[]),([],[]),([],[]),([],[]),([0],[]),([],[]),([],[]),([],[]),([1],[1]),([1],[1]),([],[])] (by simp[Lr,AP,AO,hcl,fl];exact hcv) (by rfl),by simp[cut],AD cf (by simp(disch:=omega)only[Bf,AP,AO,Ba,A9,and_self]) (by simp only[Ac6,Adz,c0,c1,c2,c3,c4];rfl),?_⟩;refine As.frI 3377699720527879 (α:=Nat) (fun k=>s.lists.length-k) (fun k=>[(52,.d (.int .i64 k))]) (fun k=>f k) (fun k=>k<=s.lists.length/\(Dk n s id name TS k).2=true) 0 ⟨AdB _,rfl⟩ ?_ ?_
     ·have htb:C9 (ts++[r.1])=C9 ts++NI r.1:=(by simp[C9]);have hce:cut [.int .i64 r.1.id,.str (bs r.1.name),.sl r.1.cols.length false (B8 r.1.cols)] 0 3=NI r.1:=(by simp[cut]);rw[f0,hHA,htb,hce];first
      | exact .slots (by simp[sA,kZ,CK])
     rintro k ⟨hkk,ha2⟩;simp only[Cr,Adg,Adh,reduceIte];rcases AdA k s.lists.length with hlt | hge
     ·obtain ⟨_,t2⟩:=fT k hlt;obtain ⟨H',g1,g2,g3,g4⟩:=t2 ha2;obtain ⟨⟨p1,p2,_,p4⟩,prest,_⟩:=fI k hkk;have hpm:s.lists.getD k []∈s.lists:=E1 hlt;have hpd:s.lists.getD k []∈s.lists.drop k:=by
       rw[AbT,AbR hlt,AdI,AdF hlt];exact Ad1
      have hpl:name.length+1+(s.lists.getD k []).length<=1000000000:=by
       cases n with
       | zero=>exact (hok _ hpm).2.2.elim
       | succ n=>exact (hok _ hpm).2.2.2.1
      have g:=strs_getD hlt;have pit:=prest _ hpd;have at':∀ a,a<8+s.rows.length->(f k)[L (.n a)]?=H[L (.n a)]?:=fun a ha=>p4 _ (h.lt _ (ok a ha)) (rF a ha) (rj a ha) fun p hp=>h.ne (ok a ha) hp (by simp);have e0:=(at' 0 (by omega)).trans h.box;have e5:=(at' 5 (by omega)).trans h.lists;obtain ⟨m,m1,m2,m3⟩:=h.items;have e6:=(at' 6 (by omega)).trans m1;have kr:=m2.ok;have pl:=fun a ha=>Aej (h.lt a ha) p1;generalize f k=Hk at *;generalize s.lists.getD k []=p at *;have hnm:name++[46]++p=name++46::p:=(by simp)
      rw[hnm] at g4;generalize hρ:outN [] Hk.length=ρ at *;by_cases hit:s.it p=[]
      ·have v2:Gf (.sl 0 true []) m (S p) false=.d (.sl 0 true []):=(by rw[DX,m3,if_pos hit]);rw[hit] at g1 g4;unfold Jr at g4;rw[if_pos rfl] at g4;simp(disch:=(try simp only[Ad]);omega)only[Ag,DR,Gz,e0,e5,e6,g,kr,v2,sl,AG,↓Ac,Ae,↓reduceIte,↓reduceDIte,↓Qe,Qu,Qv,Qw,Qx,Qy,Qz,QA,QB,QC,QD,QE,QF,QG,QH,QI,QK];refine Ab.newgo g1 (by rfl) g2 (by intro p hp;simp[frz] at hp) (by rfl) ?_;intro t;rw[hρ,FG];simp(disch:=(try simp only[Ad]);omega)only[Ag,DR,Gz,AG,↓Ac,Ae,↓reduceIte,↓reduceDIte,↓Qe,Qu,Qv,Qw,Qx,Qy,Qz,QA,QB,QC,QD,QE,QF,QG,QH,QI,QK];refine Aq.go g4 ⟨.inl rfl,.inl rfl,.inr (.inr ⟨_,rfl,rfl,.inl rfl⟩),trivial⟩ (by simp only[AbP,Adc,AdC];exact g3) ?_;cases e:(Dk n s id name TS (k+1)).2 with
       | false =>
        obtain ⟨z1,z2⟩:=LK fT (by omega:k+1<=s.lists.length) e;simp(disch:=(try simp only[Ad]);omega)only[Ag,DR,Gz,AG,↓Ac,Ae,↓reduceIte,↓reduceDIte,↓Qe,Qu,Qv,Qw,Qx,Qy,Qz,QA,QB,QC,QD,QE,QF,QG,QH,QI,QK];rw[z1,z2];first
        | exact Or.inr ⟨rfl,Or.inl rfl⟩
       | true =>
        simp(disch:=(try simp only[Ad]);omega)only[Ag,DR,Gz,AG,↓Ac,Ae,↓reduceIte,↓reduceDIte,↓Qe,Qu,Qv,Qw,Qx,Qy,Qz,QA,QB,QC,QD,QE,QF,QG,QH,QI,QK];first
        | exact ⟨k+1,⟨hlt,e⟩,by simp only;omega,.inl ⟨rfl,by simp[sA,kZ,CK]⟩⟩
      have v2:Gf (.sl 0 true []) m (S p) false=.lsl (L (.i p)) 5 0 (s.it p).length:=(by rw[DX,m3,if_neg hit]);have pit:=pit hit;unfold Jr at g4;rw[if_neg hit] at g4;have el:=Bu (s.it p);have lp:=pl (.i p) hit;have cu:cut (Bo (s.it p)) 0 ((s.it p).length*5)=Bo (s.it p):=cut_all (by omega);simp(disch:=(try simp only[Ad]);omega)only[Ag,DR,Gz,e0,e5,e6,g,kr,v2,sl,pit,cu,el,AG,↓Ac,Ae,↓reduceIte,↓reduceDIte,↓Qe,Qu,Qv,Qw,Qx,Qy,Qz,QA,QB,QC,QD,QE,QF,QG,QH,QI,QK];have fz:frz Hk [L (.i p)]=[(L (.i p),.row true (Bo (s.it p)))]:=(by simp[frz,pit])
      refine Ab.newgo g1 (by rfl) g2 (by rw[fz];intro p hp;rw[AbU.1 hp];exact lp) (by rw[fz]) ?_;intro t;rw[hρ,FG];simp(disch:=(try simp only[Ad]);omega)only[Ag,DR,Gz,AG,↓Ac,Ae,↓reduceIte,↓reduceDIte,↓Qe,Qu,Qv,Qw,Qx,Qy,Qz,QA,QB,QC,QD,QE,QF,QG,QH,QI,QK];refine Aq.go g4 ⟨.inl rfl,.inl rfl,.inr (.inr ⟨_,rfl,rfl,.inl rfl⟩),trivial⟩ (by simp only[AbP,Adc,AdC];exact g3) ?_;cases e:(Dk n s id name TS (k+1)).2 with
      | false =>
       obtain ⟨z1,z2⟩:=LK fT (by omega:k+1<=s.lists.length) e;simp(disch:=(try simp only[Ad]);omega)only[Ag,DR,Gz,AG,↓Ac,Ae,↓reduceIte,↓reduceDIte,↓Qe,Qu,Qv,Qw,Qx,Qy,Qz,QA,QB,QC,QD,QE,QF,QG,QH,QI,QK];rw[z1,z2];first
       | exact Or.inr ⟨rfl,Or.inl rfl⟩
      | true =>
       simp(disch:=(try simp only[Ad]);omega)only[Ag,DR,Gz,AG,↓Ac,Ae,↓reduceIte,↓reduceDIte,↓Qe,Qu,Qv,Qw,Qx,Qy,Qz,QA,QB,QC,QD,QE,QF,QG,QH,QI,QK];first
       | exact ⟨k+1,⟨hlt,e⟩,by simp only;omega,.inl ⟨rfl,by simp[sA,kZ,CK]⟩⟩
     obtain rfl:k=s.lists.length:=by omega
     simp(disch:=(try simp only[Ad]);omega)only[Ag,DR,Gz,sl,AG,↓Ac,Ae,↓reduceIte,↓reduceDIte,↓Qe,Qu,Qv,Qw,Qx,Qy,Qz,QA,QB,QC,QD,QE,QF,QG,QH,QI,QK];rw[ha2];first
     | exact Or.inr ⟨rfl,Or.inl rfl⟩
    rw[hr2,if_neg (by omega)] at hA;refine ⟨HA,?_,by rw[hA];exact hAP⟩;refine Ctr.bodyI (M:=MA) Al Tryz.func31 rfl Ym hAP.nox.ok ?_;simp(disch:=(try simp only[Ad]);omega)only[Ag,Tryz.f31,DR,NJ,tl,hF,hj,q0,sl,AG,↓Ac,Ae,↓reduceIte,↓reduceDIte,↓Qe,Qu,Qv,Qw,Qx,Qy,Qz,QA,QB,QC,QD,QE,QF,QG,QH,QI,QK];refine EK hT hP h hs (id+ts.length) (by omega) (by omega) name hn ?_;rw[<-hrr,hr2,hA];simp(disch:=(try simp only[Ad]);omega)only[Ag,DR,NJ,tl,hF,hj,q0,sl,AG,↓Ac,Ae,↓reduceIte,↓reduceDIte,↓Qe,Qu,Qv,Qw,Qx,Qy,Qz,QA,QB,QC,QD,QE,QF,QG,QH,QI,QK];refine ⟨DI (fun x=>if x<H.length then 0 else 1) [([],[]),([],[]),([],[]),([],[]),([0],[]),([],[]),([],[]),([],[]),([0],[]),([],[]),([],[]),([],[]),([0],[]),([],[]),([],[]),([],[]),([1],[1]),([1],[1]),([],[])] (by simp[Lr,AP,AO,hcl,fl];exact hcv) (by rfl),by simp[cut],AD cf (by simp(disch:=omega)only[Bf,AP,AO,Ba,A9,and_self]) (by simp only[Ac6,Adz,c0,c1,c2,c3,c4];rfl),?_⟩;first
    | exact Or.inr ⟨by rw[hHA];simp[cut,flB,Kw,C9,NI],Or.inl rfl⟩
  | none =>
   obtain rfl:ts=[]:=hj;have hF2:=hF;unfold flB Kw at hF;simp only at hF;obtain ⟨HA,hHA⟩:∃ HA,HA=H.set F (flB id (some (H.length+2)) 1)++[.box [.d (.int .i64 r.1.id),.d (S r.1.name),.d (Th r.1.cols false)],.row false (NI r.1),.row false (C9 (([]:List Tab)++[r.1]))]:=⟨_,rfl⟩;have hsame:∀ i,i<H.length->i≠F->some i≠none->HA[i]?=H[i]?:=(by intro i hi c1 c2;rw[hHA,Az (by simpa using hi),Ao (fun c=>c1 c.symm)])
   have hAP:AaC L s F none id (([]:List Tab)++[r.1]) H HA:=by
    refine ⟨by rw[hHA];simp,?_,⟨H.length+2,by omega,?_,?_⟩,fun i hi c1 c2 c3=>hsame i hi c1 c2⟩<;>rw[hHA];·exact (h0.set _ (by simp)).app (by simp[NoX])
    ·simp only[Az,Bt,Adc,fl,AbP,AbO,AbQ]
    rw[Adu (by simp)];simp
   obtain ⟨cf,hcf⟩:=C7 [F,H.length,H.length+1,H.length+2] (by simp only[AdZ,Adt,AdL,or_false,not_or,AdW,and_true,not_false_eq_true];omega);have c0:=hcf 0 _ rfl;have c1:=hcf 1 _ rfl;have c2:=hcf 2 _ rfl;have c3:=hcf 3 _ rfl;cases hr2:r.2 with
   | false =>
    rw[hr2,if_neg (by simp)] at hA;refine ⟨HA,?_,by rw[hA];exact hAP⟩;refine Ctr.bodyI (M:=MA) Al Tryz.func31 rfl Ym hAP.nox.ok ?_;simp(disch:=(try simp only[Ad]);omega)only[Ag,Tryz.f31,DR,NJ,hF,q0,sl,AG,↓Ac,Ae,↓reduceIte,↓reduceDIte,↓Qe,Qu,Qv,Qw,Qx,Qy,Qz,QA,QB,QC,QD,QE,QF,QG,QH,QI,QK];refine EK hT hP h hs (id+([]:List Tab).length) (by simp;omega) (by simp;omega) name hn ?_;rw[<-hrr,hr2,hA];simp(disch:=(try simp only[Ad]);omega)only[Ag,DR,NJ,hF,q0,sl,AG,↓Ac,Ae,↓reduceIte,↓reduceDIte,↓Qe,Qu,Qv,Qw,Qx,Qy,Qz,QA,QB,QC,QD,QE,QF,QG,QH,QI,QK];refine ⟨DI (fun x=>if x<H.length then 0 else 1) [([],[]),([],[]),([],[]),([],[]),([0],[]),([],[]),([],[]),([],[]),([0],[]),([],[]),([],[]),([],[]),([0],[]),([],[]),([],[]),([],[]),([1],[1]),([1],[1]),([],[])] (by simp[Lr,AP,AO,hcl,fl];exact hcv) (by rfl),by simp[cut],AD cf (by simp(disch:=omega)only[Bf,AP,AO,Ba,A9,and_self]) (by simp only[Ac6,Adz,c0,c1,c2,c3];rfl),?_⟩;first
    | exact Or.inr ⟨by rw[hHA];simp[cut,flB,Kw,C9,NI],Or.inl rfl⟩
   | true =>
    rw[hr2,if_pos ⟨rfl,by simp⟩] at hA;obtain ⟨TS,hTS⟩:∃ TS,TS=([]:List Tab)++[r.1]:=⟨_,rfl⟩;rw[<-hTS] at hA hAP;have hTl:TS.length<=1024:=(by rw[hTS];simp only[AbP,AbO,AbQ];omega)
    obtain ⟨f,f0,fI,fT⟩:=JX (AaD n L s F none id name TS H) (Zj G n L s F id name TS) s.lists.length HA
     ⟨hAP,fun q _ hq=>by rw[hsame _ (h.lt (.i q) hq) (hr (.i q) hq).1 (hr (.i q) hq).2];exact h.item q hq,fun _=>hTl⟩ (fun k hk x hx=>S4 IH h i1 i2 fl hr hnd hok hk hx)
    have fE:=fI _ (AbS _);refine ⟨f s.lists.length,?_,by rw[hA];exact fE.p⟩;refine Ctr.bodyI (M:=MA) Al Tryz.func31 rfl Ym fE.p.nox.ok ?_;simp(disch:=(try simp only[Ad]);omega)only[Ag,Tryz.f31,DR,NJ,hF,q0,sl,AG,↓Ac,Ae,↓reduceIte,↓reduceDIte,↓Qe,Qu,Qv,Qw,Qx,Qy,Qz,QA,QB,QC,QD,QE,QF,QG,QH,QI,QK];refine EK hT hP h hs (id+([]:List Tab).length) (by simp;omega) (by simp;omega) name hn ?_;rw[<-hrr,hr2,hA];simp(disch:=(try simp only[Ad]);omega)only[Ag,DR,NJ,hF,q0,sl,AG,↓Ac,Ae,↓reduceIte,↓reduceDIte,↓Qe,Qu,Qv,Qw,Qx,Qy,Qz,QA,QB,QC,QD,QE,QF,QG,QH,QI,QK];refine ⟨DI (fun x=>if x<H.length then 0 else 1) [([],[]),([],[]),([],[]),([],[]),([0],[]),([],[]),([],[]),([],[]),([0],[]),([],[]),([],[]),([],[]),([0],[]),([],[]),([],[]),([],[]),([1],[1]),([1],[1]),([],[])] (by simp[Lr,AP,AO,hcl,fl];exact hcv) (by rfl),by simp[cut],AD cf (by simp(disch:=omega)only[Bf,AP,AO,Ba,A9,and_self]) (by simp only[Ac6,Adz,c0,c1,c2,c3];rfl),?_⟩;refine As.frI 3377699720527879 (α:=Nat) (fun k=>s.lists.length-k) (fun k=>[(52,.d (.int .i64 k))]) (fun k=>f k) (fun k=>k<=s.lists.length/\(Dk n s id name TS k).2=true) 0 ⟨AdB _,rfl⟩ ?_ ?_
    ·have htb:C9 (([]:List Tab)++[r.1])=C9 ([]:List Tab)++NI r.1:=(by simp[C9]);have hce:cut [.int .i64 r.1.id,.str (bs r.1.name),.sl r.1.cols.length false (B8 r.1.cols)] 0 3=NI r.1:=(by simp[cut]);rw[f0,hHA,htb,hce];first
     | exact .slots (by simp[sA,kZ,CK])
    rintro k ⟨hkk,ha2⟩;simp only[Cr,Adg,Adh,reduceIte];rcases AdA k s.lists.length with hlt | hge
    ·obtain ⟨_,t2⟩:=fT k hlt;obtain ⟨H',g1,g2,g3,g4⟩:=t2 ha2;obtain ⟨⟨p1,p2,_,p4⟩,prest,_⟩:=fI k hkk;have hpm:s.lists.getD k []∈s.lists:=E1 hlt;have hpd:s.lists.getD k []∈s.lists.drop k:=by
      rw[AbT,AbR hlt,AdI,AdF hlt];exact Ad1
     have hpl:name.length+1+(s.lists.getD k []).length<=1000000000:=by
      cases n with
      | zero=>exact (hok _ hpm).2.2.elim
      | succ n=>exact (hok _ hpm).2.2.2.1
     have g:=strs_getD hlt;have pit:=prest _ hpd;have at':∀ a,a<8+s.rows.length->(f k)[L (.n a)]?=H[L (.n a)]?:=fun a ha=>p4 _ (h.lt _ (ok a ha)) (rF a ha) (rj a ha) fun p hp=>h.ne (ok a ha) hp (by simp);have e0:=(at' 0 (by omega)).trans h.box;have e5:=(at' 5 (by omega)).trans h.lists;obtain ⟨m,m1,m2,m3⟩:=h.items;have e6:=(at' 6 (by omega)).trans m1;have kr:=m2.ok;have pl:=fun a ha=>Aej (h.lt a ha) p1;generalize f k=Hk at *;generalize s.lists.getD k []=p at *;have hnm:name++[46]++p=name++46::p:=(by simp)
     rw[hnm] at g4;generalize hρ:outN [] Hk.length=ρ at *;by_cases hit:s.it p=[]
     ·have v2:Gf (.sl 0 true []) m (S p) false=.d (.sl 0 true []):=(by rw[DX,m3,if_pos hit]);rw[hit] at g1 g4;unfold Jr at g4;rw[if_pos rfl] at g4;simp(disch:=(try simp only[Ad]);omega)only[Ag,DR,Gz,e0,e5,e6,g,kr,v2,sl,AG,↓Ac,Ae,↓reduceIte,↓reduceDIte,↓Qe,Qu,Qv,Qw,Qx,Qy,Qz,QA,QB,QC,QD,QE,QF,QG,QH,QI,QK];refine Ab.newgo g1 (by rfl) g2 (by intro p hp;simp[frz] at hp) (by rfl) ?_;intro t;rw[hρ,FG];simp(disch:=(try simp only[Ad]);omega)only[Ag,DR,Gz,AG,↓Ac,Ae,↓reduceIte,↓reduceDIte,↓Qe,Qu,Qv,Qw,Qx,Qy,Qz,QA,QB,QC,QD,QE,QF,QG,QH,QI,QK];refine Aq.go g4 ⟨.inl rfl,.inl rfl,.inr (.inr ⟨_,rfl,rfl,.inl rfl⟩),trivial⟩ (by simp only[AbP,Adc,AdC];exact g3) ?_;cases e:(Dk n s id name TS (k+1)).2 with
      | false =>
       obtain ⟨z1,z2⟩:=LK fT (by omega:k+1<=s.lists.length) e;simp(disch:=(try simp only[Ad]);omega)only[Ag,DR,Gz,AG,↓Ac,Ae,↓reduceIte,↓reduceDIte,↓Qe,Qu,Qv,Qw,Qx,Qy,Qz,QA,QB,QC,QD,QE,QF,QG,QH,QI,QK];rw[z1,z2];first
       | exact Or.inr ⟨rfl,Or.inl rfl⟩
      | true =>
       simp(disch:=(try simp only[Ad]);omega)only[Ag,DR,Gz,AG,↓Ac,Ae,↓reduceIte,↓reduceDIte,↓Qe,Qu,Qv,Qw,Qx,Qy,Qz,QA,QB,QC,QD,QE,QF,QG,QH,QI,QK];first
       | exact ⟨k+1,⟨hlt,e⟩,by simp only;omega,.inl ⟨rfl,by simp[sA,kZ,CK]⟩⟩
     have v2:Gf (.sl 0 true []) m (S p) false=.lsl (L (.i p)) 5 0 (s.it p).length:=(by rw[DX,m3,if_neg hit]);have pit:=pit hit;unfold Jr at g4;rw[if_neg hit] at g4;have el:=Bu (s.it p);have lp:=pl (.i p) hit;have cu:cut (Bo (s.it p)) 0 ((s.it p).length*5)=Bo (s.it p):=cut_all (by omega);simp(disch:=(try simp only[Ad]);omega)only[Ag,DR,Gz,e0,e5,e6,g,kr,v2,sl,pit,cu,el,AG,↓Ac,Ae,↓reduceIte,↓reduceDIte,↓Qe,Qu,Qv,Qw,Qx,Qy,Qz,QA,QB,QC,QD,QE,QF,QG,QH,QI,QK];have fz:frz Hk [L (.i p)]=[(L (.i p),.row true (Bo (s.it p)))]:=(by simp[frz,pit])
     refine Ab.newgo g1 (by rfl) g2 (by rw[fz];intro p hp;rw[AbU.1 hp];exact lp) (by rw[fz]) ?_;intro t;rw[hρ,FG];simp(disch:=(try simp only[Ad]);omega)only[Ag,DR,Gz,AG,↓Ac,Ae,↓reduceIte,↓reduceDIte,↓Qe,Qu,Qv,Qw,Qx,Qy,Qz,QA,QB,QC,QD,QE,QF,QG,QH,QI,QK];refine Aq.go g4 ⟨.inl rfl,.inl rfl,.inr (.inr ⟨_,rfl,rfl,.inl rfl⟩),trivial⟩ (by simp only[AbP,Adc,AdC];exact g3) ?_;cases e:(Dk n s id name TS (k+1)).2 with
     | false =>
      obtain ⟨z1,z2⟩:=LK fT (by omega:k+1<=s.lists.length) e;simp(disch:=(try simp only[Ad]);omega)only[Ag,DR,Gz,AG,↓Ac,Ae,↓reduceIte,↓reduceDIte,↓Qe,Qu,Qv,Qw,Qx,Qy,Qz,QA,QB,QC,QD,QE,QF,QG,QH,QI,QK];rw[z1,z2];first
      | exact Or.inr ⟨rfl,Or.inl rfl⟩
     | true =>
      simp(disch:=(try simp only[Ad]);omega)only[Ag,DR,Gz,AG,↓Ac,Ae,↓reduceIte,↓reduceDIte,↓Qe,Qu,Qv,Qw,Qx,Qy,Qz,QA,QB,QC,QD,QE,QF,QG,QH,QI,QK];first
      | exact ⟨k+1,⟨hlt,e⟩,by simp only;omega,.inl ⟨rfl,by simp[sA,kZ,CK]⟩⟩
    obtain rfl:k=s.lists.length:=by omega
    simp(disch:=(try simp only[Ad]);omega)only[Ag,DR,Gz,sl,AG,↓Ac,Ae,↓reduceIte,↓reduceDIte,↓Qe,Qu,Qv,Qw,Qx,Qy,Qz,QA,QB,QC,QD,QE,QF,QG,QH,QI,QK];rw[ha2];first
    | exact Or.inr ⟨rfl,Or.inl rfl⟩
def Ex (hT:HT G) (hG:Num.HG G) (n:Nd) (hz:szN n):Ctr TP G 19 [.d (NdD n)] [] (.d (.bool (Bg n 0))) []:=by have h:=Ks (G:=G) hT hG _ n (AbS _) hz 0 (by omega);generalize Bg n 0=z at *;obtain ⟨k,t,ks,l⟩:=n;refine Ctr.pure (M:=M0) Al Tryz.func19 rfl go19 ?_;simp(disch:=(try simp only[Ad]);omega)only[Ag,ndC,Tryz.f19,↓Ac,Ae,↓reduceIte,↓reduceDIte,↓Qe,Qu,Qv,Qw,Qx,Qy,Qz,QA,QB,QC,QD,QE,QF,QG,QH,QI,QK];refine Ab.of h (by rfl) ?_;simp(disch:=(try simp only[Ad]);omega)only[Ag,↓Ac,Ae,↓reduceIte,↓reduceDIte,↓Qe,Qu,Qv,Qw,Qx,Qy,Qz,QA,QB,QC,QD,QE,QF,QG,QH,QI,QK]
def KN (n:Nd):List Nd:=if n.kind=5 then n.kids else [n]
def Eh (n:Nd):List Elm:=(KN n).map fun k=>(0,k)
def Sr (N:Nat) (name:List UInt8) (id:Int) (n:Nd):List Tab × Int :=
 if Bg n 0=true/\(KN n).any G4=false/\Lib.validD name=true then
  (if (FSa N (AL false (Eh n)) id name []).2=true then ((FSa N (AL false (Eh n)) id name []).1,0) else ([],3))
 else ([],1)
abbrev Ade (l:List Tab) (full:Bool):D:=.sl l.length full (C9 l)
abbrev AaT (r:List Tab × Int):D:=.tup [Ade r.1 false,.int .i64 r.2]
def MF:B0:=fun k=>Aeq k 4000031
def WU:MF 4000031=true:=rfl
def DQ {k:Nat} (h:¬(k=4000031)):MF k=false:=by
 cases e:MF k with
 | false=>rfl
 | true=>exact absurd (AdM e) h
def Ie (l:List Nd) (k:Nat):List Elm:=(l.take k).map fun k=>((0:Int),k)
def SH (l:List Nd) (k:Nat) (h:k<=l.length):(Ie l k).length=k:=by simp[Ie];omega
def OO (l:List Nd) (k:Nat) (h:k<l.length):Bo (Ie l (k+1))=Bo (Ie l k)++DZ ((0:Int),l.getD k noN):=by unfold Ie;rw[AdN,AbR h,AbT,AbR h,AdY,Ws];simp[Bo]
def SI (l:List Nd):Ie l l.length=l.map fun k=>((0:Int),k):=by unfold Ie;rw[AdJ]
def ND (hT:HT G) (hP:HP G) (hG:Num.HG G) (N:Nat) (name:List UInt8) (id:Int) (n:Nd) (hz:szN n) (hn:name.length<=1000000000) (i1:-1000000000000<=id) (i2:id<=1000000000000)
  (hc:Bg n 0=true->(∀ e∈Eh n,GT e.2)/\CJ (Eh n)<=4000/\Pa N (AL false (Eh n)) name.length) :
  Ctr TP G 13 [.d (S name),.d (.int .i64 id),.d (NdD n)] [] (.d (AaT (Sr N name id n))) []:=by
 obtain ⟨r,hr⟩:∃ r,r=Sr N name id n:=⟨_,rfl⟩;rw[<-hr];unfold Sr at hr;have hV:=Ex (G:=G) hT hG n hz;have hE:Eh n=(KN n).map fun k=>((0:Int),k):=rfl;generalize hok:Bg n 0=okv at *;generalize Eh n=E at *;generalize hL:KN n=L at *;unfold KN at hL;obtain ⟨k,t,ks,l⟩:=n;obtain ⟨s1,s2,s3,s4,s5⟩:=hz;unfold Nd.kind Nd.kids at hL;simp only at hL;refine Ctr.pure (M:=MF) Al Tryz.func13 rfl go13 ?_;by_cases k5:k=5
 ·subst k5;rw[if_pos rfl] at hL;subst hL;have sl:=Bc l;simp(disch:=(try simp only[Ad]);omega)only[Ag,DQ,ndC,sl,Tryz.f13,↓Ac,Ae,↓reduceIte,↓reduceDIte,↓Qe,Qu,Qv,Qw,Qx,Qy,Qz,QA,QB,QC,QD,QE,QF,QG,QH,QI,QK];refine As.fr 6291747 (α:=Nat) (fun x=>l.length-x) (fun x=>[(9,.lsl 1 5 0 x),(23,.d (.int .i64 x))]) (fun x=>[.box [.d (.int .i64 5),.d (S t),.d (Ss ks false),.d (.sl l.length false (A0 l))],.row false (Bo (Ie l x))]) (fun x=>x<=l.length) 0 (AdB _) ?_ ?_
  ·first
   | exact ⟨[some 0,none],rfl,by simp,by simp[sA,kZ,SW,AW],by simp[HW,BW,SW,AW,Ie,Bo]⟩
  intro i hkk;simp only[Cr,Adg,Adh,reduceIte];rcases AdA i l.length with hlt | hge
  ·have el:=Bu (Ie l i);have ck:=SH l i hkk;have cs:=OO l i hlt;have g:=Dg hlt;generalize l.getD i noN=kid at *;obtain ⟨ka,kb,kc,kl⟩:=kid;simp(disch:=(try simp only[Ad]);omega)only[Ag,DQ,sl,g,ndC,el,ck,↓Ac,Ae,↓reduceIte,↓reduceDIte,↓Qe,Qu,Qv,Qw,Qx,Qy,Qz,QA,QB,QC,QD,QE,QF,QG,QH,QI,QK];first
   | exact ⟨by simp[cut],i+1,hlt,by simp only;omega,⟨[some 0,some 4],rfl,by simp,by simp[sA,kZ,SW,AW],by simp[HW,BW,SW,AW,cs,DZ,ndC,cut]⟩⟩
  obtain rfl:i=l.length:=by omega
  have cE:Ie l l.length=E:=by rw[hE];exact SI l
  rw[cE];have eE:=Bu E;have eL:E.length=l.length:=by rw[hE];simp
  have cu:cut (Bo E) 0 (l.length*5)=Bo E:=cut_all (by omega);simp(disch:=(try simp only[Ad]);omega)only[Ag,DQ,sl,↓Ac,Ae,↓reduceIte,↓reduceDIte,↓Qe,Qu,Qv,Qw,Qx,Qy,Qz,QA,QB,QC,QD,QE,QF,QG,QH,QI,QK];refine Ab.of (EW 29 G4 l false (by omega) fun s _=>MP s) (by rfl) ?_;cases hnr:l.any G4
  ·simp(disch:=(try simp only[Ad]);omega)only[Ag,DQ,↓Ac,Ae,↓reduceIte,↓reduceDIte,↓Qe,Qu,Qv,Qw,Qx,Qy,Qz,QA,QB,QC,QD,QE,QF,QG,QH,QI,QK];refine Ab.of hV (by rfl) ?_;cases okv
   ·rw[if_neg (by simp)] at hr;subst hr;simp(disch:=(try simp only[Ad]);omega)only[Ag,DQ,↓Ac,Ae,↓reduceIte,↓reduceDIte,↓Qe,Qu,Qv,Qw,Qx,Qy,Qz,QA,QB,QC,QD,QE,QF,QG,QH,QI,QK];first
    | done
    | rfl
   simp(disch:=(try simp only[Ad]);omega)only[Ag,DQ,↓Ac,Ae,↓reduceIte,↓reduceDIte,↓Qe,Qu,Qv,Qw,Qx,Qy,Qz,QA,QB,QC,QD,QE,QF,QG,QH,QI,QK];refine Ab.pure (Ea hT name (by omega)) ?_;cases hv:Lib.validD name
   ·rw[if_neg (by rw[hv];simp)] at hr;subst hr;simp(disch:=(try simp only[Ad]);omega)only[Ag,DQ,↓Ac,Ae,↓reduceIte,↓reduceDIte,↓Qe,Qu,Qv,Qw,Qx,Qy,Qz,QA,QB,QC,QD,QE,QF,QG,QH,QI,QK];first
    | done
    | rfl
   rw[if_pos ⟨rfl,hnr,hv⟩] at hr;obtain ⟨c1,c2,c3⟩:=hc rfl;obtain ⟨L',H',g1,g2,g3,g4⟩:=IA (G:=G) false E false c1 c2;simp(disch:=(try simp only[Ad]);omega)only[Ag,DQ,cu,eE,↓Ac,Ae,↓reduceIte,↓reduceDIte,↓Qe,Qu,Qv,Qw,Qx,Qy,Qz,QA,QB,QC,QD,QE,QF,QG,QH,QI,QK];obtain ⟨ρ,hρ⟩:∃ ρ,ρ=outN [] 3:=⟨_,rfl⟩;have g5:=g2.shift [.box [.d (.int .i64 5),.d (S t),.d (Ss ks false),.d (.sl l.length false (A0 l))],.row true (Bo E),.box [.d (.int .i64 id),.d (.sl 0 true [])]];obtain ⟨y,y1,⟨y2,y3,⟨q,y4,y5,y6⟩,y7⟩⟩:=Vt hT hP N (F:=2) (j:=none) (ts:=[]) (id:=id) (name:=name) c3 ⟨g5,(show NoX _ by simp[NoX]).app (g3.ren _),i1,i2,by simp,rfl,rfl,by simp,fun a ha=>⟨by rw[De];simp;omega,by simp⟩⟩;have hne:H'≠[]:=(by intro c;have:=g2.lt (.n 0) (by show 0<8+_;omega);rw[c] at this;simp at this)
   simp only[g4,AbO,AbQ,AdR,AdS,<-hρ] at y1;have y2':=y2;simp only[AbP,AbO,AbQ,AdC,AdR,AdS] at y2';refine Ab.newgo g1 (by rw[<-eL]) hne (by simp[frz]) (by simp[frz,applyW];rfl) ?_;intro tt;rw[FG];simp only[AbO,AbQ,AdR,AdS,<-hρ];simp(disch:=(try simp only[Ad]);omega)only[Ag,DQ,WU,↓Ac,Ae,↓reduceIte,↓reduceDIte,↓Qe,Qu,Qv,Qw,Qx,Qy,Qz,QA,QB,QC,QD,QE,QF,QG,QH,QI,QK];first
   | (refine Aq.go y1 ⟨.inl rfl,.inl rfl,.inr (.inr ⟨_,rfl,rfl,.inl rfl⟩),trivial⟩ (by simp;omega) ?_)
   cases e:(FSa N (AL false E) id name []).2
   ·rw[if_neg (by rw[e];simp)] at hr;subst hr;simp(disch:=(try simp only[Ad]);omega)only[Ag,DQ,WU,↓Ac,Ae,↓reduceIte,↓reduceDIte,↓Qe,Qu,Qv,Qw,Qx,Qy,Qz,QA,QB,QC,QD,QE,QF,QG,QH,QI,QK];first
    | done
    | rfl
   rw[if_pos e] at hr;subst hr;generalize (FSa N (AL false E) id name []).1=ts at *;have tl:=EA ts;have cu2:cut (C9 ts) 0 (ts.length*3)=C9 ts:=cut_all (by omega);simp(disch:=(try simp only[Ad]);omega)only[Ag,DQ,WU,y5,y6,tl,cu2,Kw,flB,AG,↓Ac,Ae,↓reduceIte,↓reduceDIte,↓Qe,Qu,Qv,Qw,Qx,Qy,Qz,QA,QB,QC,QD,QE,QF,QG,QH,QI,QK];first
   | done
   | rfl
  rw[if_neg (by rw[hnr];simp)] at hr;subst hr;simp(disch:=(try simp only[Ad]);omega)only[Ag,DQ,↓Ac,Ae,↓reduceIte,↓reduceDIte,↓Qe,Qu,Qv,Qw,Qx,Qy,Qz,QA,QB,QC,QD,QE,QF,QG,QH,QI,QK];refine Ab.of hV (by rfl) ?_;cases okv
  ·simp(disch:=(try simp only[Ad]);omega)only[Ag,DQ,↓Ac,Ae,↓reduceIte,↓reduceDIte,↓Qe,Qu,Qv,Qw,Qx,Qy,Qz,QA,QB,QC,QD,QE,QF,QG,QH,QI,QK];first
   | done
   | rfl
  simp(disch:=(try simp only[Ad]);omega)only[Ag,DQ,↓Ac,Ae,↓reduceIte,↓reduceDIte,↓Qe,Qu,Qv,Qw,Qx,Qy,Qz,QA,QB,QC,QD,QE,QF,QG,QH,QI,QK];first
  | done
  | rfl
 rw[if_neg k5] at hL;subst hL;simp(disch:=(try simp only[Ad]);omega)only[Ag,DQ,ndC,k5,Tryz.f13,↓Ac,Ae,↓reduceIte,↓reduceDIte,↓Qe,Qu,Qv,Qw,Qx,Qy,Qz,QA,QB,QC,QD,QE,QF,QG,QH,QI,QK];refine As.fr 6291747 (α:=Nat) (fun x=>1-x) (fun x=>[(9,.lsl 2 5 0 x),(23,.d (.int .i64 x))]) (fun x=>[.box [.d (.int .i64 k),.d (S t),.d (Ss ks false),.d (.sl l.length false (A0 l))],.row false [.int .i64 k,.str (bs t),.sl ks.length false (strs ks),.sl l.length false (A0 l)],.row false (Bo (Ie [Nd.mk k t ks l] x))]) (fun x=>x<=1) 0 (AdB _) ?_ ?_
 ·first
  | exact ⟨[some 0,some 1,none],rfl,by simp,by simp[sA,kZ,SW,AW],by simp[HW,BW,SW,AW,Ie,Bo]⟩
 intro i hkk;simp only[Cr,Adg,Adh,reduceIte];rcases AdA i 1 with hlt | hge
 ·have el:=Bu (Ie [Nd.mk k t ks l] i);have ck:=SH [Nd.mk k t ks l] i hkk;have cs:=OO [Nd.mk k t ks l] i hlt;obtain rfl:i=0:=by simp at hlt;omega
  simp(disch:=(try simp only[Ad]);omega)only[Ag,DQ,k5,ndC,el,ck,↓Ac,Ae,↓reduceIte,↓reduceDIte,↓Qe,Qu,Qv,Qw,Qx,Qy,Qz,QA,QB,QC,QD,QE,QF,QG,QH,QI,QK];first
  | exact ⟨by simp[cut],1,AbS 1,by simp,⟨[some 0,some 1,some 5],rfl,by simp,by simp[sA,kZ,SW,AW],by simp[HW,BW,SW,AW,Ie,Bo,DZ,ndC,cut]⟩⟩
 obtain rfl:i=1:=by omega
 have cE:Ie [Nd.mk k t ks l] 1=E:=by rw[hE];exact SI [Nd.mk k t ks l]
 rw[cE];have eE:=Bu E;have eL:E.length=1:=by rw[hE];simp
 have cu:cut (Bo E) 0 (1*5)=Bo E:=cut_all (by omega);simp(disch:=(try simp only[Ad]);omega)only[Ag,DQ,↓Ac,Ae,↓reduceIte,↓reduceDIte,↓Qe,Qu,Qv,Qw,Qx,Qy,Qz,QA,QB,QC,QD,QE,QF,QG,QH,QI,QK];refine Ab.frozenE (EW 29 G4 [Nd.mk k t ks l] false (by simp) fun s _=>MP s) (by rfl) ?_;cases hnr:[Nd.mk k t ks l].any G4
 ·simp(disch:=(try simp only[Ad]);omega)only[Ag,DQ,frz,↓Ac,Ae,↓reduceIte,↓reduceDIte,↓Qe,Qu,Qv,Qw,Qx,Qy,Qz,QA,QB,QC,QD,QE,QF,QG,QH,QI,QK];refine Ab.of hV (by rfl) ?_;cases okv
  ·rw[if_neg (by simp)] at hr;subst hr;simp(disch:=(try simp only[Ad]);omega)only[Ag,DQ,↓Ac,Ae,↓reduceIte,↓reduceDIte,↓Qe,Qu,Qv,Qw,Qx,Qy,Qz,QA,QB,QC,QD,QE,QF,QG,QH,QI,QK];first
   | done
   | rfl
  simp(disch:=(try simp only[Ad]);omega)only[Ag,DQ,↓Ac,Ae,↓reduceIte,↓reduceDIte,↓Qe,Qu,Qv,Qw,Qx,Qy,Qz,QA,QB,QC,QD,QE,QF,QG,QH,QI,QK];refine Ab.pure (Ea hT name (by omega)) ?_;cases hv:Lib.validD name
  ·rw[if_neg (by rw[hv];simp)] at hr;subst hr;simp(disch:=(try simp only[Ad]);omega)only[Ag,DQ,↓Ac,Ae,↓reduceIte,↓reduceDIte,↓Qe,Qu,Qv,Qw,Qx,Qy,Qz,QA,QB,QC,QD,QE,QF,QG,QH,QI,QK];first
   | done
   | rfl
  rw[if_pos ⟨rfl,hnr,hv⟩] at hr;obtain ⟨c1,c2,c3⟩:=hc rfl;obtain ⟨L',H',g1,g2,g3,g4⟩:=IA (G:=G) false E false c1 c2;simp(disch:=(try simp only[Ad]);omega)only[Ag,DQ,cu,eE,↓Ac,Ae,↓reduceIte,↓reduceDIte,↓Qe,Qu,Qv,Qw,Qx,Qy,Qz,QA,QB,QC,QD,QE,QF,QG,QH,QI,QK];obtain ⟨ρ,hρ⟩:∃ ρ,ρ=outN [] 4:=⟨_,rfl⟩;have g5:=g2.shift [.box [.d (.int .i64 k),.d (S t),.d (Ss ks false),.d (.sl l.length false (A0 l))],.row false [.int .i64 k,.str (bs t),.sl ks.length false (strs ks),.sl l.length false (A0 l)],.row true (Bo E),.box [.d (.int .i64 id),.d (.sl 0 true [])]];obtain ⟨y,y1,⟨y2,y3,⟨q,y4,y5,y6⟩,y7⟩⟩:=Vt hT hP N (F:=3) (j:=none) (ts:=[]) (id:=id) (name:=name) c3 ⟨g5,(show NoX _ by simp[NoX]).app (g3.ren _),i1,i2,by simp,rfl,rfl,by simp,fun a ha=>⟨by rw[De];simp;omega,by simp⟩⟩;have hne:H'≠[]:=by intro c;have:=g2.lt (.n 0) (by show 0<8+_;omega);rw[c] at this;simp at this
  simp only[g4,AbO,AbQ,AdR,AdS,<-hρ] at y1;have y2':=y2;simp only[AbP,AbO,AbQ,AdC,AdR,AdS] at y2';refine Ab.newgo g1 (by rw[<-eL]) hne (by simp[frz]) (by simp[frz,applyW];rfl) ?_;intro tt;rw[FG];simp only[AbO,AbQ,AdR,AdS,<-hρ];simp(disch:=(try simp only[Ad]);omega)only[Ag,DQ,WU,↓Ac,Ae,↓reduceIte,↓reduceDIte,↓Qe,Qu,Qv,Qw,Qx,Qy,Qz,QA,QB,QC,QD,QE,QF,QG,QH,QI,QK];first
  | (refine Aq.go y1 ⟨.inl rfl,.inl rfl,.inr (.inr ⟨_,rfl,rfl,.inl rfl⟩),trivial⟩ (by simp;omega) ?_)
  cases e:(FSa N (AL false E) id name []).2
  ·rw[if_neg (by rw[e];simp)] at hr;subst hr;simp(disch:=(try simp only[Ad]);omega)only[Ag,DQ,WU,↓Ac,Ae,↓reduceIte,↓reduceDIte,↓Qe,Qu,Qv,Qw,Qx,Qy,Qz,QA,QB,QC,QD,QE,QF,QG,QH,QI,QK];first
   | done
   | rfl
  rw[if_pos e] at hr;subst hr;generalize (FSa N (AL false E) id name []).1=ts at *;have tl:=EA ts;have cu2:cut (C9 ts) 0 (ts.length*3)=C9 ts:=cut_all (by omega);simp(disch:=(try simp only[Ad]);omega)only[Ag,DQ,WU,y5,y6,tl,cu2,Kw,flB,AG,↓Ac,Ae,↓reduceIte,↓reduceDIte,↓Qe,Qu,Qv,Qw,Qx,Qy,Qz,QA,QB,QC,QD,QE,QF,QG,QH,QI,QK];first
  | done
  | rfl
 rw[if_neg (by rw[hnr];simp)] at hr;subst hr;simp(disch:=(try simp only[Ad]);omega)only[Ag,DQ,frz,↓Ac,Ae,↓reduceIte,↓reduceDIte,↓Qe,Qu,Qv,Qw,Qx,Qy,Qz,QA,QB,QC,QD,QE,QF,QG,QH,QI,QK];refine Ab.of hV (by rfl) ?_;cases okv
 ·simp(disch:=(try simp only[Ad]);omega)only[Ag,DQ,↓Ac,Ae,↓reduceIte,↓reduceDIte,↓Qe,Qu,Qv,Qw,Qx,Qy,Qz,QA,QB,QC,QD,QE,QF,QG,QH,QI,QK];first
  | done
  | rfl
 simp(disch:=(try simp only[Ad]);omega)only[Ag,DQ,↓Ac,Ae,↓reduceIte,↓reduceDIte,↓Qe,Qu,Qv,Qw,Qx,Qy,Qz,QA,QB,QC,QD,QE,QF,QG,QH,QI,QK];first
 | done
 | rfl
end
namespace Num
open Go Go.Proofs Go.Abs
variable {G:Ah}
def trimLeftSet_spec (s l:List UInt8) (hs:s.length<=9223372036854775807) (hl:l.length<2^62) (h2:2<=l.length) (ha:∀ b∈l,b.toNat<128):Ctr TP G 114 [.d (S s),.d (S l)] [] (.d (S (trimL l s))) []:=by
 refine Ctr.pure (M:=M0) Al Tryz.func114 rfl AcX ?_;have q:=@setB_length l;simp(disch:=(try simp only[Ad]);omega)only[Ag,setB_refs,setB_pass,setB_sids,setB_ren,Tryz.f114,↓Ac,Ae,↓reduceIte,↓reduceDIte,↓Qe,Qu,Qv,Qw,Qx,Qy,Qz,QA,QB,QC,QD,QE,QF,QG,QH,QI,QK];refine ⟨fun h=>⟨fun h3=>?_,fun h3=>?_⟩,fun h=>?_⟩;·subst h3;simp at h2
 ·refine Ab.pure (makeSet_spec l hl ha) ?_;have tk:(setD l).take 256=setD l:=List.take_of_length_le (by rw[setD_length];omega);simp(disch:=(try simp only[Ad]);omega)only[Ag,↓ setB_putL',setB_putL',setB_fold,q,setB_refs,setB_pass,setB_sids,setB_ren,↓Ac,Ae,↓reduceIte,↓reduceDIte,↓Qe,Qu,Qv,Qw,Qx,Qy,Qz,QA,QB,QC,QD,QE,QF,QG,QH,QI,QK];refine ⟨setB_one,?_⟩;refine Ab.by (Kv l s hs) (by rfl) (by rfl) (AbS _) ?_;simp(disch:=(try simp only[Ad]);omega)only[Ag,setB_fold,setB_refs,setB_pass,setB_sids,setB_ren,↓Ac,Ae,↓reduceIte,↓reduceDIte,↓Qe,Qu,Qv,Qw,Qx,Qy,Qz,QA,QB,QC,QD,QE,QF,QG,QH,QI,QK]
 subst h;rfl
end Num
section
open Go Go.Proofs Go.Abs
def FB:List UInt8:=[32,9,10,13]
def AN (s:List UInt8):List UInt8:=Num.trimL FB s
def FZ (b:UInt8) (s:List UInt8):AN (b::s)=if FB.contains b=true then AN s else b::s:=by unfold AN Num.trimL;rw[Ad0]
def EH (s:List UInt8):(AN s).length<=s.length:=(Ad9 _).length_le
def sgn (c:UInt8) (s:List UInt8):List UInt8 × Bool:=match AN s with
 | []=>([],false)
 | x::r=>if x=c then (r,true) else (x::r,false)
def UW {c:UInt8} {s:List UInt8} (h:AN s=[]):sgn c s=([],false):=by unfold sgn;rw[h]
def Lz {c:UInt8} {s r:List UInt8} (h:AN s=c::r):sgn c s=(r,true):=by unfold sgn;rw[h];simp
def L7 {c b:UInt8} {s r:List UInt8} (h:AN s=b::r) (hb:¬b=c):sgn c s=(b::r,false):=by unfold sgn;rw[h];simp[hb]
def NS (c:UInt8) (s:List UInt8):(sgn c s=(AN s,false)/\(AN s).head?≠some c)\/∃ r,AN s=c::r/\sgn c s=(r,true):=by
 cases h:AN s with
 | nil=>exact .inl ⟨UW h,by simp⟩
 | cons b r =>
  by_cases e:b=c;·subst e;exact .inr ⟨r,rfl,Lz h⟩
  exact .inl ⟨L7 h e,by simpa using e⟩
def A7 (c:UInt8) (s:List UInt8):(sgn c s).1.length<=s.length:=by
 have:=EH s;rcases NS c s with ⟨h,_⟩ | ⟨r,h1,h⟩
 ·rw[h];exact this
 rw[h];rw[h1,AbO] at this;simp only;omega
def EL {c:UInt8} {s:List UInt8} (h:(sgn c s).2=true):(sgn c s).1.length+1<=s.length:=by
 have:=EH s;rcases NS c s with ⟨e,_⟩ | ⟨r,h1,e⟩
 ·rw[e] at h;cases h
 rw[e];rw[h1,AbO] at this;simp only;omega
def Gx (b:UInt8):UInt8:=if b=92 then 92 else if b=34 then 34 else if b=110 then 10 else if b=114 then 13 else if b=116 then 9 else 0
def Dd:List UInt8->List UInt8->List UInt8 × List UInt8 × Bool
 | [],_=>([],[],false)
 | [c],out=>if c=34 then ([],out,true) else ([],[],false)
 | c::e::r,out=>if c=34 then (e::r,out,true) else if c<32 then (e::r,[],false) else if c=92 then (if Gx e=0 then (e::r,[],false) else Dd r (out++[Gx e])) else Dd (e::r) (out++[c])
def Mj (out:List UInt8):Dd [] out=([],[],false):=by rw[Dd]
def Ml (r out:List UInt8):Dd (34::r) out=(r,out,true):=by cases r<;>rw[Dd]<;>simp
def R0 {c:UInt8} (h:c<32) (h2:¬c=34) (r out:List UInt8):Dd (c::r) out=(r,[],false):=by
 cases r with
 | nil=>rw[Dd,if_neg h2]
 | cons e r=>rw[Dd,if_neg h2,if_pos h]
def N7 (out:List UInt8):Dd [92] out=([],[],false):=by rw[Dd,if_neg (by decide)]
def R1 {e:UInt8} (h:Gx e=0) (r out:List UInt8):Dd (92::e::r) out=(e::r,[],false):=by rw[Dd,if_neg (by decide),if_neg (by decide),if_pos rfl,if_pos h]
def Mk {e:UInt8} (h:¬Gx e=0) (r out:List UInt8):Dd (92::e::r) out=Dd r (out++[Gx e]):=by rw[Dd,if_neg (by decide),if_neg (by decide),if_pos rfl,if_neg h]
def J2 {c:UInt8} (h1:¬c=34) (h2:¬c<32) (h3:¬c=92) (r out:List UInt8):Dd (c::r) out=Dd r (out++[c]):=by
 cases r with
 | nil=>rw[Mj,Dd,if_neg h1]
 | cons e r=>rw[Dd,if_neg h1,if_neg h2,if_neg h3]
def F8 {P:List UInt8->List UInt8->List UInt8 × List UInt8 × Bool->Prop} (p0:∀ out,P [] out ([],[],false)) (p1:∀ r out,P (34::r) out (r,out,true)) (p2:∀ c r out,P (c::r) out (r,[],false))
  (p3:∀ e r out,P r (out++[Gx e]) (Dd r (out++[Gx e]))->P (92::e::r) out (Dd r (out++[Gx e]))) (p4:∀ c r out,P r (out++[c]) (Dd r (out++[c]))->P (c::r) out (Dd r (out++[c]))) :
  ∀ (n:Nat) (s out:List UInt8),s.length<=n->P s out (Dd s out)
 | _,[],out,_=>by rw[Mj];exact p0 out
 | 0,c::r,out,h=>by simp at h
 | n+1,c::r,out,h=>by
   rw[AbO] at h;by_cases h34:c=34;·subst h34;rw[Ml];exact p1 r out
   by_cases h32:c<32;·rw[R0 h32 h34];exact p2 c r out
   by_cases h92:c=92
   ·subst h92;cases r with
    | nil=>rw[N7];exact p2 92 [] out
    | cons e r2 =>
     rw[AbO] at h;by_cases e0:Gx e=0;·rw[R1 e0];exact p2 92 (e::r2) out
     rw[Mk e0];exact p3 e r2 out (F8 p0 p1 p2 p3 p4 n r2 _ (by omega))
   rw[J2 h34 h32 h92];exact p4 c r out (F8 p0 p1 p2 p3 p4 n r _ (by omega))
def RZ (n:Nat) (s out:List UInt8) (h:s.length<=n):(Dd s out).1.length<=s.length:=by
 refine F8 (P:=fun s out r=>r.1.length<=s.length) (fun _=>AbS _) (fun r _=>by simp) (fun c r _=>by simp) (fun e r out ih=>?_) (fun c r out ih=>?_) n s out h;·simp only[AbO];omega
 simp only[AbO];omega
def XI (n:Nat) (s out:List UInt8) (h:s.length<=n):(Dd s out).2.1.length<=s.length+out.length:=by
 refine F8 (P:=fun s out r=>r.2.1.length<=s.length+out.length) (fun out=>by simp) (fun r out=>by simp only[AbO];omega) (fun c r out=>by simp) (fun e r out ih=>?_) (fun c r out ih=>?_) n s out h;·simp only[AbP,AbO,AbQ] at ih ⊢;omega
 simp only[AbP,AbO,AbQ] at ih ⊢;omega
def quo (s:List UInt8):List UInt8 × List UInt8 × Bool:=if (sgn 34 s).2=true then Dd (sgn 34 s).1 [] else ((sgn 34 s).1,[],false)
def U4 (s:List UInt8):(quo s).1.length<=s.length:=by
 have:=A7 34 s;unfold quo;split;·have:=RZ _ (sgn 34 s).1 [] (AbS _);omega
 exact this
def XH {s:List UInt8} (h:(quo s).2.2=true):(quo s).1.length+1<=s.length:=by
 unfold quo at h ⊢;split at h;·rename_i e;rw[if_pos e];have:=EL e;have:=RZ _ (sgn 34 s).1 [] (AbS _);omega
 cases h
def U3 (s:List UInt8):(quo s).2.1.length<=s.length:=by
 have:=A7 34 s;unfold quo;split;·have:=XI _ (sgn 34 s).1 [] (AbS _);simp only[AbQ] at this;omega
 simp
def Hf:List UInt8:=[48,49,50,51,52,53,54,55,56,57]
def D0 (s:List UInt8):Nat:=s.length-(Num.trimL Hf s).length
def Fd (s:List UInt8):D0 s<=s.length:=Nat.sub_le _ _
def Ec (s:List UInt8):Nat:=match s with
 | []=>0
 | c::_=>if c=43\/c=45 then 1 else 0
def ZD (s:List UInt8):Ec s<=s.length:=by
 cases s with
 | nil=>simp[Ec]
 | cons c r=>simp only[Ec,AbO];split<;>omega
def K8 (s:List UInt8):Nat :=
 if D0 (s.drop (Ec s))=0 then 0
 else if hasP (s.drop (Ec s+D0 (s.drop (Ec s)))) [46]=true/\0<D0 (s.drop (Ec s+D0 (s.drop (Ec s))+1)) then
  Ec s+D0 (s.drop (Ec s))+(1+D0 (s.drop (Ec s+D0 (s.drop (Ec s))+1)))
 else Ec s+D0 (s.drop (Ec s))
def Vd (s:List UInt8):K8 s<=s.length:=by
 have h1:=ZD s;have h2:=Fd (s.drop (Ec s));have h3:=Fd (s.drop (Ec s+D0 (s.drop (Ec s))+1));rw[AbY] at h2 h3;unfold K8;split;·omega
 split;·rename_i h;omega
 omega
def Jj:List UInt8:=[110,117,108,108]
def DD (s:List UInt8):List UInt8 × Nd × Bool :=
 if hasP (AN s) [34]=true then ((quo (AN s)).1,.mk 4 (quo (AN s)).2.1 [] [],(quo (AN s)).2.2)
 else if hasP (AN s) Jj=true then ((AN s).drop 4,.mk 1 [] [] [],true)
 else if hasP (AN s) Fx=true then ((AN s).drop 4,.mk 2 Fx [] [],true)
 else if hasP (AN s) FP=true then ((AN s).drop 5,.mk 2 FP [] [],true)
 else ((AN s).drop (K8 (AN s)),.mk 3 ((AN s).take (K8 (AN s))) [] [],decide (0<K8 (AN s)))
def U0 {s:List UInt8} (h:(DD s).2.2=true):(DD s).1.length+1<=s.length:=by
 have hw:=EH s;unfold DD at h ⊢;split at h;·rename_i e;rw[if_pos e];have:=XH (s:=AN s) h;simp only;omega
 rename_i e;rw[if_neg e];split at h;·rename_i e2;rw[if_pos e2];have:=hasP_le e2;simp only[AbY,Jj,AbO,AbQ] at this ⊢;omega
 rename_i e2;rw[if_neg e2];split at h;·rename_i e3;rw[if_pos e3];have:=hasP_le e3;simp only[AbY,Fx,AbO,AbQ] at this ⊢;omega
 rename_i e3;rw[if_neg e3];split at h;·rename_i e4;rw[if_pos e4];have:=hasP_le e4;simp only[AbY,FP,AbO,AbQ] at this ⊢;omega
 rename_i e4;rw[if_neg e4];have:=of_decide_eq_true h;have:=Vd (AN s);simp only[AbY];omega
inductive PSt where
 | beg (rest:List UInt8) (st:List Nd)
 | got (rest:List UInt8) (st:List Nd) (n:Nd)
 | bad
def Es (t:Nd) (k:List UInt8):Nd:=.mk t.kind t.text (t.keys++[k]) t.kids
def Cs (t:Nd) (n:Nd):Nd:=.mk t.kind t.text t.keys (t.kids++[n])
def Eo (rest:List UInt8) (t:Nd) (st:List Nd):PSt :=
 if t.kind=5 then .beg rest (t::st)
 else if (quo rest).2.2=true/\(sgn 58 (quo rest).1).2=true then .beg (sgn 58 (quo rest).1).1 (Es t (quo rest).2.1::st) else .bad
def AH (k:Int):UInt8:=if k=5 then 93 else 125
def FH (k:Int) (rest:List UInt8) (st:List Nd):PSt :=
 if (sgn (AH k) rest).2=true then .got (sgn (AH k) rest).1 st (.mk k [] [] []) else Eo (sgn (AH k) rest).1 (.mk k [] [] []) st
def CF (rest:List UInt8) (st:List Nd):PSt :=
 if (sgn 91 rest).2=true then FH 5 (sgn 91 rest).1 st
 else if (sgn 123 (sgn 91 rest).1).2=true then FH 6 (sgn 123 (sgn 91 rest).1).1 st
 else if (DD (sgn 123 (sgn 91 rest).1).1).2.2=true then .got (DD (sgn 123 (sgn 91 rest).1).1).1 st (DD (sgn 123 (sgn 91 rest).1).1).2.1 else .bad
def Ic (rest:List UInt8) (t:Nd) (st:List Nd) (n:Nd):PSt :=
 if (sgn 44 rest).2=true then Eo (sgn 44 rest).1 (Cs t n) st
 else if (sgn (AH t.kind) (sgn 44 rest).1).2=true then .got (sgn (AH t.kind) (sgn 44 rest).1).1 st (Cs t n) else .bad
def muP:PSt->Nat
 | .beg r _=>r.length+2
 | .got r _ _=>r.length+2
 | .bad=>1
def Vh (rest:List UInt8) (t:Nd) (st:List Nd):muP (Eo rest t st)<=rest.length+2:=by
 unfold Eo;split;·exact AbS _
 split
 ·have h1:=A7 58 (quo rest).1;have h2:=U4 rest;show (sgn 58 (quo rest).1).1.length+2<=_
  omega
 show 1<=_;omega
def U9 (k:Int) (rest:List UInt8) (st:List Nd):muP (FH k rest st)<=rest.length+2:=by
 have h1:=A7 (AH k) rest;unfold FH;split;·show (sgn (AH k) rest).1.length+2<=_;omega
 have:=Vh (sgn (AH k) rest).1 (.mk k [] [] []) st;omega
def Rh (rest:List UInt8) (st:List Nd):muP (CF rest st)<rest.length+2:=by
 have h1:=A7 91 rest;have h2:=A7 123 (sgn 91 rest).1;unfold CF;split
 ·rename_i e;have:=EL e;have:=U9 5 (sgn 91 rest).1 st;omega
 split;·rename_i e;have:=EL e;have:=U9 6 (sgn 123 (sgn 91 rest).1).1 st;omega
 split
 ·rename_i e;have:=U0 e;show (DD (sgn 123 (sgn 91 rest).1).1).1.length+2<_
  omega
 show 1<_;omega
def LH (rest:List UInt8) (t:Nd) (st:List Nd) (n:Nd):muP (Ic rest t st n)<rest.length+2:=by
 have h1:=A7 44 rest;have h2:=A7 (AH t.kind) (sgn 44 rest).1;unfold Ic;split
 ·rename_i e;have:=EL e;have:=Vh (sgn 44 rest).1 (Cs t n) st;omega
 split
 ·rename_i e;have:=EL e;show (sgn (AH t.kind) (sgn 44 rest).1).1.length+2<_
  omega
 show 1<_;omega
def VU:Nat->PSt->Option (List UInt8 × Nd)
 | 0,_=>none
 | k+1,x=>match x with
   | .bad=>none
   | .beg r st=>VU k (CF r st)
   | .got r [] n=>some (r,n)
   | .got r (t::st) n=>VU k (Ic r t st n)
def HF:∀ (a b:Nat) (x:PSt),muP x<=a->muP x<=b->VU a x=VU b x
 | 0,_,x,h,_=>by cases x<;>simp[muP] at h
 | _,0,x,_,h=>by cases x<;>simp[muP] at h
 | a+1,b+1,x,ha,hb=>by
   cases x with
   | bad=>rfl
   | beg r st =>have:=Rh r st;simp only[muP] at ha hb;exact HF a b (CF r st) (by omega) (by omega)
   | got r st n =>
    cases st with
    | nil=>rfl
    | cons t st =>have:=LH r t st n;simp only[muP] at ha hb;exact HF a b (Ic r t st n) (by omega) (by omega)
def Dc (x:PSt):Option (List UInt8 × Nd):=VU (muP x) x
def GS:Dc .bad=none:=rfl
def XF (r:List UInt8) (n:Nd):Dc (.got r [] n)=some (r,n):=rfl
def Ee (r:List UInt8) (st:List Nd):Dc (.beg r st)=Dc (CF r st):=by have:=Rh r st;exact HF (r.length+1) _ (CF r st) (by omega) (AbS _)
def FF (r:List UInt8) (t:Nd) (st:List Nd) (n:Nd):Dc (.got r (t::st) n)=Dc (Ic r t st n):=by have:=LH r t st n;exact HF (r.length+1) _ (Ic r t st n) (by omega) (AbS _)
def Gc (data:List UInt8):Nd × Int :=
 match Dc (.beg data []) with
 | none=>(noN,4)
 | some (r,n)=>if Lib.validD data=true/\AN r=[] then (if Bg n 0=true then (n,0) else (noN,1)) else (noN,4)
def okP (N:Nat):PSt->Prop
 | .beg r st=>st.length+r.length<=N/\∀ t∈st,t.keys.length+r.length<=N/\t.kids.length+r.length<=N
 | .got r st n=>st.length+r.length+1<=N/\∀ t∈st,t.keys.length+r.length+1<=N/\t.kids.length+r.length+1<=N
 | .bad=>True
end
section
open Go Go.Proofs Go.Abs
variable {G:Ah}
end
section
open Go Go.Proofs Go.Abs
def OM (c b:UInt8):∀ s:List UInt8,b∈s->b∈Num.cutL c s\/b=c\/b∈Num.cutR c s
 | [],h=>by cases h
 | x::l,h=>by
   rw[Num.cutL,Num.cutR];by_cases e:x=c
   ·rw[if_pos e,if_pos e];rcases Adt.1 h with rfl | h
    ·exact .inr (.inl e)
    exact .inr (.inr h)
   rw[if_neg e,if_neg e];rcases Adt.1 h with rfl | h
   ·exact .inl (by simp)
   rcases OM c b l h with h | h | h
   ·exact .inl (AbZ _ h)
   ·exact .inr (.inl h)
   exact .inr (.inr h)
def ON (c:UInt8):∀ s:List UInt8,s.length<=(Num.cutL c s).length+1+(Num.cutR c s).length
 | []=>by simp
 | x::l=>by
   have ih:=ON c l;rw[Num.cutL,Num.cutR];by_cases e:x=c;·rw[if_pos e,if_pos e];simp;omega
   rw[if_neg e,if_neg e];simp only[AbO];omega
def dig_range {c:UInt8} (h:Num.isD c):48<=c.toNat/\c.toNat<=57:=h
def Um {s:List UInt8} (h:Num.decOk s=true):s.length<=26/\∀ b∈s,43<=b.toNat/\b.toNat<=57:=by
 have hb:(Num.decBody s).length<=25/\∀ b∈Num.decBody s,43<=b.toNat/\b.toNat<=57:=by
  unfold Num.decOk at h;rw[AbV] at h;obtain ⟨h1,h2⟩:=h;obtain ⟨q1,q2,q3⟩:=Num.digB_iff.1 h1;by_cases e:(46:UInt8)∈Num.decBody s
  ·rw[decide_eq_true e] at h2;obtain ⟨p1,p2,p3⟩:=Num.digB_iff.1 (show Num.digB (Num.decB s) 9=true by simpa using h2);have hl:=ON 46 (Num.decBody s);refine ⟨by unfold Num.decF at q2;unfold Num.decB at p2;omega,fun b hb=>?_⟩;rcases OM 46 b _ hb with hb | hb | hb
   ·have:=dig_range (q3 b hb);omega
   ·subst hb;decide
   have:=dig_range (p3 b hb);omega
  have e2:Num.cutL 46 (Num.decBody s)=Num.decBody s:=((Num.cut_index 46 (Num.decBody s)).2 e).2.1;unfold Num.decF at q2 q3;rw[e2] at q2 q3;exact ⟨by omega,fun b hb=>by have:=dig_range (q3 b hb);omega⟩
 have gen:∀ x:UInt8,43<=x.toNat/\x.toNat<=57->Num.hasP s [x]=true->Num.decBody s=s.drop 1->s.length<=26/\∀ b∈s,43<=b.toNat/\b.toNat<=57:=by
  intro x hx hp hd;rw[hd] at hb;cases s with
  | nil=>exact ⟨by simp,fun b hb=>by cases hb⟩
  | cons c r =>
   have e:=of_decide_eq_true hp;simp at e;subst e;simp only[List.drop_succ_cons,List.drop_zero] at hb;refine ⟨by simp;omega,fun b h=>?_⟩;rcases Adt.1 h with rfl | h
   ·exact hx
   exact hb.2 b h
 by_cases c1:Num.hasP s [45]=true;·exact gen 45 (by decide) c1 (by unfold Num.decBody;rw[if_pos c1])
 by_cases c2:Num.hasP s [43]=true;·exact gen 43 (by decide) c2 (by unfold Num.decBody;rw[if_neg c1,if_pos c2])
 have:Num.decBody s=s:=by unfold Num.decBody;rw[if_neg c1,if_neg c2]
 rw[this] at hb;exact ⟨by omega,hb.2⟩
def M8 {s:List UInt8} (h:Num.decOk s=true):A2 s=true:=by obtain ⟨h1,h2⟩:=Um h;unfold A2;rw[decide_eq_true (show s.length<=1024 by omega),BQ s fun b hb=>by have:=h2 b hb;omega,Aeg,Aeg,AdV];refine Ad5.2 fun b hb=>?_;have:=h2 b hb;unfold Hi NF;simp;omega
def FO {s:List UInt8} (h:A2 s=true):s.length<=1024:=by unfold A2 at h;rw[AbV] at h;exact of_decide_eq_true h.1
structure OkN (n:Nd) (a:Nat):Prop where
 kind:1<=n.kind/\n.kind<=6
 deep:a<16
 scal:Db n.kind n.text=true
 text:n.text.length<=1024
 recd:n.kind=6->n.keys.length=n.kids.length/\n.keys.Nodup/\∀ s∈n.keys,A2 s=true
 nrecd:n.kind≠6->n.keys=[]
 leaf:n.kind≠5->n.kind≠6->n.kids=[]
 kids:∀ k∈n.kids,Bg k (a+1)=true
def Oc {a:Nat}:∀ {l:List Nd},Eg l a=true->∀ n∈l,Bg n a=true
 | [],_,n,h=>by cases h
 | x::r,h,n,hn=>by
   rw[Eg,AbV] at h;rcases Adt.1 hn with rfl | hn
   ·exact h.1
   exact Oc h.2 n hn
def Xw {k:Int} {t:List UInt8} (h:Db k t=true):t.length<=1024:=by
 unfold Db at h;split at h;·rcases of_decide_eq_true h with rfl | rfl<;>decide
 split at h;·exact FO (M8 h)
 split at h;·exact FO h
 rw[of_decide_eq_true h];simp
def Em {n:Nd} {a:Nat} (h:Bg n a=true):OkN n a:=by
 obtain ⟨k,t,ks,l⟩:=n;rw[Bg] at h;simp only[AbV,Aea,decide_eq_true_eq] at h;obtain ⟨h1,h2,h3,h4,h5,h6⟩:=h;refine ⟨h1,h2,h3,Xw h3,fun k6=>?_,fun k6=>?_,fun k5 k6=>?_,Oc h6⟩;·have k6:k=6:=k6;unfold Fa at h4;rw[if_pos k6] at h4;simp only[AbV,decide_eq_true_eq,AdX] at h4;exact ⟨h4.1,h4.2.1,h4.2.2⟩
 ·have k6:¬k=6:=k6;unfold Fa at h4;rw[if_neg k6] at h4;exact Ad6.1 (of_decide_eq_true h4)
 have k5:¬k=5:=k5;have k6:¬k=6:=k6;rcases h5 with h5 | h5
 ·omega
 exact Ad6.1 h5
mutual
def J6:∀ (n:Nd) (a:Nat),Bg n (a+1)=true->Bg n a=true
 | .mk k t ks l,a,h=>by rw[Bg] at h ⊢;simp only[AbV,decide_eq_true_eq] at h ⊢;exact ⟨h.1,by omega,h.2.2.1,h.2.2.2.1,h.2.2.2.2.1,Mu l (a+1) h.2.2.2.2.2⟩
def Mu:∀ (l:List Nd) (a:Nat),Eg l (a+1)=true->Eg l a=true
 | [],_,_=>rfl
 | n::r,a,h=>by rw[Eg] at h ⊢;simp only[AbV] at h ⊢;exact ⟨J6 n a h.1,Mu r a h.2⟩
end
mutual
def Mh:∀ (n:Nd) (a:Nat),Bg n a=true->GT n
 | .mk k t ks l,a,h=>by
   have o:=Em h;rw[Bg] at h;simp only[AbV] at h;refine ⟨fun k6=>(o.recd k6).1,fun s hs=>?_,N4 l (a+1) h.2.2.2.2.2⟩;by_cases k6:k=6;·have:=FO ((o.recd k6).2.2 s hs);omega
   have:=o.nrecd k6;have e:ks=[]:=this;rw[e] at hs;cases hs
def N4:∀ (l:List Nd) (a:Nat),Eg l a=true->Mg l
 | [],_,_=>trivial
 | n::r,a,h=>by rw[Eg,AbV] at h;exact ⟨Mh n a h.1,N4 r a h.2⟩
end
def UD (a P:Nat):Pt->Prop
 | .c p x=>p.length<=P/\x.1.length<=1024
 | .l p kids=>p.length<=P/\∀ k∈kids,Bg k (a+1)=true
def OX {n:Nd} {a:Nat} (h:Bg n a=true):(B2 n).1.length<=1024:=by
 unfold B2;split;·exact (Em h).text
 simp
mutual
def R3:∀ (n:Nd) (a b:Nat) (front:List UInt8),Bg n a=true->b<=a->n.kind=6->∀ q∈Dp n front,UD b (front.length+1025*(16-a)) q
 | .mk k t ks l,a,b,front,h,hb,h6,q,hq=>by
   have o:=Em h;have k6:k=6:=h6;have hd:a<16:=o.deep;obtain ⟨r1,r2,r3⟩:=o.recd h6;have r1:ks.length=l.length:=r1;have r3:∀ s∈ks,A2 s=true:=r3;have hk:Eg l (a+1)=true:=(by rw[Bg] at h;simp only[AbV] at h;exact h.2.2.2.2.2)
   have:=N8 l (a+1) b front ks hk (by omega) (fun s hs=>FO (r3 s hs)) q hq;have e:1025+1025*(16-(a+1))<=1025*(16-a):=(by omega)
   cases q with
   | c p x=>exact ⟨by have:=this.1;omega,this.2⟩
   | l p x=>exact ⟨by have:=this.1;omega,this.2⟩
def N8:∀ (l:List Nd) (a b:Nat) (front:List UInt8) (ks:List (List UInt8)),Eg l a=true->b+1<=a->(∀ s∈ks,s.length<=1024)->∀ q∈Gb l front ks,UD b (front.length+1025+1025*(16-a)) q
 | [],_,_,_,_,_,_,_,q,hq=>by cases hq
 | n::r,a,b,front,ks,h,hb,hs,q,hq=>by
   rw[Eg,AbV] at h;have o:=Em h.1;have hkey:(ks.headD []).length<=1024:=by
    cases ks with
    | nil=>simp
    | cons k kr=>exact hs k (by simp)
   rw[E7] at hq;rcases Ady.1 hq with hq | hq
   ·split at hq
    ·rename_i k6;have:=R3 n a b (front++ks.headD []++[46]) h.1 (by omega) k6 q hq;have e:(front++ks.headD []++[46]).length<=front.length+1025:=(by simp only[AbP,AbO,AbQ];omega)
     cases q with
     | c p x=>exact ⟨by have:=this.1;omega,this.2⟩
     | l p x=>exact ⟨by have:=this.1;omega,this.2⟩
    split at hq
    ·rw[AbU.1 hq];refine ⟨by rw[AbP];omega,fun k hk=>?_⟩;have:=o.kids k hk;have mono:∀ d,Bg k (b+1+d)=true->Bg k (b+1)=true:=by
      intro d;induction d with
      | zero=>exact id
      | succ d ih=>intro h;exact ih (J6 _ _ h)
     exact mono (a-b) (by rw[show b+1+(a-b)=a+1 by omega];exact this)
    rw[AbU.1 hq];exact ⟨by rw[AbP];omega,OX h.1⟩
   exact N8 r a b front ks.tail h.2 hb (fun s hs'=>hs s (List.mem_of_mem_tail hs')) q hq
end
structure LyV (a P:Nat) (s:Ly):Prop where
 abv:∀ x∈s.above,0<=x/\x<1000000
 ps:∀ p∈s.paths,p.length<=P
 cs:∀ r∈s.rows,∀ p c,r p=some c->c.1.length<=1024
 ls:∀ p∈s.lists,p.length<=P
 sv:∀ p,p∈s.lists↔¬s.sv p=0
 nd:s.lists.Nodup
 it:∀ p,∀ e∈s.it p,Bg e.2 (a+1)=true/\0<=e.1/\e.1<1000000
def UD.mono {a P Q:Nat} {q:Pt} (h:UD a P q) (hq:P<=Q):UD a Q q:=by
 cases q with
 | c p x=>exact ⟨Aer h.1 hq,h.2⟩
 | l p x=>exact ⟨Aer h.1 hq,h.2⟩
def LyV.part {a P:Nat} {s:Ly} (h:LyV a P s) (h0:0<s.rows.length) (h1:s.rows.length<=1000000) {q:Pt} (hq:UD a P q):LyV a P (s.part q):=by
 cases q with
 | c p x =>
  refine ⟨h.abv,fun y hy=>?_,fun r hr y c hc=>?_,h.ls,h.sv,h.nd,h.it⟩
  ·have hy:y∈(if p∈s.paths then s.paths else s.paths++[p]):=hy;split at hy;·exact h.ps y hy
   rcases Ady.1 hy with hy | hy
   ·exact h.ps y hy
   rw[AbU.1 hy];exact hq.1
  have hr:r∈s.rows.modify (s.rows.length-1) fun r=>Ln r p x:=hr;obtain ⟨i,hi,e⟩:=List.getElem_of_mem hr;rw[List.getElem_modify] at e;have hi':i<s.rows.length:=by simpa using hi
  split at e
  ·rw[<-e] at hc;unfold Ln at hc;split at hc
   ·cases hx:s.rows[i] p with
    | none =>rw[hx] at hc;cases hc;exact hq.2
    | some d =>rw[hx] at hc;cases hc;exact h.cs _ (Ad7 hi') p d hx
   exact h.cs _ (Ad7 hi') y c hc
  rw[<-e] at hc;exact h.cs _ (Ad7 hi') y c hc
 | l p kids =>
  show LyV a P (s.list p kids)
  unfold Ly.list;split;·exact h
  rename_i hne;refine ⟨h.abv,h.ps,h.cs,fun y hy=>?_,fun y=>?_,?_,fun y e he=>?_⟩
  ·have hy:y∈(if s.sv p=0 then s.lists++[p] else s.lists):=hy;split at hy
   ·rcases Ady.1 hy with hy | hy
    ·exact h.ls y hy
    rw[AbU.1 hy];exact hq.1
   exact h.ls y hy
  ·show y∈(if s.sv p=0 then s.lists++[p] else s.lists)↔¬CW s.sv p s.rows.length y=0
   by_cases e:y=p
   ·subst e;rw[Dm];split;·exact ⟨fun _=>by omega,fun _=>by simp⟩
    rename_i c;exact ⟨fun _=>by omega,fun _=>(h.sv y).2 c⟩
   rw[CV _ _ e,<-h.sv y];split;·simp[e]
   exact Iff.rfl
  ·show (if s.sv p=0 then s.lists++[p] else s.lists).Nodup
   split;·rename_i c;refine Aek.2 ⟨h.nd,by simp,fun x hx y hy e=>?_⟩;rw[AbU.1 hy] at e;subst e;exact (h.sv x).1 hx c
   exact h.nd
  have he:e∈CW s.it p (s.it p++kids.map fun k=>((s.rows.length:Int)-1,k)) y:=he;by_cases c:y=p
  ·subst c;rw[Dm] at he;rcases Ady.1 he with he | he
   ·exact h.it y e he
   obtain ⟨k,hk,rfl⟩:=AdD.1 he;exact ⟨hq.2 k hk,by simp only;omega,by simp only;omega⟩
  rw[CV _ _ c] at he;exact h.it y e he
def LyV.parts {a P:Nat}:∀ (l:List Pt) {s:Ly},LyV a P s->0<s.rows.length->s.rows.length<=1000000->(∀ q∈l,UD a P q)->LyV a P (s.parts l)
 | [],s,h,_,_,_=>h
 | q::r,s,h,h0,h1,hq=>by have:=s.part_rows q;exact LyV.parts r (h.part h0 h1 (hq q (by simp))) (by omega) (by omega) fun x hx=>hq x (AbZ _ hx)
def LyV.row {a P:Nat} {s:Ly} (h:LyV a P s) {x:Int} (h0:0<=x) (h1:x<1000000):LyV a P (s.row x):=by
 refine ⟨fun y hy=>?_,h.ps,fun r hr p c hc=>?_,h.ls,h.sv,h.nd,h.it⟩
 ·rcases Ady.1 hy with hy | hy
  ·exact h.abv y hy
  rw[AbU.1 hy];exact ⟨h0,h1⟩
 rcases Ady.1 hr with hr | hr
 ·exact h.cs r hr p c hc
 rw[AbU.1 hr] at hc;cases hc
def LyV.elm {a:Nat} {s:Ly} (h:LyV a 16500 s) (recs:Bool) {e:Elm} (he:Bg e.2 a=true) (h0:0<=e.1) (h1:e.1<1000000) (hr:s.rows.length+1<=1000000) (hk:recs=true->e.2.kind=6):LyV a 16500 (s.elm recs e):=by
 unfold Ly.elm;refine LyV.parts _ (h.row h0 h1) (by simp[Ly.row]) (by simpa[Ly.row] using hr) fun q hq=>?_;split at hq;·rename_i hrec;have:=R3 e.2 a a [] he (AbS _) (hk hrec) q hq;refine this.mono ?_;rw[AbQ];omega
 rw[AbU.1 hq];exact ⟨by simp[Ii],OX he⟩
def AbJ (a:Nat) (f:Bool):LyV a 16500 (ly0 f):=⟨(fun x hx=>by cases hx),(fun x hx=>by cases hx),(fun x hx=>by cases hx),(fun x hx=>by cases hx),fun p=>⟨(fun hx=>by cases hx),fun hx=>absurd rfl hx⟩,AdW,fun p e he=>by cases he⟩
def gK_V {a:Nat} (recs f:Bool) (l:List Elm) (hl:l.length<=900000) (ho:∀ e∈l,Bg e.2 a=true/\0<=e.1/\e.1<1000000) (hk:recs=true->∀ e∈l,e.2.kind=6):∀ k,k<=l.length->LyV a 16500 (gK recs f l k)
 | 0,_=>AbJ a f
 | k+1,h=>by have hm:l.getD k noE∈l:=E1 (by omega);have hr:=HV recs f l k (by omega);rw[HU recs f l (by omega)];exact (gK_V recs f l hl ho hk k (by omega)).elm recs (ho _ hm).1 (ho _ hm).2.1 (ho _ hm).2.2 (by omega) fun q=>hk q _ hm
def ptZ:Pt->Nat
 | .c _ _=>0
 | .l _ kids=>Ce kids
def Iv:List Pt->Nat
 | []=>0
 | q::r=>ptZ q+Iv r
def XJ (a b:List Pt):Iv (a++b)=Iv a+Iv b:=by
 induction a with
 | nil=>simp[Iv]
 | cons x r ih=>simp only[AdK,Iv,ih];omega
mutual
def Mn:∀ (n:Nd) (front:List UInt8),Iv (Dp n front)<=Ce n.kids
 | .mk _ _ ks l,front=>KG l front ks
def KG:∀ (l:List Nd) (front:List UInt8) (ks:List (List UInt8)),Iv (Gb l front ks)<=Ce l
 | [],_,_=>AbS _
 | n::r,front,ks=>by
   have h2:=KG r front ks.tail;have e:=DF n;rw[E7,XJ,Ce];have h1:Iv (if n.kind=6 then Dp n (front++ks.headD []++[46]) else if n.kind=5 then [.l (front++ks.headD []) n.kids] else [.c (front++ks.headD []) (B2 n)])<=nsz n:=by
    split;·have:=Mn n (front++ks.headD []++[46]);omega
    split;·simp only[Iv,ptZ];omega
    simp only[Iv,ptZ];omega
   omega
end
def M3 (x:Int):∀ l:List Nd,CJ (l.map fun k=>(x,k))=Ce l
 | []=>rfl
 | n::r=>by rw[Ac6,CJ,Ce,M3 x r]
def Abc (s:Ly) (q:Pt) (p:List UInt8):CJ ((s.part q).it p)<=CJ (s.it p)+ptZ q:=by
 cases q with
 | c y x=>exact Ad8 _ _
 | l y kids =>
  show CJ ((s.list y kids).it p)<=_
  unfold Ly.list;split;·exact Ad8 _ _
  show CJ (CW s.it y (s.it y++kids.map fun k=>((s.rows.length:Int)-1,k)) p)<=_
  by_cases e:p=y;·subst e;rw[Dm,M4,M3];exact AbS _
  rw[CV _ _ e];exact Ad8 _ _
def U6:∀ (l:List Pt) (s:Ly) (p:List UInt8),CJ ((s.parts l).it p)<=CJ (s.it p)+Iv l
 | [],_,_=>AbS _
 | q::r,s,p=>by have h1:=U6 r (s.part q) p;have h2:=Abc s q p;have e:s.parts (q::r)=(s.part q).parts r:=rfl;rw[e,Iv];omega
def gK_Z (recs f:Bool) (l:List Elm) (p:List UInt8):∀ k,k<=l.length->CJ ((gK recs f l k).it p)<=CJ (l.take k)
 | 0,_=>AdB _
 | k+1,h=>by
   have ih:=gK_Z recs f l p k (by omega);rw[HU recs f l (by omega),Kh (by omega)];unfold Ly.elm;have h1:=U6 (if recs=true then Dp (l.getD k noE).2 [] else [.c Ii (B2 (l.getD k noE).2)]) ((gK recs f l k).row (l.getD k noE).1) p;have h2:Iv (if recs=true then Dp (l.getD k noE).2 [] else [.c Ii (B2 (l.getD k noE).2)])<=nsz (l.getD k noE).2:=by
    have e:=DF (l.getD k noE).2;split;·have:=Mn (l.getD k noE).2 [];omega
    simp only[Iv,ptZ];omega
   have h3:((gK recs f l k).row (l.getD k noE).1).it p=(gK recs f l k).it p:=rfl;rw[h3] at h1;omega
def V8 {l:List Elm} (h:(!l.any CE)=true):∀ e∈l,e.2.kind=6:=fun e he=>by simp only[AdV,Ad5] at h;have:=h e he;simpa[CE,G4] using this
def Sn {a:Nat} (f:Bool) (l:List Elm) (hz:CJ l<=4000) (ho:∀ e∈l,Bg e.2 a=true/\0<=e.1/\e.1<1000000) :
  LyV a 16500 (AL f l)/\LyB (AL f l) 4000/\(∀ p,CJ ((AL f l).it p)<=CJ l)/\(AL f l).rows.length=l.length/\(AL f l).above.length=l.length:=by
 have hl:=Hd l;have h1:=gK_V (a:=a) (!l.any CE) f l (by omega) ho (fun q=>V8 q) l.length (AbS _);have h2:=PV (!l.any CE) f l (by omega) l.length (AbS _);have h3:=fun p=>gK_Z (!l.any CE) f l p l.length (AbS _);have h4:=HV (!l.any CE) f l l.length (AbS _);have h5:=MV (!l.any CE) f l l.length (AbS _);rw[Yn] at h1 h2 h3 h4 h5;rw[AdJ] at h2 h3;exact ⟨h1,h2.mono hz,h3,h4,h5⟩
def So {a:Nat} (f:Bool) (l:List Elm) (hz:CJ l<=4000) (ho:∀ e∈l,Bg e.2 a=true/\0<=e.1/\e.1<1000000):LyT (AL f l):=by obtain ⟨h1,h2,h3,h4,h5⟩:=Sn (a:=a) f l hz ho;have hl:=Hd l;exact ⟨fun x hx=>by have:=h1.abv x hx;omega,by omega,by have:=h2.paths;omega,by omega,fun p hp=>by have:=h1.ps p hp;omega,fun r hr p c hc=>by have:=h1.cs r hr p c hc;omega⟩
def O9:∀ (n a:Nat) (f:Bool) (l:List Elm) (m:Nat),16<=a+n->CJ l<=4000->(∀ e∈l,Bg e.2 a=true/\0<=e.1/\e.1<1000000)->m+n*16501<=1000000000->Pa (n+1) (AL f l) m
 | 0,a,f,l,m,ha,hz,ho,hm=>by
   have hl:l=[]:=by
    cases l with
    | nil=>rfl
    | cons e r =>have:=(Em (ho e (by simp)).1).deep;omega
   subst hl;exact ⟨So (a:=a) f [] hz ho,by omega,AdB _,AdW,fun p hp=>by cases hp⟩
 | n+1,a,f,l,m,ha,hz,ho,hm=>by obtain ⟨h1,h2,h3,h4,h5⟩:=Sn (a:=a) f l hz ho;refine ⟨So (a:=a) f l hz ho,by omega,by have:=h2.lists;omega,h1.nd,fun p hp=>?_⟩;have hp3:=h3 p;have hpl:=h1.ls p hp;exact ⟨fun e he=>Mh e.2 _ (h1.it p e he).1,by omega,O9 n (a+1) true _ _ (by omega) (by omega) (fun e he=>h1.it p e he) (by rw[Nat.succ_mul] at hm;omega)⟩
def Z9 {n:Nd} (hz:nsz n<=4000) {m:Nat} (hm:m<=1000000) (h:Bg n 0=true):(∀ e∈Eh n,GT e.2)/\CJ (Eh n)<=4000/\Pa 17 (AL false (Eh n)) m:=by
 have o:=Em h;have hk:∀ k∈KN n,Bg k 0=true:=fun k hk=>by
  unfold KN at hk;split at hk;·exact J6 k 0 (o.kids k hk)
  rw[AbU.1 hk];exact h
 have hz2:CJ (Eh n)<=4000:=by
  unfold Eh;rw[M3];unfold KN;split;·have:=DF n;omega
  simp only[Ce];omega
 have ho:∀ e∈Eh n,Bg e.2 0=true/\0<=e.1/\e.1<1000000:=fun e he=>by obtain ⟨k,hk2,rfl⟩:=AdD.1 he;exact ⟨hk k hk2,by simp,by simp⟩
 exact ⟨fun e he=>Mh e.2 0 (ho e he).1,hz2,O9 16 0 false _ _ (by omega) hz2 ho (by omega)⟩
end
section
open Go Go.Proofs Go.Abs
def Lg (b:UInt8):List UInt8:=if b=92 then [92,92] else if b=34 then [92,34] else if b=10 then [92,110] else if b=13 then [92,114] else if b=9 then [92,116] else [b]
def DB (s:List UInt8):List UInt8:=s.flatMap Lg
def BZ (s:List UInt8):List UInt8:=34::(DB s++[34])
mutual
def B9:Nd->List UInt8
 | .mk k t ks l=>if k=1 then Jj else if k=4 then BZ t else if k=5 then 91::(DA false ks l true++[93]) else if k=6 then 123::(DA true ks l true++[125]) else t
def DA (rec:Bool) (ks:List (List UInt8)):List Nd->Bool->List UInt8
 | [],_=>[]
 | n::r,first=>(if first=true then [] else [44])++((if rec=true then BZ (ks.headD [])++[58] else [])++(B9 n++DA rec ks.tail r false))
end
def Ha (rec:Bool) (ks:List (List UInt8)) (f:Bool):DA rec ks [] f=[]:=by rw[DA]
def DY (rec:Bool) (ks:List (List UInt8)) (n:Nd) (r:List Nd) (f:Bool):DA rec ks (n::r) f=(if f=true then [] else [44])++((if rec=true then BZ (ks.headD [])++[58] else [])++(B9 n++DA rec ks.tail r false)):=by rw[DA]
def Wr {b c:UInt8} (h:Lg b=[92,c]):Gx c=b:=by
 unfold Lg at h;split at h;·cases h;rename_i e;subst e;rfl
 split at h;·cases h;rename_i e;subst e;rfl
 split at h;·cases h;rename_i e;subst e;rfl
 split at h;·cases h;rename_i e;subst e;rfl
 split at h;·cases h;rename_i e;subst e;rfl
 cases h
def Gj (b:UInt8):(∃ c,Lg b=[92,c]/\(b=92\/b=34\/b=10\/b=13\/b=9)/\c.toNat<128)\/(Lg b=[b]/\b≠92/\b≠34/\b≠10/\b≠13/\b≠9):=by
 unfold Lg;split;·rename_i e;exact .inl ⟨_,rfl,.inl e,by decide⟩
 split;·rename_i e;exact .inl ⟨_,rfl,.inr (.inl e),by decide⟩
 split;·rename_i e;exact .inl ⟨_,rfl,.inr (.inr (.inl e)),by decide⟩
 split;·rename_i e;exact .inl ⟨_,rfl,.inr (.inr (.inr (.inl e))),by decide⟩
 split;·rename_i e;exact .inl ⟨_,rfl,.inr (.inr (.inr (.inr e))),by decide⟩
 rename_i e1 e2 e3 e4 e5;exact .inr ⟨rfl,e1,e2,e3,e4,e5⟩
def U5:∀ (s rest out:List UInt8),(∀ b∈s,Hi b=false)->Dd (DB s++34::rest) out=(rest,out++s,true)
 | [],rest,out,_=>by rw[DB,List.flatMap_nil,Aeb,Ml,List.append_nil]
 | b::s,rest,out,h=>by
   have hb:=h b (by simp);have ih:=fun o=>U5 s rest o fun x hx=>h x (AbZ _ hx);have e:DB (b::s)=Lg b++DB s:=(by simp[DB])
   rw[e];rcases Gj b with ⟨c,h1,h2,h3⟩ | ⟨h1,h2,h3,h4,h5,h6⟩
   ·have hc:=Wr h1;rw[h1];have e0:¬Gx c=0:=by
     rw[hc];rcases h2 with rfl | rfl | rfl | rfl | rfl<;>decide
    show Dd (92::c::(DB s++34::rest)) out=_
    rw[Mk e0,ih,hc,Ac8];rfl
   rw[h1];have h32:¬b<32:=by
    intro q;unfold Hi NF at hb;have:=of_decide_eq_false hb;have hq:b.toNat<32:=(by simpa using UInt8.lt_iff_toNat_lt.1 q)
    have n9:b.toNat≠9:=fun e=>h6 (UInt8.toNat_inj.1 e);have n10:b.toNat≠10:=fun e=>h4 (UInt8.toNat_inj.1 e);have n13:b.toNat≠13:=fun e=>h5 (UInt8.toNat_inj.1 e);omega
   show Dd (b::(DB s++34::rest)) out=_
   rw[J2 h3 h32 h2,ih,Ac8];rfl
def EC {b:UInt8} (h:FB.contains b=false) (s:List UInt8):AN (b::s)=b::s:=by rw[FZ,h];rfl
def N6 (s rest:List UInt8) (h:∀ b∈s,Hi b=false):quo (BZ s++rest)=(rest,s,true):=by
 have e:BZ s++rest=34::(DB s++34::rest):=by simp[BZ]
 rw[e];unfold quo;rw[Lz (EC (by decide) _)];simp only[if_true];rw[U5 s rest [] h];rfl
def MW {s:List UInt8} (h:A2 s=true):∀ b∈s,Hi b=false:=by unfold A2 at h;simp only[AbV,AdV,Ad5] at h;intro b hb;have:=h.2.2 b hb;simpa using this
def M2 (s:List UInt8):Prop:=∀ b r,s=b::r->b.toNat<43\/b=44\/57<b.toNat
def Jw:∀ (a rest:List UInt8),(∀ b∈a,Num.isD b)->(∀ b r,rest=b::r->¬Num.isD b)->Num.trimL Hf (a++rest)=rest
 | [],rest,_,h=>by
   cases rest with
   | nil=>rfl
   | cons b r =>
    unfold Num.trimL;rw[Aeb,Ad0];have:Hf.contains b=false:=by
     cases e:Hf.contains b with
     | false=>rfl
     | true=>exact absurd (Num.isD_iff.1 e) (h b r rfl)
    rw[this];rfl
 | b::a,rest,h,h2=>by have ih:=Jw a rest (fun x hx=>h x (AbZ _ hx)) h2;unfold Num.trimL at ih ⊢;rw[AdK,Ad0];have:Hf.contains b=true:=Num.isD_iff.2 (h b (by simp));rw[this];exact ih
def SB {a rest:List UInt8} (h:∀ b∈a,Num.isD b) (h2:∀ b r,rest=b::r->¬Num.isD b):D0 (a++rest)=a.length:=by unfold D0;rw[Jw a rest h h2,AbP];omega
def OJ:∀ x:List UInt8,(46:UInt8)∈x->x=Num.cutL 46 x++46::Num.cutR 46 x
 | [],h=>by cases h
 | c::r,h=>by
   rw[Num.cutL,Num.cutR];by_cases e:c=46;·rw[if_pos e,if_pos e,e];rfl
   rw[if_neg e,if_neg e];exact congrArg (c::·) (OJ r ((Adt.1 h).resolve_left fun q=>e q.symm))
def OI {s:List UInt8} (h:Num.decOk s=true):∃ g f b:List UInt8,(g=[]\/g=[43]\/g=[45])/\f≠[]/\(∀ x∈f,Num.isD x)/\(∀ x∈b,Num.isD x)/\(s=g++f/\b=[]\/b≠[]/\s=g++(f++46::b)):=by
 have hb:∃ g,(g=[]\/g=[43]\/g=[45])/\s=g++Num.decBody s:=by
  have gen:∀ x:UInt8,Num.hasP s [x]=true->s=[x]++s.drop 1:=by
   intro x hp;cases s with
   | nil=>simp[Num.hasP] at hp
   | cons c r =>have e:=of_decide_eq_true hp;simp at e;subst e;rfl
  by_cases c1:Num.hasP s [45]=true;·exact ⟨[45],.inr (.inr rfl),by unfold Num.decBody;rw[if_pos c1];exact gen 45 c1⟩
  by_cases c2:Num.hasP s [43]=true;·exact ⟨[43],.inr (.inl rfl),by unfold Num.decBody;rw[if_neg c1,if_pos c2];exact gen 43 c2⟩
  exact ⟨[],.inl rfl,by unfold Num.decBody;rw[if_neg c1,if_neg c2];rfl⟩
 obtain ⟨g,hg,hs⟩:=hb;unfold Num.decOk at h;rw[AbV] at h;obtain ⟨h1,h2⟩:=h;obtain ⟨q1,q2,q3⟩:=Num.digB_iff.1 h1;refine ⟨g,Num.decF s,Num.decB s,hg,fun e=>by rw[e] at q1;simp at q1,q3,?_,?_⟩
 ·by_cases e:(46:UInt8)∈Num.decBody s;·rw[decide_eq_true e] at h2;exact (Num.digB_iff.1 (show Num.digB (Num.decB s) 9=true by simpa using h2)).2.2
  have:Num.decB s=[]:=((Num.cut_index 46 (Num.decBody s)).2 e).2.2;rw[this];intro x hx;cases hx
 by_cases e:(46:UInt8)∈Num.decBody s;·rw[decide_eq_true e] at h2;obtain ⟨p1,p2,p3⟩:=Num.digB_iff.1 (show Num.digB (Num.decB s) 9=true by simpa using h2);refine .inr ⟨fun e=>by rw[e] at p1;simp at p1,?_⟩;have:=OJ _ e;unfold Num.decF Num.decB;rw[<-this];exact hs
 refine .inl ⟨?_,((Num.cut_index 46 (Num.decBody s)).2 e).2.2⟩;have:Num.decF s=Num.decBody s:=((Num.cut_index 46 (Num.decBody s)).2 e).2.1;rw[this];exact hs
def Aah {rest:List UInt8} (h:M2 rest):(∀ b r,rest=b::r->¬Num.isD b)/\∀ b r,rest=b::r->b≠46:=by
 refine ⟨fun b r e q=>?_,fun b r e q=>?_⟩
 ·have h1:=h b r e;obtain ⟨q1,q2⟩:=q;rcases h1 with h1 | h1 | h1
  ·omega
  ·subst h1;exact absurd q1 (by decide)
  omega
 have h1:=h b r e;subst q;rcases h1 with h1 | h1 | h1
 ·exact absurd h1 (by decide)
 ·exact absurd h1 (by decide)
 exact absurd h1 (by decide)
def Abg {b:UInt8} (h:Num.isD b):b≠46:=Num.not_isD_46 h
def Aaj {b:UInt8} (h:Num.isD b):¬(b=43\/b=45):=fun q=>by
 obtain ⟨h1,h2⟩:=h;rcases q with rfl | rfl
 ·exact absurd h1 (by decide)
 exact absurd h1 (by decide)
def Z5 {s:List UInt8} (h:∀ b r,s=b::r->b≠46):hasP s [46]=false:=by
 cases s with
 | nil=>rfl
 | cons b r =>have:=h b r rfl;unfold hasP;simp[this]
def ZP {s rest:List UInt8} (h:Num.decOk s=true) (he:M2 rest):K8 (s++rest)=s.length:=by
 obtain ⟨g,f,b,hg,hf,hfd,hbd,hs⟩:=OI h;obtain ⟨e1,e2⟩:=Aah he;obtain ⟨f0,fr,rfl⟩:∃ x y,f=x::y:=by
  cases f with
  | nil=>exact absurd rfl hf
  | cons x y=>exact ⟨x,y,rfl⟩
 have f0d:=hfd f0 (by simp);have sg:∀ tail:List UInt8,Ec (g++((f0::fr)++tail))=g.length:=by
  intro tail;rcases hg with rfl | rfl | rfl
  ·simp only[Aeb,AdK,Ec,AbQ,if_neg (Aaj f0d)]
  ·rfl
  rfl
 have key:∀ tail:List UInt8,(∀ x r,tail=x::r->¬Num.isD x)->D0 ((g++((f0::fr)++tail)).drop g.length)=(f0::fr).length:=by intro tail ht;rw[Aeo];exact SB hfd ht
 have dr:∀ tail:List UInt8,(g++((f0::fr)++tail)).drop (g.length+(f0::fr).length)=tail:=by intro tail;rw[<-Ac8,show g.length+(f0::fr).length=(g++(f0::fr)).length by simp,Aeo]
 rcases hs with ⟨rfl,rfl⟩ | ⟨hb,rfl⟩
 ·unfold K8;rw[Ac8,sg rest,key rest e1,if_neg (by simp),dr rest,Z5 e2,if_neg (by simp),AbP]
 have hd:∀ x r,(46::b++rest)=x::r->¬Num.isD x:=by intro x r e q;rw[AdK] at e;cases e;exact Abg q rfl
 unfold K8;rw[Ac8,Ac8,sg (46::b++rest),key _ hd,if_neg (by simp),dr];have e3:(g++((f0::fr)++(46::b++rest))).drop (g.length+(f0::fr).length+1)=b++rest:=by rw[<-Aen,dr];rfl
 have e4:hasP (46::b++rest) [46]=true:=by unfold hasP;simp
 rw[e3,e4,SB hbd e1,if_pos ⟨rfl,by cases b with | nil=>exact absurd rfl hb | cons x y=>simp⟩];simp only[AbP,AbO];omega
end
section
open Go Go.Proofs Go.Abs
def XU:∀ a:Fin 5,∀ b:Fin 40,∀ e:Fin 6,(Num.decOk (Et.getD a.val []++Cv b.val) && (Num.decOk (if Fp ((Et.getD a.val []++Cv b.val).getD 0 0)=true then Et.getD a.val []++Cv b.val else 48::(Et.getD a.val []++Cv b.val)) &&
  (Num.decOk ((Et.getD a.val []++Cv b.val)++(46::C5.getD e.val [])) && Num.decOk ((if Fp ((Et.getD a.val []++Cv b.val).getD 0 0)=true then Et.getD a.val []++Cv b.val else 48::(Et.getD a.val []++Cv b.val))++(46::C5.getD e.val [])))))=true:=by decide
def Of (t:List Int) (k:Nat):Num.decOk (Iw t k)=true:=by
 have h1:=@pk_range t k 5 (by decide);have h2:=@pk_range t (k+1) 40 (by decide);have h3:=@pk_range t (k+4) 6 (by decide);have:=XU ⟨(pk t k 5).toNat,by omega⟩ ⟨(pk t (k+1) 40).toNat,by omega⟩ ⟨(pk t (k+4) 6).toNat,by omega⟩;simp only[AbV] at this;obtain ⟨q1,q2,q3,q4⟩:=this;unfold Iw Ji G0;by_cases c1:pk t (k+3) 3=0
 ·rw[if_pos c1];by_cases c2:pk t (k+2) 3=0;·rw[if_pos c2];exact q4
  rw[if_neg c2];exact q3
 rw[if_neg c1];by_cases c2:pk t (k+2) 3=0;·rw[if_pos c2];exact q2
 rw[if_neg c2];exact q1
def Fb:List (List UInt8):=[[97],[98],[97,46,98],[99],[],[114,111,119]]
def Jo (t:List Int) (k:Nat):List UInt8:=Fb.getD (pk t k 6).toNat []
def Gv (f:Nat->Nd × Nat):Nat->List Nd->Nat->List Nd × Nat
 | 0,l,k=>(l,k)
 | m+1,l,k=>Gv f m (l++[(f k).1]) (f k).2
def C2 (t:List Int) (f:Nat->Nd × Nat):Nat->List (List UInt8)->List Nd->Nat->(List (List UInt8) × List Nd) × Nat
 | 0,ks,l,k=>((ks,l),k)
 | m+1,ks,l,k=>if Jo t k∈ks then C2 t f m ks l (k+1) else C2 t f m (ks++[Jo t k]) (l++[(f (k+1)).1]) (f (k+1)).2
def Jg (t:List Int) (f:Nat->Nd × Nat) (k:Nat):Nd × Nat :=
 (.mk 6 [] (C2 t f (pk t k 4).toNat [] [] (k+1)).1.1 (C2 t f (pk t k 4).toNat [] [] (k+1)).1.2,(C2 t f (pk t k 4).toNat [] [] (k+1)).2)
def Dv (t:List Int):Nat->Nat->Nd × Nat
 | 0,k=>(.mk 1 [] [] [],k)
 | d+1,k =>
  if pk t k 8=0 then (.mk 1 [] [] [],k+1)
  else if pk t k 8=1 then (.mk 2 (if pk t (k+1) 2=0 then Fx else FP) [] [],k+2)
  else if pk t k 8=2 then (.mk 3 (Iw t (k+1)) [] [],NA t (k+1))
  else if pk t k 8<5\/d=0 then (.mk 4 (ET t (k+2) (pk t (k+1) 8).toNat) [] [],fieldK t (k+2) (pk t (k+1) 8).toNat)
  else if pk t k 8=5 then (.mk 5 [] [] (Gv (Dv t d) (pk t (k+1) 4).toNat [] (k+2)).1,(Gv (Dv t d) (pk t (k+1) 4).toNat [] (k+2)).2)
  else Jg t (Dv t d) (k+1)
def J5 {a:Nat}:∀ {l:List Nd},(∀ n∈l,Bg n a=true)->Eg l a=true
 | [],_=>rfl
 | n::r,h=>by rw[Eg,h n (by simp),J5 fun x hx=>h x (AbZ _ hx)];rfl
def PJ {z:Nat}:∀ {l:List Nd},(∀ n∈l,nsz n<=z)->Ce l<=z*l.length
 | [],_=>AdB _
 | n::r,h=>by have h1:=h n (by simp);have h2:=PJ (l:=r) fun x hx=>h x (AbZ _ hx);rw[Ce,AbO,Nat.mul_succ];omega
def Yt:∀ s∈Fb,A2 s=true:=by decide
def Wl {s:List UInt8} (h:s∈Fb\/s=[]):A2 s=true:=by
 rcases h with h | h
 ·exact Yt s h
 subst h;rfl
def Ub:∀ s∈wordsL,A2 s=true:=by decide
def Ue:∀ s∈Hm,A2 s=true:=by decide
def Uc:∀ s∈G3,A2 s=true:=by decide
def Wk:∀ s∈KI,A2 s=true:=by decide
mutual
def kA:Nd->Prop
 | .mk _ _ ks l=>(∀ s∈ks,BI s/\s.length<=3)/\kAs l
def kAs:List Nd->Prop
 | []=>True
 | n::r=>kA n/\kAs r
end
def T5:∀ {l:List Nd},(∀ n∈l,kA n)->kAs l
 | [],_=>trivial
 | n::r,h=>⟨h n (by simp),T5 fun x hx=>h x (AbZ _ hx)⟩
mutual
def wN:Nd->Nat
 | .mk k _ _ l=>if k=5\/k=6 then wNs l else 1
def wNs:List Nd->Nat
 | []=>0
 | n::r=>wN n+wNs r
end
mutual
def qN:Nd->Nat
 | .mk k _ _ l=>(if k=5 then 1 else 0)+qNs l
def qNs:List Nd->Nat
 | []=>0
 | n::r=>qN n+qNs r
end
def dec_ascii (n:Nat):BI (Lib.decDigits n):=by
 induction n using Nat.strongRecOn with
 | _ n ih =>
  rcases AdA n 10 with h | h
  ·rw[Lib.decDigits_one h];intro c hc;rw[AbU.1 hc];simp only[UInt8.toNat_ofNat'];omega
  rw[Lib.decDigits,dif_neg (by omega)];refine Bv (ih (n / 10) (by omega)) ?_;intro c hc;rw[AbU.1 hc];simp only[UInt8.toNat_ofNat'];omega
end
section
open Go Go.Proofs Go.Abs
variable {G:Ah}
abbrev psB (s:List UInt8) (v:Value):Aa:=.box [.d (S s),.d (.val v)]
def LZ (s:List UInt8) (hs:s.length<=9223372036854775807):Ctr TP G 114 [.d (S s),.d (S FB)] [] (.d (S (AN s))) [] :=
 Num.trimLeftSet_spec s FB hs (by decide) (by decide) (by decide)
def NP {b c:UInt8} (h:¬b=c):¬((b.toNat:Int)=(c.toNat:Int)):=fun e=>h (UInt8.toNat_inj.1 (by omega))
def F4 (c:UInt8) (s:List UInt8) (hs:s.length<=9223372036854775807) (v:Value) :
  Ctr TP G 80 [.ptr 0 0,.d (.int .u8 c.toNat)] [psB s v] (.d (.bool (sgn c s).2)) [psB (sgn c s).1 v]:=by
 have ht:=LZ (G:=G) s hs;have hlen:=EH s;obtain ⟨r,hr⟩:∃ r,r=sgn c s:=⟨_,rfl⟩;rw[<-hr];refine Ctr.body (M:=M0) Al Tryz.func80 rfl go80 ?_;simp(disch:=(try simp only[Ad]);omega)only[Ag,Tryz.f80,↓Ac,Ae,↓reduceIte,↓reduceDIte,↓Qe,Qu,Qv,Qw,Qx,Qy,Qz,QA,QB,QC,QD,QE,QF,QG,QH,QI,QK];refine Ab.of ht (by rfl) ?_;rcases hk:AN s with _ | ⟨b,q⟩
 ·rw[UW hk] at hr;subst hr;simp(disch:=(try simp only[Ad]);omega)only[Ag,↓Ac,Ae,↓reduceIte,↓reduceDIte,↓Qe,Qu,Qv,Qw,Qx,Qy,Qz,QA,QB,QC,QD,QE,QF,QG,QH,QI,QK];first
  | exact ⟨[some 0],rfl,by simp,by simp[HW,BW,SW,AW],.inl (by simp[AW,SW])⟩
 rw[hk] at hlen;have hcn:(b::q=[])=False:=by simp
 by_cases e:b=c
 ·subst e;rw[Lz hk] at hr;subst hr;simp(disch:=(try simp only[Ad]);omega)only[Ag,hcn,↓Ac,Ae,↓reduceIte,↓reduceDIte,↓Qe,Qu,Qv,Qw,Qx,Qy,Qz,QA,QB,QC,QD,QE,QF,QG,QH,QI,QK];first
  | exact ⟨[some 0],rfl,by simp,by simp[HW,BW,SW,AW],.inl (by simp[AW,SW])⟩
 rw[L7 hk e] at hr;have e2:=NP e;subst hr;simp(disch:=(try simp only[Ad]);omega)only[Ag,hcn,e2,↓Ac,Ae,↓reduceIte,↓reduceDIte,↓Qe,Qu,Qv,Qw,Qx,Qy,Qz,QA,QB,QC,QD,QE,QF,QG,QH,QI,QK];first
 | exact ⟨[some 0],rfl,by simp,by simp[HW,BW,SW,AW],.inl (by simp[AW,SW])⟩
def Wq:List (D × D):=[(.int .u8 92,.int .u8 92),(.int .u8 34,.int .u8 34),(.int .u8 110,.int .u8 10),(.int .u8 114,.int .u8 13),(.int .u8 116,.int .u8 9)]
def Fs:Ctr TP G 156 [] [] (.mp 0) [.map Wq]:=by
 refine Ctr.body (M:=M0) Al Tryz.func156 rfl Acw ?_;simp(disch:=(try simp only[Ad]);omega)only[Ag,Tryz.f156,↓Ac,Ae,↓reduceIte,↓reduceDIte,↓Qe,Qu,Qv,Qw,Qx,Qy,Qz,QA,QB,QC,QD,QE,QF,QG,QH,QI,QK];refine ⟨by rfl,by rfl,by rfl,by rfl,by rfl,?_⟩;show Ig 0 [.map Wq] (.mp 0) (.mp 0) [.map Wq]
 first
 | exact ⟨[some 0],rfl,by simp,by simp[HW,BW,SW,AW],.inl (by simp[AW,SW])⟩
def Wp (c:UInt8):Dh (.int .u8 0) Wq (.int .u8 c.toNat) false=.int .u8 (Gx c).toNat:=by
 have k:∀ n:Nat,n<256->Ci (.int .u8 c.toNat) (.int .u8 n)=decide (c=UInt8.ofNat n):=fun n hn=>by
  unfold Ci;by_cases e:c=UInt8.ofNat n
  ·subst e;have:(UInt8.ofNat n).toNat=n:=by simp;omega
   rw[this];simp
  have:¬((c.toNat:Int)=(n:Int)):=fun q=>e (UInt8.toNat_inj.1 (by
   have:(UInt8.ofNat n).toNat=n:=by simp;omega
   omega))
  simp[e,this]
 unfold Dh Wq;simp only[BG];unfold Gx;by_cases e1:c=92;·subst e1;rfl
 by_cases e2:c=34;·subst e2;rfl
 by_cases e3:c=110;·subst e3;rfl
 by_cases e4:c=114;·subst e4;rfl
 by_cases e5:c=116;·subst e5;rfl
 have q1:Ci (.int .u8 c.toNat) (.int .u8 92)=false:=by rw[show (92:Int)=((92:Nat):Int) from rfl,k 92 (by omega)];exact decide_eq_false e1
 have q2:Ci (.int .u8 c.toNat) (.int .u8 34)=false:=by rw[show (34:Int)=((34:Nat):Int) from rfl,k 34 (by omega)];exact decide_eq_false e2
 have q3:Ci (.int .u8 c.toNat) (.int .u8 110)=false:=by rw[show (110:Int)=((110:Nat):Int) from rfl,k 110 (by omega)];exact decide_eq_false e3
 have q4:Ci (.int .u8 c.toNat) (.int .u8 114)=false:=by rw[show (114:Int)=((114:Nat):Int) from rfl,k 114 (by omega)];exact decide_eq_false e4
 have q5:Ci (.int .u8 c.toNat) (.int .u8 116)=false:=by rw[show (116:Int)=((116:Nat):Int) from rfl,k 116 (by omega)];exact decide_eq_false e5
 simp[q1,q2,q3,q4,q5,e1,e2,e3,e4,e5]
def CL (used:Bool) (l:List UInt8) (c:UInt8) (hl:l.length<=10000000000000) (y:List UInt8) (hy:l++[c]=y) :
  Ctr TP G 70 [.ptr 0 0,.d (.int .u8 c.toNat)] (BL used l) .undef [.bld 79 true y.length (some 2),.dead,.buf 5 y]:=by
 subst hy;exact LO used l c hl
def MQ7:B0:=fun k=>Aeq k 2000004
def Zd:MQ7 2000004=true:=rfl
def CH {k:Nat} (h:¬k=2000004):MQ7 k=false:=by
 cases e:MQ7 k with
 | false=>rfl
 | true=>exact absurd (AdM e) h
def PY:DH TP 5 Wq=true:=by rfl
def Jh (s:List UInt8) (hs:s.length<=1000000000) (v:Value) :
  Ctr TP G 115 [.ptr 0 0] [psB s v] (.d (.tup [S (quo s).2.1,.bool (quo s).2.2])) [psB (quo s).1 v]:=by
 have hsg:=F4 (G:=G) 34 s (by omega) v;have hsl:=A7 34 s;obtain ⟨r,hr⟩:∃ r,r=quo s:=⟨_,rfl⟩;rw[<-hr];unfold quo at hr;generalize sgn 34 s=g at *;obtain ⟨g1,g2⟩:=g;simp only at hr hsl hsg;refine Ctr.body (M:=MQ7) Al Tryz.func115 rfl AcW ?_;simp(disch:=(try simp only[Ad]);omega)only[Ag,CH,Tryz.f115,↓Ac,Ae,↓reduceIte,↓reduceDIte,↓Qe,Qu,Qv,Qw,Qx,Qy,Qz,QA,QB,QC,QD,QE,QF,QG,QH,QI,QK];refine Ab.by hsg (by rfl) (by rfl) (by simp) ?_;cases g2
 ·rw[if_neg (by simp)] at hr;subst hr;simp(disch:=(try simp only[Ad]);omega)only[Ag,CH,↓Ac,Ae,↓reduceIte,↓reduceDIte,↓Qe,Qu,Qv,Qw,Qx,Qy,Qz,QA,QB,QC,QD,QE,QF,QG,QH,QI,QK];first
  | (refine ⟨[some 0],rfl,by simp,by simp[HW,BW,SW,AW],.inr ⟨_,rfl,?_,rfl⟩⟩;rfl)
  | (refine ⟨by rfl,⟨[some 0],rfl,by simp,by simp[HW,BW,SW,AW],.inr ⟨_,rfl,?_,rfl⟩⟩⟩;rfl)
 rw[if_pos rfl] at hr;simp(disch:=(try simp only[Ad]);omega)only[Ag,CH,Zd,↓Ac,Ae,↓reduceIte,↓reduceDIte,↓Qe,Qu,Qv,Qw,Qx,Qy,Qz,QA,QB,QC,QD,QE,QF,QG,QH,QI,QK];refine As.fr 17 (α:=List UInt8 × List UInt8 × Bool) (fun x=>x.1.length) (fun x=>[]) (fun x=>[psB x.1 v,.bld 79 x.2.2 x.2.1.length (some 2),.buf 5 x.2.1])
  (fun x=>Dd x.1 x.2.1=r/\x.1.length+x.2.1.length<=g1.length) (g1,[],false) ⟨hr.symm,by simp⟩ ?_ ?_
 ·exact ⟨[some 0,some 1,none],rfl,by simp,by simp[sA,kZ,SW,AW],by simp[HW,BW,SW,AW]⟩
 rintro ⟨rest,out,used⟩ ⟨b1,b2⟩;simp only at b1 b2;simp only[Cr,Adg,Adh,reduceIte];cases rest with
 | nil =>
  rw[Mj] at b1;subst b1;simp(disch:=(try simp only[Ad]);omega)only[Ag,CH,↓Ac,Ae,↓reduceIte,↓reduceDIte,↓Qe,Qu,Qv,Qw,Qx,Qy,Qz,QA,QB,QC,QD,QE,QF,QG,QH,QI,QK];first
  | (refine ⟨[some 0],rfl,by simp,by simp[HW,BW,SW,AW],.inr ⟨_,rfl,?_,rfl⟩⟩;rfl)
  | (refine ⟨by rfl,⟨[some 0],rfl,by simp,by simp[HW,BW,SW,AW],.inr ⟨_,rfl,?_,rfl⟩⟩⟩;rfl)
 | cons c q =>
  rw[AbO] at b2;have hcn:(c::q=[])=False:=by simp
  by_cases c34:c=34
  ·have hc:(c.toNat:Int)=34:=(by rw[c34];rfl);rw[c34,Ml] at b1;subst b1;simp(disch:=(try simp only[Ad]);omega)only[Ag,hcn,hc,CH,↓Ac,Ae,↓reduceIte,↓reduceDIte,↓Qe,Qu,Qv,Qw,Qx,Qy,Qz,QA,QB,QC,QD,QE,QF,QG,QH,QI,QK];refine Ab.by (Kx used out) (by rfl) (by rfl) (by simp) ?_;simp(disch:=(try simp only[Ad]);omega)only[Ag,CH,↓Ac,Ae,↓reduceIte,↓reduceDIte,↓Qe,Qu,Qv,Qw,Qx,Qy,Qz,QA,QB,QC,QD,QE,QF,QG,QH,QI,QK];first
   | (refine ⟨[some 0],rfl,by simp,by simp[HW,BW,SW,AW],.inr ⟨_,rfl,?_,rfl⟩⟩;rfl)
   | (refine ⟨by rfl,⟨[some 0],rfl,by simp,by simp[HW,BW,SW,AW],.inr ⟨_,rfl,?_,rfl⟩⟩⟩;rfl)
  have hc:¬(c.toNat:Int)=34:=NP c34;by_cases c32:c<32
  ·have hc2:(c.toNat:Int)<32:=(by have:=UInt8.lt_iff_toNat_lt.1 c32;have e:(32:UInt8).toNat=32:=rfl;rw[e] at this;omega);rw[R0 c32 c34] at b1;subst b1;simp(disch:=(try simp only[Ad]);omega)only[Ag,hcn,hc,hc2,CH,↓Ac,Ae,↓reduceIte,↓reduceDIte,↓Qe,Qu,Qv,Qw,Qx,Qy,Qz,QA,QB,QC,QD,QE,QF,QG,QH,QI,QK];first
   | (refine ⟨[some 0],rfl,by simp,by simp[HW,BW,SW,AW],.inr ⟨_,rfl,?_,rfl⟩⟩;rfl)
   | (refine ⟨by rfl,⟨[some 0],rfl,by simp,by simp[HW,BW,SW,AW],.inr ⟨_,rfl,?_,rfl⟩⟩⟩;rfl)
  have hc2:¬(c.toNat:Int)<32:=by have:¬c.toNat<32:=fun q=>c32 (UInt8.lt_iff_toNat_lt.2 q);omega
  by_cases c92:c=92
  ·have hc3:(c.toNat:Int)=92:=(by rw[c92];rfl);cases q with
   | nil =>
    rw[c92,N7] at b1;subst b1;simp(disch:=(try simp only[Ad]);omega)only[Ag,hcn,hc,hc2,hc3,CH,↓Ac,Ae,↓reduceIte,↓reduceDIte,↓Qe,Qu,Qv,Qw,Qx,Qy,Qz,QA,QB,QC,QD,QE,QF,QG,QH,QI,QK];first
    | (refine ⟨[some 0],rfl,by simp,by simp[HW,BW,SW,AW],.inr ⟨_,rfl,?_,rfl⟩⟩;rfl)
    | (refine ⟨by rfl,⟨[some 0],rfl,by simp,by simp[HW,BW,SW,AW],.inr ⟨_,rfl,?_,rfl⟩⟩⟩;rfl)
   | cons e q2 =>
    rw[AbO] at b2;have hen:(e::q2=[])=False:=(by simp)
    have hk:=Wp e;by_cases e0:Gx e=0
    ·have he:((Gx e).toNat:Int)=0:=(by rw[e0];rfl);rw[c92,R1 e0] at b1;subst b1;simp(disch:=(try simp only[Ad]);omega)only[Ag,hcn,hen,hc,hc2,hc3,CH,↓Ac,Ae,↓reduceIte,↓reduceDIte,↓Qe,Qu,Qv,Qw,Qx,Qy,Qz,QA,QB,QC,QD,QE,QF,QG,QH,QI,QK];refine Ab.by (L:=[]) Fs (by rfl) (by rfl) (by simp) ?_;simp(disch:=(try simp only[Ad]);omega)only[Ag,hcn,hen,hk,he,PY,CH,↓Ac,Ae,↓reduceIte,↓reduceDIte,↓Qe,Qu,Qv,Qw,Qx,Qy,Qz,QA,QB,QC,QD,QE,QF,QG,QH,QI,QK];first
     | (refine ⟨[some 0],rfl,by simp,by simp[HW,BW,SW,AW],.inr ⟨_,rfl,?_,rfl⟩⟩;rfl)
     | (refine ⟨by rfl,⟨[some 0],rfl,by simp,by simp[HW,BW,SW,AW],.inr ⟨_,rfl,?_,rfl⟩⟩⟩;rfl)
    have he:¬((Gx e).toNat:Int)=0:=NP e0;rw[c92,Mk e0] at b1;simp(disch:=(try simp only[Ad]);omega)only[Ag,hcn,hen,hc,hc2,hc3,CH,↓Ac,Ae,↓reduceIte,↓reduceDIte,↓Qe,Qu,Qv,Qw,Qx,Qy,Qz,QA,QB,QC,QD,QE,QF,QG,QH,QI,QK];refine Ab.by (L:=[]) Fs (by rfl) (by rfl) (by simp) ?_;simp(disch:=(try simp only[Ad]);omega)only[Ag,hcn,hen,hk,he,PY,CH,↓Ac,Ae,↓reduceIte,↓reduceDIte,↓Qe,Qu,Qv,Qw,Qx,Qy,Qz,QA,QB,QC,QD,QE,QF,QG,QH,QI,QK];refine ⟨by rfl,?_⟩;refine Ab.by (L:=[]) Fs (by rfl) (by rfl) (by simp) ?_;simp(disch:=(try simp only[Ad]);omega)only[Ag,hcn,hen,hk,he,PY,CH,↓Ac,Ae,↓reduceIte,↓reduceDIte,↓Qe,Qu,Qv,Qw,Qx,Qy,Qz,QA,QB,QC,QD,QE,QF,QG,QH,QI,QK];refine ⟨by rfl,?_⟩;generalize hb:out++[Gx e]=out3 at *;have lb:out3.length=out.length+1:=(by rw[<-hb,AbP];rfl)
    refine Ab.by (CL used out (Gx e) (by omega) out3 hb) (by rfl) (by rfl) (by simp) ?_;simp(disch:=(try simp only[Ad]);omega)only[Ag,CH,↓Ac,Ae,↓reduceIte,↓reduceDIte,↓Qe,Qu,Qv,Qw,Qx,Qy,Qz,QA,QB,QC,QD,QE,QF,QG,QH,QI,QK];first
    | exact ⟨(q2,out3,true),⟨b1,by simp only;omega⟩,by simp only[AbO];omega,⟨[some 0,some 1,some 5],rfl,by simp,by simp[sA,kZ,SW,AW],by simp[HW,BW,SW,AW]⟩⟩
  have hc3:¬(c.toNat:Int)=92:=NP c92;rw[J2 c34 c32 c92] at b1;simp(disch:=(try simp only[Ad]);omega)only[Ag,hcn,hc,hc2,hc3,CH,↓Ac,Ae,↓reduceIte,↓reduceDIte,↓Qe,Qu,Qv,Qw,Qx,Qy,Qz,QA,QB,QC,QD,QE,QF,QG,QH,QI,QK];generalize hb:out++[c]=out3 at *;have lb:out3.length=out.length+1:=by rw[<-hb,AbP];rfl
  refine Ab.by (CL used out c (by omega) out3 hb) (by rfl) (by rfl) (by simp) ?_;simp(disch:=(try simp only[Ad]);omega)only[Ag,CH,↓Ac,Ae,↓reduceIte,↓reduceDIte,↓Qe,Qu,Qv,Qw,Qx,Qy,Qz,QA,QB,QC,QD,QE,QF,QG,QH,QI,QK];first
  | exact ⟨(q,out3,true),⟨b1,by simp only;omega⟩,by simp only[AbO];omega,⟨[some 0,some 1,some 3],rfl,by simp,by simp[sA,kZ,SW,AW],by simp[HW,BW,SW,AW]⟩⟩
def Bq (k:Int):Ctr TP G 71 [.d (.int .i64 k)] [] (.d (.int .u8 (AH k).toNat)) []:=by
 refine Ctr.pure (M:=M0) Al Tryz.func71 rfl go71 ?_;unfold AH;by_cases h:k=5;·rw[if_pos h];simp(disch:=(try simp only[Ad]);omega)only[h,Tryz.f71,↓Ac,Ae,↓reduceIte,↓reduceDIte,↓Qe,Qu,Qv,Qw,Qx,Qy,Qz,QA,QB,QC,QD,QE,QF,QG,QH,QI,QK];first | done | rfl
 rw[if_neg h];simp(disch:=(try simp only[Ad]);omega)only[h,Tryz.f71,↓Ac,Ae,↓reduceIte,↓reduceDIte,↓Qe,Qu,Qv,Qw,Qx,Qy,Qz,QA,QB,QC,QD,QE,QF,QG,QH,QI,QK];first | done | rfl
def Cq (s:List UInt8) (hs:s.length<=1000000000):Ctr TP G 185 [.d (S s)] [] (.d (.int .i64 (D0 s:Nat))) []:=by
 have ht:Ctr TP G 114 [.d (S s),.d (S Hf)] [] (.d (S (Num.trimL Hf s))) []:=Num.trimLeftSet_spec s Hf (by omega) (by decide) (by decide) (by decide);have hl:(Num.trimL Hf s).length<=s.length:=(Ad9 _).length_le;have e:((D0 s:Nat):Int)=(s.length:Int)-((Num.trimL Hf s).length:Int):=by unfold D0;omega
 rw[e];generalize Num.trimL Hf s=q at *;refine Ctr.pure (M:=M0) Al Tryz.func185 rfl Acg ?_;simp(disch:=(try simp only[Ad]);omega)only[Ag,Tryz.f185,↓Ac,Ae,↓reduceIte,↓reduceDIte,↓Qe,Qu,Qv,Qw,Qx,Qy,Qz,QA,QB,QC,QD,QE,QF,QG,QH,QI,QK];refine Ab.of ht (by rfl) ?_;simp(disch:=(try simp only[Ad]);omega)only[Ag,↓Ac,Ae,↓reduceIte,↓reduceDIte,↓Qe,Qu,Qv,Qw,Qx,Qy,Qz,QA,QB,QC,QD,QE,QF,QG,QH,QI,QK];first | done | rfl
def PI (s:List UInt8) (hs:s.length<=1000000000):Ctr TP G 155 [.d (S s)] [] (.d (.int .i64 (K8 s:Nat))) []:=by
 obtain ⟨r,hr⟩:∃ r,r=K8 s:=⟨_,rfl⟩;rw[<-hr];unfold K8 at hr;refine Ctr.pure (M:=M0) Al Tryz.func155 rfl Acx ?_;rcases s with _ | ⟨c,q⟩
 ·rw[if_pos (show D0 (List.drop (Ec []) [])=0 from rfl)] at hr;rw[hr];simp(disch:=(try simp only[Ad]);omega)only[Ag,Tryz.f155,↓Ac,Ae,↓reduceIte,↓reduceDIte,↓Qe,Qu,Qv,Qw,Qx,Qy,Qz,QA,QB,QC,QD,QE,QF,QG,QH,QI,QK];refine Ab.of (Cq [] (by simp)) (by rfl) ?_;rw[show D0 []=0 from rfl];simp(disch:=(try simp only[Ad]);omega)only[Ag,↓Ac,Ae,↓reduceIte,↓reduceDIte,↓Qe,Qu,Qv,Qw,Qx,Qy,Qz,QA,QB,QC,QD,QE,QF,QG,QH,QI,QK];first | done | rfl
 have hcn:(c::q=[])=False:=by simp
 by_cases c43:c=43
 ·have hc:(c.toNat:Int)=43:=by rw[c43];rfl
  have h0:Ec (c::q)=1:=by simp[Ec,c43]
  rw[h0,show (c::q).drop 1=q from rfl] at hr;have hd:=Cq (G:=G) (q) (by simp only[AbO] at hs ⊢;omega);have hdl:=Fd (q);simp(disch:=(try simp only[Ad]);omega)only[Ag,hcn,hc,Tryz.f155,↓Ac,Ae,↓reduceIte,↓reduceDIte,↓Qe,Qu,Qv,Qw,Qx,Qy,Qz,QA,QB,QC,QD,QE,QF,QG,QH,QI,QK];refine Ab.of hd (by rfl) ?_;by_cases hw:D0 (q)=0
  ·rw[if_pos hw] at hr;rw[hw,hr];simp(disch:=(try simp only[Ad]);omega)only[Ag,↓Ac,Ae,↓reduceIte,↓reduceDIte,↓Qe,Qu,Qv,Qw,Qx,Qy,Qz,QA,QB,QC,QD,QE,QF,QG,QH,QI,QK];first | done | rfl
  rw[if_neg hw] at hr;generalize D0 (q)=w at *;have hw2:¬((w:Int)=0):=by omega
  have hp:=Dn (G:=G) ((c::q).drop (1+w)) [46];have hd2:=Cq (G:=G) (q.drop (1+w)) (by rw[AbY];simp only[AbO] at hs;omega);have hdl2:=Fd (q.drop (1+w));rw[AbY] at hdl2;have hpl:hasP ((c::q).drop (1+w)) [46]=true->1+w+1<=(c::q).length:=fun q=>by have:=hasP_le q;simp only[AbY,AbO,AbQ] at this ⊢;omega
  rw[show (c::q).drop (1+w+1)=q.drop (1+w) from rfl] at hr;generalize hw3:D0 (q.drop (1+w))=w2 at *;generalize hdr:(c::q).drop (1+w)=dr at *;simp only[AbO] at hdl hs hpl hdl2;have ht1:((1:Int)+(w:Int)).toNat=1+w:=by omega
  have ht2:((1:Int)+(w:Int)+1).toNat=1+w+1:=by omega
  simp(disch:=(try simp only[Ad]);omega)only[Ag,hw2,ht1,hdr,↓Ac,Ae,↓reduceIte,↓reduceDIte,↓Qe,Qu,Qv,Qw,Qx,Qy,Qz,QA,QB,QC,QD,QE,QF,QG,QH,QI,QK];refine Ab.of hp (by rfl) ?_;cases hx:hasP dr [46];·rw[if_neg (by rw[hx];simp)] at hr;rw[hr];simp(disch:=(try simp only[Ad]);omega)only[Ag,↓Ac,Ae,↓reduceIte,↓reduceDIte,↓Qe,Qu,Qv,Qw,Qx,Qy,Qz,QA,QB,QC,QD,QE,QF,QG,QH,QI,QK];first | done | rfl
  have hpl:=hpl hx;simp(disch:=(try simp only[Ad]);omega)only[Ag,ht2,↓Ac,Ae,↓reduceIte,↓reduceDIte,↓Qe,Qu,Qv,Qw,Qx,Qy,Qz,QA,QB,QC,QD,QE,QF,QG,QH,QI,QK];refine Ab.of hd2 (by rfl) ?_;rcases Ad2 w2 with w20 | w20
  ·subst w20;rw[if_neg (by simp)] at hr;rw[hr];simp(disch:=(try simp only[Ad]);omega)only[Ag,↓Ac,Ae,↓reduceIte,↓reduceDIte,↓Qe,Qu,Qv,Qw,Qx,Qy,Qz,QA,QB,QC,QD,QE,QF,QG,QH,QI,QK];first | done | rfl
  rw[if_pos ⟨hx,w20⟩] at hr;rw[hr];simp(disch:=(try simp only[Ad]);omega)only[Ag,ht2,↓Ac,Ae,↓reduceIte,↓reduceDIte,↓Qe,Qu,Qv,Qw,Qx,Qy,Qz,QA,QB,QC,QD,QE,QF,QG,QH,QI,QK];refine Ab.of hd2 (by rfl) ?_;simp(disch:=(try simp only[Ad]);omega)only[Ag,↓Ac,Ae,↓reduceIte,↓reduceDIte,↓Qe,Qu,Qv,Qw,Qx,Qy,Qz,QA,QB,QC,QD,QE,QF,QG,QH,QI,QK];first | done | rfl
 have hc:¬(c.toNat:Int)=43:=NP c43;by_cases c45:c=45
 ·have hc2:(c.toNat:Int)=45:=by rw[c45];rfl
  have h0:Ec (c::q)=1:=by simp[Ec,c45]
  rw[h0,show (c::q).drop 1=q from rfl] at hr;have hd:=Cq (G:=G) (q) (by simp only[AbO] at hs ⊢;omega);have hdl:=Fd (q);simp(disch:=(try simp only[Ad]);omega)only[Ag,hcn,hc,hc2,Tryz.f155,↓Ac,Ae,↓reduceIte,↓reduceDIte,↓Qe,Qu,Qv,Qw,Qx,Qy,Qz,QA,QB,QC,QD,QE,QF,QG,QH,QI,QK];refine Ab.of hd (by rfl) ?_;by_cases hw:D0 (q)=0
  ·rw[if_pos hw] at hr;rw[hw,hr];simp(disch:=(try simp only[Ad]);omega)only[Ag,↓Ac,Ae,↓reduceIte,↓reduceDIte,↓Qe,Qu,Qv,Qw,Qx,Qy,Qz,QA,QB,QC,QD,QE,QF,QG,QH,QI,QK];first | done | rfl
  rw[if_neg hw] at hr;generalize D0 (q)=w at *;have hw2:¬((w:Int)=0):=by omega
  have hp:=Dn (G:=G) ((c::q).drop (1+w)) [46];have hd2:=Cq (G:=G) (q.drop (1+w)) (by rw[AbY];simp only[AbO] at hs;omega);have hdl2:=Fd (q.drop (1+w));rw[AbY] at hdl2;have hpl:hasP ((c::q).drop (1+w)) [46]=true->1+w+1<=(c::q).length:=fun q=>by have:=hasP_le q;simp only[AbY,AbO,AbQ] at this ⊢;omega
  rw[show (c::q).drop (1+w+1)=q.drop (1+w) from rfl] at hr;generalize hw3:D0 (q.drop (1+w))=w2 at *;generalize hdr:(c::q).drop (1+w)=dr at *;simp only[AbO] at hdl hs hpl hdl2;have ht1:((1:Int)+(w:Int)).toNat=1+w:=by omega
  have ht2:((1:Int)+(w:Int)+1).toNat=1+w+1:=by omega
  simp(disch:=(try simp only[Ad]);omega)only[Ag,hw2,ht1,hdr,↓Ac,Ae,↓reduceIte,↓reduceDIte,↓Qe,Qu,Qv,Qw,Qx,Qy,Qz,QA,QB,QC,QD,QE,QF,QG,QH,QI,QK];refine Ab.of hp (by rfl) ?_;cases hx:hasP dr [46];·rw[if_neg (by rw[hx];simp)] at hr;rw[hr];simp(disch:=(try simp only[Ad]);omega)only[Ag,↓Ac,Ae,↓reduceIte,↓reduceDIte,↓Qe,Qu,Qv,Qw,Qx,Qy,Qz,QA,QB,QC,QD,QE,QF,QG,QH,QI,QK];first | done | rfl
  have hpl:=hpl hx;simp(disch:=(try simp only[Ad]);omega)only[Ag,ht2,↓Ac,Ae,↓reduceIte,↓reduceDIte,↓Qe,Qu,Qv,Qw,Qx,Qy,Qz,QA,QB,QC,QD,QE,QF,QG,QH,QI,QK];refine Ab.of hd2 (by rfl) ?_;rcases Ad2 w2 with w20 | w20
  ·subst w20;rw[if_neg (by simp)] at hr;rw[hr];simp(disch:=(try simp only[Ad]);omega)only[Ag,↓Ac,Ae,↓reduceIte,↓reduceDIte,↓Qe,Qu,Qv,Qw,Qx,Qy,Qz,QA,QB,QC,QD,QE,QF,QG,QH,QI,QK];first | done | rfl
  rw[if_pos ⟨hx,w20⟩] at hr;rw[hr];simp(disch:=(try simp only[Ad]);omega)only[Ag,ht2,↓Ac,Ae,↓reduceIte,↓reduceDIte,↓Qe,Qu,Qv,Qw,Qx,Qy,Qz,QA,QB,QC,QD,QE,QF,QG,QH,QI,QK];refine Ab.of hd2 (by rfl) ?_;simp(disch:=(try simp only[Ad]);omega)only[Ag,↓Ac,Ae,↓reduceIte,↓reduceDIte,↓Qe,Qu,Qv,Qw,Qx,Qy,Qz,QA,QB,QC,QD,QE,QF,QG,QH,QI,QK];first | done | rfl
 have hc2:¬(c.toNat:Int)=45:=NP c45;have h0:Ec (c::q)=0:=by simp[Ec,c43,c45]
 rw[h0,show (c::q).drop 0=c::q from rfl] at hr;have hd:=Cq (G:=G) (c::q) (by simp only[AbO] at hs ⊢;omega);have hdl:=Fd (c::q);simp(disch:=(try simp only[Ad]);omega)only[Ag,hcn,hc,hc2,Tryz.f155,↓Ac,Ae,↓reduceIte,↓reduceDIte,↓Qe,Qu,Qv,Qw,Qx,Qy,Qz,QA,QB,QC,QD,QE,QF,QG,QH,QI,QK];refine Ab.of hd (by rfl) ?_;by_cases hw:D0 (c::q)=0
 ·rw[if_pos hw] at hr;rw[hw,hr];simp(disch:=(try simp only[Ad]);omega)only[Ag,↓Ac,Ae,↓reduceIte,↓reduceDIte,↓Qe,Qu,Qv,Qw,Qx,Qy,Qz,QA,QB,QC,QD,QE,QF,QG,QH,QI,QK];first | done | rfl
 rw[if_neg hw] at hr;generalize D0 (c::q)=w at *;simp only[AdR] at hr;have hw2:¬((w:Int)=0):=by omega
 have hp:=Dn (G:=G) ((c::q).drop (w)) [46];have hd2:=Cq (G:=G) (q.drop (w)) (by rw[AbY];simp only[AbO] at hs;omega);have hdl2:=Fd (q.drop (w));rw[AbY] at hdl2;have hpl:hasP ((c::q).drop (w)) [46]=true->w+1<=(c::q).length:=fun q=>by have:=hasP_le q;simp only[AbY,AbO,AbQ] at this ⊢;omega
 rw[show (c::q).drop (w+1)=q.drop (w) from rfl] at hr;generalize hw3:D0 (q.drop (w))=w2 at *;generalize hdr:(c::q).drop (w)=dr at *;simp only[AbO] at hdl hs hpl hdl2;have ht1:((0:Int)+(w:Int)).toNat=w:=by omega
 have ht2:((0:Int)+(w:Int)+1).toNat=w+1:=by omega
 simp(disch:=(try simp only[Ad]);omega)only[Ag,hw2,ht1,hdr,↓Ac,Ae,↓reduceIte,↓reduceDIte,↓Qe,Qu,Qv,Qw,Qx,Qy,Qz,QA,QB,QC,QD,QE,QF,QG,QH,QI,QK];refine Ab.of hp (by rfl) ?_;cases hx:hasP dr [46];·rw[if_neg (by rw[hx];simp)] at hr;rw[hr];simp(disch:=(try simp only[Ad]);omega)only[Ag,↓Ac,Ae,↓reduceIte,↓reduceDIte,↓Qe,Qu,Qv,Qw,Qx,Qy,Qz,QA,QB,QC,QD,QE,QF,QG,QH,QI,QK];first | done | rfl
 have hpl:=hpl hx;simp(disch:=(try simp only[Ad]);omega)only[Ag,ht2,↓Ac,Ae,↓reduceIte,↓reduceDIte,↓Qe,Qu,Qv,Qw,Qx,Qy,Qz,QA,QB,QC,QD,QE,QF,QG,QH,QI,QK];refine Ab.of hd2 (by rfl) ?_;rcases Ad2 w2 with w20 | w20
 ·subst w20;rw[if_neg (by simp)] at hr;rw[hr];simp(disch:=(try simp only[Ad]);omega)only[Ag,↓Ac,Ae,↓reduceIte,↓reduceDIte,↓Qe,Qu,Qv,Qw,Qx,Qy,Qz,QA,QB,QC,QD,QE,QF,QG,QH,QI,QK];first | done | rfl
 rw[if_pos ⟨hx,w20⟩] at hr;rw[hr];simp(disch:=(try simp only[Ad]);omega)only[Ag,ht2,↓Ac,Ae,↓reduceIte,↓reduceDIte,↓Qe,Qu,Qv,Qw,Qx,Qy,Qz,QA,QB,QC,QD,QE,QF,QG,QH,QI,QK];refine Ab.of hd2 (by rfl) ?_;simp(disch:=(try simp only[Ad]);omega)only[Ag,↓Ac,Ae,↓reduceIte,↓reduceDIte,↓Qe,Qu,Qv,Qw,Qx,Qy,Qz,QA,QB,QC,QD,QE,QF,QG,QH,QI,QK];first | done | rfl
abbrev zN:List AV:=[.d (.int .i64 0),.d (.str ByteArray.empty),.d (.sl 0 true []),.d (.sl 0 true [])]
def Rv:List D:=[S Jj,.int .i64 1,S [],.sl 0 false [],.sl 0 false [],S Fx,.int .i64 2,S Fx,.sl 0 false [],.sl 0 false [],S FP,.int .i64 2,S FP,.sl 0 false [],.sl 0 false []]
def ScaR (s:List UInt8) (i:Nat):Prop:=i<=3/\(0<i->hasP s Jj=false)/\(1<i->hasP s Fx=false)/\(2<i->hasP s FP=false)
def Pu (s0:List UInt8) (hs0:s0.length<=1000000000) (v:Value) :
  Ctr TP G 113 [.ptr 0 0] [psB s0 v] (.d (.tup [NdD (DD s0).2.1,.bool (DD s0).2.2])) [psB (DD s0).1 v]:=by
 have ht:=LZ (G:=G) s0 (by omega);have hlen:=EH s0;obtain ⟨r,hr⟩:∃ r,r=DD s0:=⟨_,rfl⟩;rw[<-hr];unfold DD at hr;generalize AN s0=s at *;have hs:s.length<=1000000000:=by omega
 have hq:=Jh (G:=G) s hs v;have hn:=PI (G:=G) s hs;have hnl:=Vd s;have p1:=Dn (G:=G) s [34];have c1:Ctr TP G 131 [.d (S s),.d (S Jj)] [] (.d (.tup [S (if hasP s Jj then s.drop 4 else s),.bool (hasP s Jj)])) []:=Num.cutPrefix_spec s Jj;have c2:Ctr TP G 131 [.d (S s),.d (S Fx)] [] (.d (.tup [S (if hasP s Fx then s.drop 4 else s),.bool (hasP s Fx)])) []:=Num.cutPrefix_spec s Fx;have c3:Ctr TP G 131 [.d (S s),.d (S FP)] [] (.d (.tup [S (if hasP s FP then s.drop 5 else s),.bool (hasP s FP)])) []:=Num.cutPrefix_spec s FP;refine Ctr.body (M:=M0) Al Tryz.func113 rfl AcY ?_;simp(disch:=(try simp only[Ad]);omega)only[Ag,Tryz.f113,↓Ac,Ae,↓reduceIte,↓reduceDIte,↓Qe,Qu,Qv,Qw,Qx,Qy,Qz,QA,QB,QC,QD,QE,QF,QG,QH,QI,QK];refine Ab.of ht (by rfl) ?_;simp(disch:=(try simp only[Ad]);omega)only[Ag,↓Ac,Ae,↓reduceIte,↓reduceDIte,↓Qe,Qu,Qv,Qw,Qx,Qy,Qz,QA,QB,QC,QD,QE,QF,QG,QH,QI,QK];refine Ab.of p1 (by rfl) ?_;cases e1:hasP s [34]
 ·rw[if_neg (by rw[e1];simp)] at hr;simp(disch:=(try simp only[Ad]);omega)only[Ag,↓Ac,Ae,↓reduceIte,↓reduceDIte,↓Qe,Qu,Qv,Qw,Qx,Qy,Qz,QA,QB,QC,QD,QE,QF,QG,QH,QI,QK];refine As.fr 1649267441669 (α:=Nat) (fun i=>3-i) (fun i=>[(41,.d (.int .i64 i))]) (fun i=>[psB s v,.box zN,.row false Rv])
   (fun i=>ScaR s i) 0 ⟨by omega,by omega,by omega,by omega⟩ ?_ ?_
  ·first
   | exact ⟨[some 0,some 1,some 2],rfl,by simp,by simp[sA,kZ,SW,AW],by simp[HW,BW,SW,AW]<;>rfl⟩
  rintro i ⟨b1,b2,b3,b4⟩;simp only[Cr,Adg,Adh,reduceIte];rcases (by omega:i=0\/i=1\/i=2\/i=3) with rfl | rfl | rfl | rfl
  ·simp(disch:=(try simp only[Ad]);omega)only[Ag,Rv,↓Ac,Ae,↓reduceIte,↓reduceDIte,↓Qe,Qu,Qv,Qw,Qx,Qy,Qz,QA,QB,QC,QD,QE,QF,QG,QH,QI,QK];refine Ab.of c1 (by rfl) ?_;cases e2:hasP s Jj
   ·simp(disch:=(try simp only[Ad]);omega)only[Ag,e2,Ad3,if_false,↓Ac,Ae,↓reduceIte,↓reduceDIte,↓Qe,Qu,Qv,Qw,Qx,Qy,Qz,QA,QB,QC,QD,QE,QF,QG,QH,QI,QK];first
    | exact ⟨by rfl,1,⟨by omega,fun h=>e2,fun h=>absurd h (by omega),fun h=>absurd h (by omega)⟩,by simp only;omega,⟨[some 0,some 1,some 2],rfl,by simp,by simp[sA,kZ,SW,AW],by simp[HW,BW,SW,AW]<;>rfl⟩⟩
   simp(disch:=(try simp only[Ad]);omega)only[Ag,e2,if_true,↓Ac,Ae,↓reduceIte,↓reduceDIte,↓Qe,Qu,Qv,Qw,Qx,Qy,Qz,QA,QB,QC,QD,QE,QF,QG,QH,QI,QK];rw[if_pos e2] at hr;subst hr;first
   | (refine ⟨[some 0],rfl,by simp,by simp[HW,BW,SW,AW],.inr ⟨_,rfl,?_,rfl⟩⟩;rfl)
   | (refine ⟨by rfl,⟨[some 0],rfl,by simp,by simp[HW,BW,SW,AW],.inr ⟨_,rfl,?_,rfl⟩⟩⟩;rfl)
  ·simp(disch:=(try simp only[Ad]);omega)only[Ag,Rv,↓Ac,Ae,↓reduceIte,↓reduceDIte,↓Qe,Qu,Qv,Qw,Qx,Qy,Qz,QA,QB,QC,QD,QE,QF,QG,QH,QI,QK];refine Ab.of c2 (by rfl) ?_;cases e2:hasP s Fx
   ·simp(disch:=(try simp only[Ad]);omega)only[Ag,e2,Ad3,if_false,↓Ac,Ae,↓reduceIte,↓reduceDIte,↓Qe,Qu,Qv,Qw,Qx,Qy,Qz,QA,QB,QC,QD,QE,QF,QG,QH,QI,QK];first
    | exact ⟨by rfl,2,⟨by omega,fun h=>b2 (by omega),fun h=>e2,fun h=>absurd h (by omega)⟩,by simp only;omega,⟨[some 0,some 1,some 2],rfl,by simp,by simp[sA,kZ,SW,AW],by simp[HW,BW,SW,AW]<;>rfl⟩⟩
   simp(disch:=(try simp only[Ad]);omega)only[Ag,e2,if_true,↓Ac,Ae,↓reduceIte,↓reduceDIte,↓Qe,Qu,Qv,Qw,Qx,Qy,Qz,QA,QB,QC,QD,QE,QF,QG,QH,QI,QK];rw[if_neg (by rw[b2 (by omega)];simp)] at hr;rw[if_pos e2] at hr;subst hr;first
   | (refine ⟨[some 0],rfl,by simp,by simp[HW,BW,SW,AW],.inr ⟨_,rfl,?_,rfl⟩⟩;rfl)
   | (refine ⟨by rfl,⟨[some 0],rfl,by simp,by simp[HW,BW,SW,AW],.inr ⟨_,rfl,?_,rfl⟩⟩⟩;rfl)
  ·simp(disch:=(try simp only[Ad]);omega)only[Ag,Rv,↓Ac,Ae,↓reduceIte,↓reduceDIte,↓Qe,Qu,Qv,Qw,Qx,Qy,Qz,QA,QB,QC,QD,QE,QF,QG,QH,QI,QK];refine Ab.of c3 (by rfl) ?_;cases e2:hasP s FP
   ·simp(disch:=(try simp only[Ad]);omega)only[Ag,e2,Ad3,if_false,↓Ac,Ae,↓reduceIte,↓reduceDIte,↓Qe,Qu,Qv,Qw,Qx,Qy,Qz,QA,QB,QC,QD,QE,QF,QG,QH,QI,QK];first
    | exact ⟨by rfl,3,⟨by omega,fun h=>b2 (by omega),fun h=>b3 (by omega),fun h=>e2⟩,by simp only;omega,⟨[some 0,some 1,some 2],rfl,by simp,by simp[sA,kZ,SW,AW],by simp[HW,BW,SW,AW]<;>rfl⟩⟩
   simp(disch:=(try simp only[Ad]);omega)only[Ag,e2,if_true,↓Ac,Ae,↓reduceIte,↓reduceDIte,↓Qe,Qu,Qv,Qw,Qx,Qy,Qz,QA,QB,QC,QD,QE,QF,QG,QH,QI,QK];rw[if_neg (by rw[b2 (by omega)];simp)] at hr;rw[if_neg (by rw[b3 (by omega)];simp)] at hr;rw[if_pos e2] at hr;subst hr;first
   | (refine ⟨[some 0],rfl,by simp,by simp[HW,BW,SW,AW],.inr ⟨_,rfl,?_,rfl⟩⟩;rfl)
   | (refine ⟨by rfl,⟨[some 0],rfl,by simp,by simp[HW,BW,SW,AW],.inr ⟨_,rfl,?_,rfl⟩⟩⟩;rfl)
  rw[if_neg (by rw[b2 (by omega)];simp),if_neg (by rw[b3 (by omega)];simp),if_neg (by rw[b4 (by omega)];simp)] at hr;simp(disch:=(try simp only[Ad]);omega)only[Ag,Rv,↓Ac,Ae,↓reduceIte,↓reduceDIte,↓Qe,Qu,Qv,Qw,Qx,Qy,Qz,QA,QB,QC,QD,QE,QF,QG,QH,QI,QK];refine Ab.of hn (by rfl) ?_;generalize K8 s=n at *;have hd:decide ((0:Int)<(n:Int))=decide (0<n):=by simp
  simp(disch:=(try simp only[Ad]);omega)only[Ag,hd,↓Ac,Ae,↓reduceIte,↓reduceDIte,↓Qe,Qu,Qv,Qw,Qx,Qy,Qz,QA,QB,QC,QD,QE,QF,QG,QH,QI,QK];subst hr;first
  | (refine ⟨[some 0],rfl,by simp,by simp[HW,BW,SW,AW],.inr ⟨_,rfl,?_,rfl⟩⟩;rfl)
  | (refine ⟨by rfl,⟨[some 0],rfl,by simp,by simp[HW,BW,SW,AW],.inr ⟨_,rfl,?_,rfl⟩⟩⟩;rfl)
 rw[if_pos e1] at hr;simp(disch:=(try simp only[Ad]);omega)only[Ag,↓Ac,Ae,↓reduceIte,↓reduceDIte,↓Qe,Qu,Qv,Qw,Qx,Qy,Qz,QA,QB,QC,QD,QE,QF,QG,QH,QI,QK];refine Ab.by hq (by rfl) (by rfl) (by simp) ?_;simp(disch:=(try simp only[Ad]);omega)only[Ag,↓Ac,Ae,↓reduceIte,↓reduceDIte,↓Qe,Qu,Qv,Qw,Qx,Qy,Qz,QA,QB,QC,QD,QE,QF,QG,QH,QI,QK];subst hr;first
 | (refine ⟨[some 0],rfl,by simp,by simp[HW,BW,SW,AW],.inr ⟨_,rfl,?_,rfl⟩⟩;rfl)
 | (refine ⟨by rfl,⟨[some 0],rfl,by simp,by simp[HW,BW,SW,AW],.inr ⟨_,rfl,?_,rfl⟩⟩⟩;rfl)
end
end Go.Proofs.YtmidaophnbdcdaaGreatDoor
