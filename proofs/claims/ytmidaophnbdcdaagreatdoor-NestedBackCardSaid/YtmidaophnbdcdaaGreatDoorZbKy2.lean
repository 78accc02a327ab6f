/-
  Contracts of the functions, one after another.
-/
import Derived.Test.YtmidaophnbdcdaaGreatDoorZbKy1
import Derived.Shelf.SortM.Plain
import Derived.Shelf.SortM.SortNone
import Derived.Ground.SlgmProg
set_option linter.all false
open Go.Abs renaming A6->HW,Dz->BW,Cm->SW,Am->AW,Bd->sA,A4->kZ
open Go.Proofs.Tryz renaming prog->TP
set_option maxHeartbeats 16000000
set_option maxRecDepth 100000
open Go.Abs renaming Ef->Qe
open Nat renaming reduceAdd->Qu,reduceSub->Qv,reduceMul->Qw,reducePow->Qx,reduceDiv->Qy,reduceMod->Qz,reduceEqDiff->QI,reduceBEq->QK
open Int renaming reduceAdd->QA,reduceSub->QB,reduceMul->QC,reducePow->QD,reduceNeg->QE,reduceToNat->QF,reduceLT->QG,reduceLE->QH
open List renaming getElem?_eq_getElem->AbH,getD_eq_getElem?_getD->AbM,length_append->AbQ,length_cons->AbR,mem_cons->AbT,pairwise_cons->AbZ,take_add_one->Ac7,length_nil->Adg,map_nil->Adh,map_cons->Adt,take_length->Adu,length_take->Ady,drop_eq_nil_of_le->Adz,nodup_cons->AdB,range->AdC,drop_eq_getElem_cons->AdE,length_erase_of_mem->AdG,cons_append->AdH,take_of_length_le->AdJ,drop_of_length_le->AdK,length_pos_of_mem->AdL,length_set->AdN,length_map->AdO,take_append_drop->AdQ,length_mergeSort->AdR,mem_erase_of_ne->AdT,all_cons->AdV,getElem?_map->AdX,append_assoc->AdY,any_eq_false->Ad3,mem_append->Ad4,append_nil->Ad5,map_append->Ad6,range_succ->Ad7,replicate->Ad8,nodup_nil->Ad9,any_cons->Aea
open Bool renaming true_and->AbO,false_and->AbP,not_eq_true'->AdF,true_or->AdM,or_eq_true->AdP,not_false->AdU,not_true->AdW,false_or->Aeb
open Nat renaming le_refl->AbS,lt_or_ge->AbU,reduceMod->AbV,reduceDiv->AbY,zero_le->Ac6,eq_of_beq_eq_true->Ac8,lt_of_lt_of_le->Adc,add_assoc->AdA,le_succ_of_le->AdZ,le_trans->Ad0,ne_of_gt->Ad1,beq->Ad2,zero_add->Aec
open Array renaming getElem?_eq_getElem->AdD,getElem?_modify->AdS
open Or renaming inr->AdI
open Int renaming le_refl->Aed
namespace Go.Proofs.YtmidaophnbdcdaaGreatDoor
section
open Go Go.Proofs Go.Abs
variable {G:Ah}
def GW {s:Ly} {p:List UInt8} {x:Cel} {a:Rl} (h:Bm (s.single p x) a):Bm s a:=J4 (s.single_rows p x) rfl h
def XX {H:List Aa} (h:∀ b,H[0]?=some b->∀ J t,b≠.ext J t):Df H=true:=by
 cases H with
 | nil=>rfl
 | cons x r =>
  cases x with
  | ext J t=>exact absurd rfl (h _ rfl J t)
  | _=>rfl
def NoX (H:List Aa):Prop:=∀ b∈H,∀ J t,b≠.ext J t
def NoX.ok {H:List Aa} (h:NoX H):Df H=true:=XX fun b hb=>h b (List.mem_of_getElem? hb)
def NoX.set {H:List Aa} (h:NoX H) (i:Nat) {b:Aa} (hb:∀ J t,b≠.ext J t):NoX (H.set i b):=fun c hc=>by
 rcases List.mem_or_eq_of_mem_set hc with hc | rfl
 ·exact h c hc
 exact hb
def NoX.app {H E:List Aa} (h:NoX H) (he:NoX E):NoX (H++E):=fun c hc=>by
 rcases Ad4.1 hc with hc | hc
 ·exact h c hc
 exact he c hc
def L0 {L:Rl->Nat} {s:Ly} {H:List Aa} (h:BB L s H) (hr:0<s.rows.length) (h0:NoX H) (p:List UInt8) (n:Nd) (hs:s.paths.length<=1000000000/\s.rows.length<=1000000000) (hp:p.length<=1000000000) :
  ∃ L' H',Ctr TP G 60 [.ptr (L (.n 0)) 0,.mp (L (.n 1)),.d (S p),.d (NdD n)] H (.d (.tup [])) H'/\BB L' (s.single p (B2 n)) H'/\CI L s H L' (s.single p (B2 n)) H'/\NoX H':=by
 obtain ⟨sl1,sl2⟩:=hs;obtain ⟨nk,nt,nks,nl⟩:=n;obtain ⟨m,hm⟩:∃ m,s.rows.length=m+1:=⟨s.rows.length-1,by omega⟩;have hm1:s.rows.length-1=m:=by omega
 have ok:∀ k,k<9+m->Bm s (.n k):=fun k hk=>by show k<8+s.rows.length;omega
 obtain ⟨ms,ms1,ms2,ms3⟩:=h.seen;obtain ⟨mr,mr1,mr2,mr3⟩:=h.row m (by omega);have q0:=h.box;have q3:=h.paths;have q4:=h.rows;unfold Je at q4;rw[if_neg (by omega),hm] at q4;have l0:=h.lt _ (ok 0 (by omega));have l1:=h.lt _ (ok 1 (by omega));have l3:=h.lt _ (ok 3 (by omega));have l4:=h.lt _ (ok 4 (by omega));have lr:=h.lt _ (ok (8+m) (by omega));have n01:=h.ne (ok 0 (by omega)) (ok 1 (by omega)) (by simp);have n03:=h.ne (ok 0 (by omega)) (ok 3 (by omega)) (by simp);have n04:=h.ne (ok 0 (by omega)) (ok 4 (by omega)) (by simp);have n13:=h.ne (ok 1 (by omega)) (ok 3 (by omega)) (by simp);have n14:=h.ne (ok 1 (by omega)) (ok 4 (by omega)) (by simp);have n34:=h.ne (ok 3 (by omega)) (ok 4 (by omega)) (by simp);have n0r:=h.ne (ok 0 (by omega)) (ok (8+m) (by omega)) (by simp;omega);have n1r:=h.ne (ok 1 (by omega)) (ok (8+m) (by omega)) (by simp;omega);have n3r:=h.ne (ok 3 (by omega)) (ok (8+m) (by omega)) (by simp;omega);have n4r:=h.ne (ok 4 (by omega)) (ok (8+m) (by omega)) (by simp;omega);have ks:=ms2.ok;have kr:=mr2.ok;have rl:((AdC (m+1)).map fun i=>AV.mp (L (.n (8+i)))).length=m+1:=by simp
 have rg:((AdC (m+1)).map fun i=>AV.mp (L (.n (8+i)))).getD m .undef=.mp (L (.n (8+m))):=by rw[AbM,AdX,List.getElem?_range (by omega)];rfl
 generalize ((AdC (m+1)).map fun i=>AV.mp (L (.n (8+i))))=rb at *;have sl:=@strs_length s.paths;have gD:s.rows.getD m (fun _=>none)=s.rows[m]:=by rw[AbM,AbH (by omega)];rfl
 by_cases hpp:p∈s.paths
 ·have v1:Dh (.bool false) ms (S p) false=.bool true:=by rw[Ka,ms3,if_pos hpp];rfl
  cases hc:s.rows[m] p with
  | none =>
   have hcD:(s.rows.getD m fun _=>none) p=none:=(by rw[gD];exact hc);have v2:Dh (.agg [.bool false,.str ByteArray.empty]) mr (S p) true=.tup [.agg [.bool false,.str ByteArray.empty],.bool false]:=(by rw[CQ,mr3,hc];rfl);have hX:NoX (H.set (L (.n (8+m))) (.map (BR mr (S p) (.agg (GI (B2 (.mk nk nt nks nl))))))++[.box [.d (.int .i64 nk),.d (S nt),.d (Ss nks false),.d (.sl nl.length false (A0 nl))],.box [.d (.bool false),.d (.str ByteArray.empty)]]):=(h0.set _ (by simp)).app (by simp[NoX]);refine ⟨L,H.set (L (.n (8+m))) (.map (BR mr (S p) (.agg (GI (B2 (.mk nk nt nks nl))))))++[.box [.d (.int .i64 nk),.d (S nt),.d (Ss nks false),.d (.sl nl.length false (A0 nl))],.box [.d (.bool false),.d (.str ByteArray.empty)]],Ctr.bodyI (M:=M0) Al Tryz.func60 rfl Z6 ?h1 ?h2,?h3⟩;case h2 =>
    simp(disch:=(try simp only[Ad]);omega)only[Ag,Tryz.f60,hm,q0,q3,q4,ms1,mr1,ks,kr,v1,v2,rl,rg,sl,ndC,AG,↓Ac,Ae,↓reduceIte,↓reduceDIte,↓Qe,Qu,Qv,Qw,Qx,Qy,Qz,QA,QB,QC,QD,QE,QF,QG,QH,QI,QK];refine ⟨by rfl,?_⟩;refine Ab.of (Na (.mk nk nt nks nl)) (by rfl) ?_;simp(disch:=(try simp only[Ad]);omega)only[Ag,q0,q3,q4,ms1,mr1,ks,kr,v1,v2,rl,rg,sl,ndC,AG,↓Ac,Ae,↓reduceIte,↓reduceDIte,↓Qe,Qu,Qv,Qw,Qx,Qy,Qz,QA,QB,QC,QD,QE,QF,QG,QH,QI,QK];first
    | exact Or.inr ⟨rfl,Or.inr ⟨_,rfl,rfl,rfl⟩⟩
   case h1=>exact hX.ok
   case h3 =>have e1:s.single p (B2 (.mk nk nt nks nl))={s with rows:=s.rows.modify (s.rows.length-1) fun r=>Ln r p (B2 (.mk nk nt nks nl))}:=(by simp[Ly.single,hpp]);rw[e1];refine ⟨BB.app (h.cell (K:=H.set (L (.n (8+m))) (.map (BR mr (S p) (.agg (GI (B2 (.mk nk nt nks nl))))))) (by omega) (by simp) ⟨mr,by rw[hm1];exact mr1,by rw[hm1];exact Bt lr⟩ (by rw[hm1];exact hcD) fun a ha hn=>Ao (h.ne (ok _ (by omega)) ha (by rw[hm1] at hn;exact hn.symm))) _,⟨rfl,rfl,by simp,fun i hi hr=>?_,fun a ha=>.inl ⟨a,GW (by rw[e1];exact ha),rfl⟩⟩,hX⟩;rw[Az (by simpa using hi),Ao (hr _ (ok _ (by omega)))]
  | some c =>
   have hcD:(s.rows.getD m fun _=>none) p=some c:=(by rw[gD];exact hc);have v2:Dh (.agg [.bool false,.str ByteArray.empty]) mr (S p) true=.tup [.agg (GI c),.bool true]:=(by rw[CQ,mr3,hc];rfl);have hX:NoX (H++[.box [.d (.int .i64 nk),.d (S nt),.d (Ss nks false),.d (.sl nl.length false (A0 nl))],.box [.d (.bool c.2),.d (S c.1)]]):=h0.app (by simp[NoX]);refine ⟨L,H++[.box [.d (.int .i64 nk),.d (S nt),.d (Ss nks false),.d (.sl nl.length false (A0 nl))],.box [.d (.bool c.2),.d (S c.1)]],Ctr.bodyI (M:=M0) Al Tryz.func60 rfl Z6 ?h1 ?h2,?h3⟩;case h2 =>
    simp(disch:=(try simp only[Ad]);omega)only[Ag,Tryz.f60,hm,q0,q3,q4,ms1,mr1,ks,kr,v1,v2,rl,rg,sl,ndC,AG,↓Ac,Ae,↓reduceIte,↓reduceDIte,↓Qe,Qu,Qv,Qw,Qx,Qy,Qz,QA,QB,QC,QD,QE,QF,QG,QH,QI,QK];refine ⟨by rfl,?_⟩;first
    | exact Or.inr ⟨rfl,Or.inr ⟨_,rfl,rfl,rfl⟩⟩
   case h1=>exact hX.ok
   case h3 =>have e1:s.single p (B2 (.mk nk nt nks nl))=s:=(by unfold Ly.single;rw[if_pos hpp,Ly.same_cell (c:=c) (by rw[hm1];exact hcD)]);rw[e1];exact ⟨h.app _,CI.app _ _ _ _,hX⟩
 have v1:Dh (.bool false) ms (S p) false=.bool false:=by rw[Ka,ms3,if_neg hpp];rfl
 cases hc:s.rows[m] p with
 | none =>
  have hcD:(s.rows.getD m fun _=>none) p=none:=by rw[gD];exact hc
  have v2:Dh (.agg [.bool false,.str ByteArray.empty]) mr (S p) true=.tup [.agg [.bool false,.str ByteArray.empty],.bool false]:=by rw[CQ,mr3,hc];rfl
  have hX:NoX ((((H.set (L (.n 1)) (.map (BR ms (S p) (.bool true)))).set (L (.n 3)) .dead).set (L (.n 0)) (.box [.d (.bool s.further),.lsl (L (.n 2)) 1 0 s.above.length,.lsl (H.length+2) 1 0 (s.paths.length+1),.lsl (L (.n 4)) 1 0 (m+1),.lsl (L (.n 5)) 1 0 s.lists.length,.mp (L (.n 6)),.mp (L (.n 7))])).set (L (.n (8+m))) (.map (BR mr (S p) (.agg (GI (B2 (.mk nk nt nks nl))))))++[.box [.d (.int .i64 nk),.d (S nt),.d (Ss nks false),.d (.sl nl.length false (A0 nl))],.row false [S p],.row false (strs s.paths++[S p]),.box [.d (.bool false),.d (.str ByteArray.empty)]]):=((((h0.set _ (by simp)).set _ (by simp)).set _ (by simp)).set _ (by simp)).app (by simp[NoX]);refine ⟨Bi L 3 (H.length+2),(((H.set (L (.n 1)) (.map (BR ms (S p) (.bool true)))).set (L (.n 3)) .dead).set (L (.n 0)) (.box [.d (.bool s.further),.lsl (L (.n 2)) 1 0 s.above.length,.lsl (H.length+2) 1 0 (s.paths.length+1),.lsl (L (.n 4)) 1 0 (m+1),.lsl (L (.n 5)) 1 0 s.lists.length,.mp (L (.n 6)),.mp (L (.n 7))])).set (L (.n (8+m))) (.map (BR mr (S p) (.agg (GI (B2 (.mk nk nt nks nl))))))++[.box [.d (.int .i64 nk),.d (S nt),.d (Ss nks false),.d (.sl nl.length false (A0 nl))],.row false [S p],.row false (strs s.paths++[S p]),.box [.d (.bool false),.d (.str ByteArray.empty)]],Ctr.bodyI (M:=M0) Al Tryz.func60 rfl Z6 ?h1 ?h2,?h3⟩;case h2 =>
   simp(disch:=(try simp only[Ad]);omega)only[Ag,Tryz.f60,hm,q0,q3,q4,ms1,mr1,ks,kr,v1,v2,rl,rg,sl,ndC,AG,↓Ac,Ae,↓reduceIte,↓reduceDIte,↓Qe,Qu,Qv,Qw,Qx,Qy,Qz,QA,QB,QC,QD,QE,QF,QG,QH,QI,QK];refine ⟨by rfl,?_⟩;refine Ab.of (Na (.mk nk nt nks nl)) (by rfl) ?_;simp(disch:=(try simp only[Ad]);omega)only[Ag,q0,q3,q4,ms1,mr1,ks,kr,v1,v2,rl,rg,sl,ndC,AG,↓Ac,Ae,↓reduceIte,↓reduceDIte,↓Qe,Qu,Qv,Qw,Qx,Qy,Qz,QA,QB,QC,QD,QE,QF,QG,QH,QI,QK];first
   | exact Or.inr ⟨rfl,Or.inr ⟨_,rfl,rfl,rfl⟩⟩
  case h1=>exact hX.ok
  case h3 =>
   have hp1:BB (Bi L 3 (H.length+2)) {s with paths:=s.paths++[p]} (((H.set (L (.n 1)) (.map (BR ms (S p) (.bool true)))).set (L (.n 3)) .dead).set (L (.n 0)) (.box [.d (.bool s.further),.lsl (L (.n 2)) 1 0 s.above.length,.lsl (H.length+2) 1 0 (s.paths.length+1),.lsl (L (.n 4)) 1 0 (m+1),.lsl (L (.n 5)) 1 0 s.lists.length,.mp (L (.n 6)),.mp (L (.n 7))])++[.box [.d (.int .i64 nk),.d (S nt),.d (Ss nks false),.d (.sl nl.length false (A0 nl))],.row false [S p],.row false (strs s.paths++[S p]),.box [.d (.bool false),.d (.str ByteArray.empty)]]):=by
    refine h.path hpp (by omega) (by simp) (by simp) ?_ ⟨ms,ms1,?_⟩ ?_ fun a ha a0 a1 a3=>?_;·rw[Az (by simpa using l0),Bt (by simpa using l0),hm]
    ·rw[Az (by simpa using l1),Ao n01,Ao (Ne.symm n13),Bt l1]
    ·rw[AR (by simp)];simp[strs]
    have la:=h.lt a ha;rw[Az (by simpa using la),Ao (h.ne (ok 0 (by omega)) ha (Ne.symm a0)),Ao (h.ne (ok 3 (by omega)) ha (Ne.symm a3)),Ao (h.ne (ok 1 (by omega)) ha (Ne.symm a1))]
   have e1:s.single p (B2 (.mk nk nt nks nl))={({s with paths:=s.paths++[p]}:Ly) with rows:=s.rows.modify (s.rows.length-1) fun r=>Ln r p (B2 (.mk nk nt nks nl))}:=(by simp[Ly.single,hpp]);rw[e1];have er:Bi L 3 (H.length+2) (.n (8+m))=L (.n (8+m)):=AX _ _ (by omega);have hx:Bm {s with paths:=s.paths++[p]} (.n (8+m)):=ok _ (by omega);refine ⟨hp1.cell (K:=(((H.set (L (.n 1)) (.map (BR ms (S p) (.bool true)))).set (L (.n 3)) .dead).set (L (.n 0)) (.box [.d (.bool s.further),.lsl (L (.n 2)) 1 0 s.above.length,.lsl (H.length+2) 1 0 (s.paths.length+1),.lsl (L (.n 4)) 1 0 (m+1),.lsl (L (.n 5)) 1 0 s.lists.length,.mp (L (.n 6)),.mp (L (.n 7))])).set (L (.n (8+m))) (.map (BR mr (S p) (.agg (GI (B2 (.mk nk nt nks nl))))))++[.box [.d (.int .i64 nk),.d (S nt),.d (Ss nks false),.d (.sl nl.length false (A0 nl))],.row false [S p],.row false (strs s.paths++[S p]),.box [.d (.bool false),.d (.str ByteArray.empty)]]) (by show 0<s.rows.length;omega) (by simp) ⟨mr,?_,?_⟩ (by show (s.rows.getD (s.rows.length-1) fun _=>none) p=none;rw[hm1];exact hcD) fun a ha hn=>?_,⟨AX _ _ (by decide),AX _ _ (by decide),by simp,fun i hi hr=>?_,fun a ha=>JW (by omega) (GW (by rw[e1];exact ha))⟩,hX⟩
   ·show (((H.set (L (.n 1)) (.map (BR ms (S p) (.bool true)))).set (L (.n 3)) .dead).set (L (.n 0)) (.box [.d (.bool s.further),.lsl (L (.n 2)) 1 0 s.above.length,.lsl (H.length+2) 1 0 (s.paths.length+1),.lsl (L (.n 4)) 1 0 (m+1),.lsl (L (.n 5)) 1 0 s.lists.length,.mp (L (.n 6)),.mp (L (.n 7))])++[.box [.d (.int .i64 nk),.d (S nt),.d (Ss nks false),.d (.sl nl.length false (A0 nl))],.row false [S p],.row false (strs s.paths++[S p]),.box [.d (.bool false),.d (.str ByteArray.empty)]])[Bi L 3 (H.length+2) (.n (8+(s.rows.length-1)))]?=_
    rw[hm1,er,Az (by simpa using lr),Ao n0r,Ao n3r,Ao n1r];exact mr1
   ·show ((((H.set (L (.n 1)) (.map (BR ms (S p) (.bool true)))).set (L (.n 3)) .dead).set (L (.n 0)) (.box [.d (.bool s.further),.lsl (L (.n 2)) 1 0 s.above.length,.lsl (H.length+2) 1 0 (s.paths.length+1),.lsl (L (.n 4)) 1 0 (m+1),.lsl (L (.n 5)) 1 0 s.lists.length,.mp (L (.n 6)),.mp (L (.n 7))])).set (L (.n (8+m))) (.map (BR mr (S p) (.agg (GI (B2 (.mk nk nt nks nl))))))++[.box [.d (.int .i64 nk),.d (S nt),.d (Ss nks false),.d (.sl nl.length false (A0 nl))],.row false [S p],.row false (strs s.paths++[S p]),.box [.d (.bool false),.d (.str ByteArray.empty)]])[Bi L 3 (H.length+2) (.n (8+(s.rows.length-1)))]?=_
    rw[hm1,er,Az (by simpa using lr),Bt (by simpa using lr)]
   ·have hn':¬Bi L 3 (H.length+2) (.n (8+m))=Bi L 3 (H.length+2) a:=hp1.ne hx ha (by
     have:a≠.n (8+(s.rows.length-1)):=hn;rw[hm1] at this;exact this.symm)
    rw[er] at hn';rcases AbU (Bi L 3 (H.length+2) a) H.length with q | q
    ·rw[Az (by simpa using q),Az (by simpa using q),Ao hn']
    rw[AR (by simpa using q),AR (by simpa using q)];simp only[AdN]
   rw[Az (by simpa using hi),Ao (hr _ (ok _ (by omega))),Ao (hr _ (ok _ (by omega))),Ao (hr _ (ok _ (by omega))),Ao (hr _ (ok _ (by omega)))]
 | some c =>
  have hcD:(s.rows.getD m fun _=>none) p=some c:=by rw[gD];exact hc
  have v2:Dh (.agg [.bool false,.str ByteArray.empty]) mr (S p) true=.tup [.agg (GI c),.bool true]:=by rw[CQ,mr3,hc];rfl
  have hX:NoX (((H.set (L (.n 1)) (.map (BR ms (S p) (.bool true)))).set (L (.n 3)) .dead).set (L (.n 0)) (.box [.d (.bool s.further),.lsl (L (.n 2)) 1 0 s.above.length,.lsl (H.length+2) 1 0 (s.paths.length+1),.lsl (L (.n 4)) 1 0 (m+1),.lsl (L (.n 5)) 1 0 s.lists.length,.mp (L (.n 6)),.mp (L (.n 7))])++[.box [.d (.int .i64 nk),.d (S nt),.d (Ss nks false),.d (.sl nl.length false (A0 nl))],.row false [S p],.row false (strs s.paths++[S p]),.box [.d (.bool c.2),.d (S c.1)]]):=(((h0.set _ (by simp)).set _ (by simp)).set _ (by simp)).app (by simp[NoX]);refine ⟨Bi L 3 (H.length+2),((H.set (L (.n 1)) (.map (BR ms (S p) (.bool true)))).set (L (.n 3)) .dead).set (L (.n 0)) (.box [.d (.bool s.further),.lsl (L (.n 2)) 1 0 s.above.length,.lsl (H.length+2) 1 0 (s.paths.length+1),.lsl (L (.n 4)) 1 0 (m+1),.lsl (L (.n 5)) 1 0 s.lists.length,.mp (L (.n 6)),.mp (L (.n 7))])++[.box [.d (.int .i64 nk),.d (S nt),.d (Ss nks false),.d (.sl nl.length false (A0 nl))],.row false [S p],.row false (strs s.paths++[S p]),.box [.d (.bool c.2),.d (S c.1)]],Ctr.bodyI (M:=M0) Al Tryz.func60 rfl Z6 ?h1 ?h2,?h3⟩;case h2 =>
   simp(disch:=(try simp only[Ad]);omega)only[Ag,Tryz.f60,hm,q0,q3,q4,ms1,mr1,ks,kr,v1,v2,rl,rg,sl,ndC,AG,↓Ac,Ae,↓reduceIte,↓reduceDIte,↓Qe,Qu,Qv,Qw,Qx,Qy,Qz,QA,QB,QC,QD,QE,QF,QG,QH,QI,QK];refine ⟨by rfl,?_⟩;first
   | exact Or.inr ⟨rfl,Or.inr ⟨_,rfl,rfl,rfl⟩⟩
  case h1=>exact hX.ok
  case h3 =>
   have hp1:BB (Bi L 3 (H.length+2)) {s with paths:=s.paths++[p]} (((H.set (L (.n 1)) (.map (BR ms (S p) (.bool true)))).set (L (.n 3)) .dead).set (L (.n 0)) (.box [.d (.bool s.further),.lsl (L (.n 2)) 1 0 s.above.length,.lsl (H.length+2) 1 0 (s.paths.length+1),.lsl (L (.n 4)) 1 0 (m+1),.lsl (L (.n 5)) 1 0 s.lists.length,.mp (L (.n 6)),.mp (L (.n 7))])++[.box [.d (.int .i64 nk),.d (S nt),.d (Ss nks false),.d (.sl nl.length false (A0 nl))],.row false [S p],.row false (strs s.paths++[S p]),.box [.d (.bool c.2),.d (S c.1)]]):=by
    refine h.path hpp (by omega) (by simp) (by simp) ?_ ⟨ms,ms1,?_⟩ ?_ fun a ha a0 a1 a3=>?_;·rw[Az (by simpa using l0),Bt (by simpa using l0),hm]
    ·rw[Az (by simpa using l1),Ao n01,Ao (Ne.symm n13),Bt l1]
    ·rw[AR (by simp)];simp[strs]
    have la:=h.lt a ha;rw[Az (by simpa using la),Ao (h.ne (ok 0 (by omega)) ha (Ne.symm a0)),Ao (h.ne (ok 3 (by omega)) ha (Ne.symm a3)),Ao (h.ne (ok 1 (by omega)) ha (Ne.symm a1))]
   have e1:s.single p (B2 (.mk nk nt nks nl))={s with paths:=s.paths++[p]}:=(by unfold Ly.single;rw[if_neg hpp,Ly.same_cell (c:=c) (by rw[hm1];exact hcD)]);rw[e1];refine ⟨hp1,⟨AX _ _ (by decide),AX _ _ (by decide),by simp,fun i hi hr=>?_,fun a ha=>JW (by omega) (GW (by rw[e1];exact ha))⟩,hX⟩;rw[Az (by simpa using hi),Ao (hr _ (ok _ (by omega))),Ao (hr _ (ok _ (by omega))),Ao (hr _ (ok _ (by omega)))]
def BB.sev' {L:Rl->Nat} {s:Ly} {H K:List Aa} (h:BB L s H) {p:List UInt8} {n:Nat} (hn:0<n) (hl:H.length<=K.length)
  (k7:∃ m:List (D × D),H[L (.n 7)]?=some (.map m)/\K[L (.n 7)]?=some (.map (BR m (S p) (.int .i64 (n:Nat)))))
  (kr:∀ a,Bm s a->a≠.n 7->K[L a]?=H[L a]?):BB L {s with sv:=CW s.sv p n} K:=by
 have ok:∀ k,k<8+s.rows.length->Bm s (.n k):=fun k hk=>hk;have ne:∀ {k j:Nat},k≠j->Rl.n k≠Rl.n j:=fun h e=>h (by cases e;rfl);have get:∀ k,k<8+s.rows.length->k≠7->K[L (.n k)]?=H[L (.n k)]?:=fun k hk h7=>kr _ (ok k hk) (ne h7);refine ⟨h.inj,fun a ha=>Adc (h.lt a ha) hl,?_,?_,?_,?_,?_,?_,?_,?_,?_,?_⟩;·rw[get 0 (by omega) (by decide)];exact h.box
 ·rw[get 1 (by omega) (by decide)];exact h.seen
 ·rw[get 2 (by omega) (by decide)];exact h.above
 ·rw[get 3 (by omega) (by decide)];exact h.paths
 ·rw[get 4 (by omega) (by decide)];exact h.rows
 ·rw[get 5 (by omega) (by decide)];exact h.lists
 ·rw[get 6 (by omega) (by decide)];exact h.items
 ·obtain ⟨m,m1,m2⟩:=k7;obtain ⟨m',q1,q2,q3⟩:=h.sev;have:m=m':=by rw[m1] at q1;cases q1;rfl
  subst this;refine ⟨_,m2,q2.upd _ _,fun q=>?_⟩;show _=if CW s.sv p n q=0 then none else some (D.int .i64 (CW s.sv p n q:Nat))
  rw[IY q2,q3];by_cases e:q=p;·subst e;rw[if_pos rfl,Dm,if_neg (by omega)]
  rw[if_neg e,CV _ _ e]
 ·intro i hi;rw[get (8+i) (by simp at hi;omega) (by omega)];exact h.row i hi
 intro q hq;rw[kr (.i q) hq (by simp)];exact h.item q hq
def BB.lst {L:Rl->Nat} {s:Ly} {H K:List Aa} (h:BB L s H) {N:Nat} {p:List UInt8} (hN:H.length<=N) (hK:N<K.length) (hl:H.length<=K.length)
  (k0:K[L (.n 0)]?=some (.box [.d (.bool s.further),.lsl (L (.n 2)) 1 0 s.above.length,.lsl (L (.n 3)) 1 0 s.paths.length,.lsl (L (.n 4)) 1 0 s.rows.length,.lsl N 1 0 (s.lists.length+1),.mp (L (.n 6)),.mp (L (.n 7))]))
  (k5:K[N]?=some (.row false (strs (s.lists++[p])))) (kr:∀ a,Bm s a->a≠.n 0->a≠.n 5->K[L a]?=H[L a]?):BB (Bi L 5 N) {s with lists:=s.lists++[p]} K:=by
 have ok:∀ k,k<8+s.rows.length->Bm s (.n k):=fun k hk=>hk;have ne:∀ {k j:Nat},k≠j->Rl.n k≠Rl.n j:=fun h e=>h (by cases e;rfl);have get:∀ k,k<8+s.rows.length->k≠0->k≠5->K[Bi L 5 N (.n k)]?=H[L (.n k)]?:=fun k hk h0 h3=>by rw[AX L N h3];exact kr _ (ok k hk) (ne h0) (ne h3)
 have s3:=Da L 5 N;have sk:∀ k,k≠5->Bi L 5 N (.n k)=L (.n k):=fun k hk=>AX L N hk;have hg:∀ a,Bm s a->Bi L 5 N a<K.length:=fun a ha=>by
  cases a with
  | n j =>
   by_cases e:j=5;·subst e;rw[s3];exact hK
   rw[sk j e];exact Adc (h.lt _ ha) hl
  | i q=>exact Adc (h.lt _ ha) hl
 refine ⟨NT (s':={s with lists:=s.lists++[p]}) h hN fun a ha _=>ha,hg,?_,?_,?_,?_,?_,?_,?_,?_,?_,?_⟩;·rw[sk 0 (by decide),sk 2 (by decide),sk 3 (by decide),sk 4 (by decide),s3,sk 6 (by decide),sk 7 (by decide),k0];simp
 ·rw[get 1 (by omega) (by decide) (by decide)];exact h.seen
 ·rw[get 2 (by omega) (by decide) (by decide)];exact h.above
 ·rw[get 3 (by omega) (by decide) (by decide)];exact h.paths
 ·rw[get 4 (by omega) (by decide) (by decide),h.rows];unfold Je;have:∀ i,Bi L 5 N (.n (8+i))=L (.n (8+i)):=fun i=>sk _ (by omega);simp only[this]
 ·rw[s3];exact k5
 ·rw[get 6 (by omega) (by decide) (by decide)];exact h.items
 ·rw[get 7 (by omega) (by decide) (by decide)];exact h.sev
 ·intro i hi;rw[get (8+i) (by simp at hi;omega) (by omega) (by omega)];exact h.row i hi
 intro q hq;have e:K[L (.i q)]?=H[L (.i q)]?:=kr (.i q) hq (by simp) (by simp);rw[UY,e];exact h.item q hq
def FD (L:Rl->Nat) (p:List UInt8) (N:Nat):Rl->Nat
 | .n j=>L (.n j)
 | .i q=>if q=p then N else L (.i q)
def Jc (L:Rl->Nat) (p:List UInt8) (N:Nat):FD L p N (.i p)=N:=by simp[FD]
def Pr (L:Rl->Nat) {p q:List UInt8} (N:Nat) (h:¬q=p):FD L p N (.i q)=L (.i q):=by simp[FD,h]
def BB.itm {L:Rl->Nat} {s:Ly} {H K:List Aa} (h:BB L s H) {N:Nat} {p:List UInt8} {e:Elm} (hN:H.length<=N) (hK:N<K.length) (hl:H.length<=K.length)
  (k6:∃ m:List (D × AV),H[L (.n 6)]?=some (.amap m)/\K[L (.n 6)]?=some (.amap (BR m (S p) (.lsl N 5 0 ((s.it p).length+1)))))
  (kn:K[N]?=some (.row false (Bo (s.it p++[e])))) (kr:∀ a,Bm s a->a≠.n 6->a≠.i p->K[L a]?=H[L a]?):BB (FD L p N) {s with it:=CW s.it p (s.it p++[e])} K:=by
 have ok:∀ k,k<8+s.rows.length->Bm s (.n k):=fun k hk=>hk;have ne:∀ {k j:Nat},k≠j->Rl.n k≠Rl.n j:=fun h e=>h (by cases e;rfl);have get:∀ k,k<8+s.rows.length->k≠6->K[L (.n k)]?=H[L (.n k)]?:=fun k hk h6=>kr _ (ok k hk) (ne h6) (by simp);have key:∀ a,Bm {s with it:=CW s.it p (s.it p++[e])} a->(a=.i p/\FD L p N a=N)\/(a≠.i p/\Bm s a/\FD L p N a=L a/\L a<H.length):=by
  intro a ha;cases a with
  | n k=>exact .inr ⟨by simp,ha,rfl,h.lt (.n k) ha⟩
  | i q =>
   by_cases eq:q=p;·subst eq;exact .inl ⟨rfl,Jc L q N⟩
   have hq:Bm s (.i q):=(by have:¬CW s.it p (s.it p++[e]) q=[]:=ha;rwa[CV _ _ eq] at this);exact .inr ⟨fun x=>eq (by cases x;rfl),hq,Pr L N eq,h.lt _ hq⟩
 refine ⟨fun a b ha hb hab=>?_,fun a ha=>?_,?_,?_,?_,?_,?_,?_,?_,?_,?_,?_⟩
 ·rcases key a ha with ⟨a1,a2⟩ | ⟨a1,a2,a3,a4⟩<;>rcases key b hb with ⟨b1,b2⟩ | ⟨b1,b2,b3,b4⟩
  ·rw[a1,b1]
  ·omega
  ·omega
  exact h.inj a b a2 b2 (by rw[<-a3,<-b3];exact hab)
 ·rcases key a ha with ⟨a1,a2⟩ | ⟨a1,a2,a3,a4⟩<;>omega
 ·show K[L (.n 0)]?=_
  rw[get 0 (by omega) (by decide)];exact h.box
 ·show ∃ m:List (D × D),K[L (.n 1)]?=_/\_
  rw[get 1 (by omega) (by decide)];exact h.seen
 ·show K[L (.n 2)]?=_
  rw[get 2 (by omega) (by decide)];exact h.above
 ·show K[L (.n 3)]?=_
  rw[get 3 (by omega) (by decide)];exact h.paths
 ·show K[L (.n 4)]?=_
  rw[get 4 (by omega) (by decide)];exact h.rows
 ·show K[L (.n 5)]?=_
  rw[get 5 (by omega) (by decide)];exact h.lists
 ·obtain ⟨m,m1,m2⟩:=k6;obtain ⟨m',q1,q2,q3⟩:=h.items;have:m=m':=by rw[m1] at q1;cases q1;rfl
  subst this;refine ⟨_,m2,q2.upd _ _,fun q=>?_⟩;show _=if CW s.it p (s.it p++[e]) q=[] then none else some (AV.lsl (FD L p N (.i q)) 5 0 (CW s.it p (s.it p++[e]) q).length)
  rw[IY q2,q3];by_cases eq:q=p;·subst eq;rw[if_pos rfl,Dm,if_neg (by simp),Jc,AbQ];rfl
  rw[if_neg eq,CV _ _ eq,Pr L N eq]
 ·show ∃ m:List (D × D),K[L (.n 7)]?=_/\_
  rw[get 7 (by omega) (by decide)];exact h.sev
 ·intro i hi;show ∃ m:List (D × D),K[L (.n (8+i))]?=_/\_
  rw[get (8+i) (by simp at hi;omega) (by omega)];exact h.row i hi
 intro q hq;rcases key (.i q) hq with ⟨a1,a2⟩ | ⟨a1,a2,a3,a4⟩
 ·cases a1;rw[Jc,kn];simp only[Dm]
 rw[a3,kr (.i q) a2 (by simp) a1];have eq:¬q=p:=fun x=>a1 (by rw[x]);simp only[CV _ _ eq];exact h.item q a2
def VQ {L:Rl->Nat} {s:Ly} {H:List Aa} {p:List UInt8} {N:Nat} {l:List Elm} (hN:H.length<=N) {a:Rl} (ha:Bm {s with it:=CW s.it p l} a):(∃ b,Bm s b/\L b=FD L p N a)\/H.length<=FD L p N a:=by
 cases a with
 | n j=>exact .inl ⟨.n j,ha,rfl⟩
 | i q =>
  by_cases e:q=p;·subst e;rw[Jc];exact .inr hN
  rw[Pr L N e];have:¬CW s.it p l q=[]:=ha;rw[CV _ _ e] at this;exact .inl ⟨.i q,this,rfl⟩
def Ly.itk (s:Ly) (p:List UInt8) (kids:List Nd) (k:Nat):Ly:={s with it:=CW s.it p (s.it p++(kids.take k).map fun x=>((s.rows.length:Int)-1,x))}
def Ly.itk_zero (s:Ly) (p:List UInt8) (kids:List Nd):s.itk p kids 0=s:=by
 have:CW s.it p (s.it p)=s.it:=by
  funext q;by_cases e:q=p;·subst e;exact Dm _ _ _
  exact CV _ _ e
 unfold Ly.itk;simp only[List.take_zero,Adh,Ad5,this]
def Ly.itk_at (s:Ly) (p:List UInt8) (kids:List Nd) (k:Nat):(s.itk p kids k).it p=s.it p++(kids.take k).map fun x=>((s.rows.length:Int)-1,x):=Dm _ _ _
def Ly.itk_succ (s:Ly) (p:List UInt8) (kids:List Nd) (k:Nat) (h:k<kids.length):s.itk p kids (k+1)={s.itk p kids k with it:=CW (s.itk p kids k).it p ((s.itk p kids k).it p++[((s.rows.length:Int)-1,kids.getD k noN)])}:=by
 have e1:kids.take (k+1)=kids.take k++[kids.getD k noN]:=by rw[List.take_succ,AbH h,AbM,AbH h];rfl
 unfold Ly.itk;simp only[e1,Ad6,Adt,Adh];congr 1;funext q;by_cases e:q=p;·subst e;rw[Dm,Dm,Dm,AdY]
 rw[CV _ _ e,CV _ _ e,CV _ _ e]
def Gw (L:Rl->Nat) (H:List Aa) (mi:List (D × AV)) (p:List UInt8) (it:List Elm) (e:Elm):List Aa :=
 (if it=[] then H.set (L (.n 6)) (.amap (BR mi (S p) (.lsl (H.length+2) 5 0 (it.length+1)))) else (H.set (L (.i p)) .dead).set (L (.n 6)) (.amap (BR mi (S p) (.lsl (H.length+2) 5 0 (it.length+1))))) ++
  [.box ((ndC e.2).map .d),.row false (Bo [e]),.row false (Bo (it++[e]))]
def WV (L:Rl->Nat) (s:Ly) (H:List Aa) (p:List UInt8) (kids:List Nd) (k:Nat) (x:(Rl->Nat) × List Aa):Prop :=
 BB x.1 (s.itk p kids k) x.2/\CI L s H x.1 (s.itk p kids k) x.2/\NoX x.2
def Aby (s:Ly) (p:List UInt8) (kids:List Nd) (k:Nat) (x y:(Rl->Nat) × List Aa):Prop :=
 ∃ mi,x.2[x.1 (.n 6)]?=some (.amap mi)/\y.2=Gw x.1 x.2 mi p ((s.itk p kids k).it p) ((s.rows.length:Int)-1,kids.getD k noN)
def Sf {L:Rl->Nat} {s:Ly} {H:List Aa} {p:List UInt8} {kids:List Nd} {k:Nat} (hk:k<kids.length) {x:(Rl->Nat) × List Aa} (hx:WV L s H p kids k x):∃ y,Aby s p kids k x y/\WV L s H p kids (k+1) y:=by
 obtain ⟨L1,H1⟩:=x;obtain ⟨h1,h2,h3⟩:=hx;simp only at h1 h2 h3;obtain ⟨mi,m1,m2,m3⟩:=h1.items;have ok:∀ k',k'<8+s.rows.length->Bm (s.itk p kids k) (.n k'):=fun k' hk'=>hk';have l6:=h1.lt (.n 6) (ok 6 (by omega));generalize he:(((s.rows.length:Int)-1,kids.getD k noN):Elm)=e;refine ⟨(FD L1 p (H1.length+2),Gw L1 H1 mi p ((s.itk p kids k).it p) e),⟨mi,m1,by rw[he]⟩,?_⟩;have hlen:(Gw L1 H1 mi p ((s.itk p kids k).it p) e).length=H1.length+3:=by unfold Gw;split<;>simp
 have gN:(Gw L1 H1 mi p ((s.itk p kids k).it p) e)[H1.length+2]?=some (.row false (Bo ((s.itk p kids k).it p++[e]))):=by unfold Gw;split<;>simp
 have g6:(Gw L1 H1 mi p ((s.itk p kids k).it p) e)[L1 (.n 6)]?=some (.amap (BR mi (S p) (.lsl (H1.length+2) 5 0 (((s.itk p kids k).it p).length+1)))):=by
  unfold Gw;split;·rw[Az (by simpa using l6),Bt l6]
  rw[Az (by simpa using l6),Bt (by simpa using l6)]
 have gO:∀ i,i<H1.length->i≠L1 (.n 6)->(¬(s.itk p kids k).it p=[]->i≠L1 (.i p))->(Gw L1 H1 mi p ((s.itk p kids k).it p) e)[i]?=H1[i]?:=by
  intro i hi h6 hp;unfold Gw;split;·rw[Az (by simpa using hi),Ao (Ne.symm h6)]
  rename_i hne;rw[Az (by simpa using hi),Ao (Ne.symm h6),Ao (Ne.symm (hp hne))]
 have hs':s.itk p kids (k+1)={s.itk p kids k with it:=CW (s.itk p kids k).it p ((s.itk p kids k).it p++[e])}:=by rw[Ly.itk_succ s p kids k hk,he]
 refine ⟨?_,h2.trans ?_,?_⟩
 ·show BB (FD L1 p (H1.length+2)) (s.itk p kids (k+1)) (Gw L1 H1 mi p ((s.itk p kids k).it p) e)
  rw[hs'];refine h1.itm (by omega) (by omega) (by omega) ⟨mi,m1,g6⟩ gN fun a ha a6 ap=>gO _ (h1.lt a ha) (h1.ne ha (ok 6 (by omega)) a6) fun hne=>?_;exact h1.ne ha (b:=.i p) hne ap
 ·show CI L1 (s.itk p kids k) H1 (FD L1 p (H1.length+2)) (s.itk p kids (k+1)) (Gw L1 H1 mi p ((s.itk p kids k).it p) e)
  refine ⟨rfl,rfl,by omega,fun i hi hr=>gO i hi (Ne.symm (hr _ (ok 6 (by omega)))) fun hne=>Ne.symm (hr (.i p) hne),fun a ha=>?_⟩;rw[hs'] at ha;exact VQ (by omega) ha
 show NoX (Gw L1 H1 mi p ((s.itk p kids k).it p) e)
 unfold Gw;split;·exact (h3.set _ (by simp)).app (by simp[NoX])
 exact ((h3.set _ (by simp)).set _ (by simp)).app (by simp[NoX])
def Yb {L:Rl->Nat} {s:Ly} {H:List Aa} (h:BB L s H) (hr:0<s.rows.length) (h0:NoX H) (p:List UInt8) (kids:List Nd) (full:Bool) (hs:s.lists.length<=1000000000/\s.rows.length<=1000000000) (hk:(s.it p).length+kids.length<=1000000000) :
  ∃ L' H',Ctr TP G 97 [.ptr (L (.n 0)) 0,.d (S p),.d (NdS kids full)] H (.d (.tup [])) H'/\BB L' (s.list p kids) H'/\CI L s H L' (s.list p kids) H'/\NoX H':=by
 obtain ⟨sl1,sl2⟩:=hs;have ok:∀ k,k<8+s.rows.length->Bm s (.n k):=fun k hk=>hk;obtain ⟨mv,mv1,mv2,mv3⟩:=h.sev;have q0:=h.box;have q5:=h.lists;have l0:=h.lt _ (ok 0 (by omega));have l5:=h.lt _ (ok 5 (by omega));have l7:=h.lt _ (ok 7 (by omega));have n05:=h.ne (ok 0 (by omega)) (ok 5 (by omega)) (by simp);have n07:=h.ne (ok 0 (by omega)) (ok 7 (by omega)) (by simp);have n57:=h.ne (ok 5 (by omega)) (ok 7 (by omega)) (by simp);have ks:=mv2.ok;have nl:=Bc kids;have sl:=@strs_length s.lists;have v1:Dh (.int .i64 0) mv (S p) false=.int .i64 (s.sv p:Nat):=by
  rw[Ka,mv3];by_cases e:s.sv p=0;·rw[if_pos e,e];rfl
  rw[if_neg e];rfl
 by_cases hA:s.sv p=s.rows.length
 ·have e1:s.list p kids=s:=if_pos hA;rw[e1];refine ⟨L,H,Ctr.bodyI (M:=M0) Al Tryz.func97 rfl Abi h0.ok ?_,h,CI.refl _ _ _,h0⟩;rw[hA] at v1;simp(disch:=(try simp only[Ad]);omega)only[Ag,Tryz.f97,q0,q5,mv1,ks,v1,nl,sl,AG,↓Ac,Ae,↓reduceIte,↓reduceDIte,↓Qe,Qu,Qv,Qw,Qx,Qy,Qz,QA,QB,QC,QD,QE,QF,QG,QH,QI,QK];first
  | exact RetI.unitR
 by_cases hB:s.sv p=0
 ·have e1:s.list p kids=({s with lists:=s.lists++[p],sv:=CW s.sv p s.rows.length}:Ly).itk p kids kids.length:=by
   unfold Ly.list Ly.itk;rw[if_neg hA,if_pos hB,Adu]
  rw[e1];have l1n:(Bi L 5 (H.length+1)) (.n 0)=L (.n 0):=AX _ _ (by decide);have x0:BB (Bi L 5 (H.length+1)) {s with lists:=s.lists++[p]} ((H.set (L (.n 5)) .dead).set (L (.n 0)) (.box [.d (.bool s.further),.lsl (L (.n 2)) 1 0 s.above.length,.lsl (L (.n 3)) 1 0 s.paths.length,.lsl (L (.n 4)) 1 0 s.rows.length,.lsl (H.length+1) 1 0 (s.lists.length+1),.mp (L (.n 6)),.mp (L (.n 7))])++[.row false [S p],.row false (strs s.lists++[S p])]):=by
   refine h.lst (by omega) (by simp) (by simp) ?_ ?_ fun a ha a0 a5=>?_;·rw[Az (by simpa using l0),Bt (by simpa using l0)]
   ·rw[AR (by simp)];simp[strs]
   have la:=h.lt a ha;rw[Az (by simpa using la),Ao (h.ne (ok 0 (by omega)) ha (Ne.symm a0)),Ao (h.ne (ok 5 (by omega)) ha (Ne.symm a5))]
  have x1:BB (Bi L 5 (H.length+1)) {s with lists:=s.lists++[p],sv:=CW s.sv p s.rows.length} (((H.set (L (.n 5)) .dead).set (L (.n 0)) (.box [.d (.bool s.further),.lsl (L (.n 2)) 1 0 s.above.length,.lsl (L (.n 3)) 1 0 s.paths.length,.lsl (L (.n 4)) 1 0 s.rows.length,.lsl (H.length+1) 1 0 (s.lists.length+1),.mp (L (.n 6)),.mp (L (.n 7))])).set (L (.n 7)) (.map (BR mv (S p) (.int .i64 (s.rows.length:Nat))))++[.row false [S p],.row false (strs s.lists++[S p])]):=by
   refine x0.sev' hr (by simp) ⟨mv,?_,?_⟩ fun a ha a7=>?_;·rw[AX _ _ (by decide),Az (by simpa using l7),Ao n07,Ao n57];exact mv1
   ·rw[AX _ _ (by decide),Az (by simpa using l7),Bt (by simpa using l7)]
   have hn':=x0.ne (a:=.n 7) (b:=a) (by show 7<8+s.rows.length;omega) ha (Ne.symm a7);rw[AX _ _ (by decide)] at hn';rcases AbU (Bi L 5 (H.length+1) a) H.length with q | q
   ·rw[Az (by simpa using q),Az (by simpa using q),Ao hn']
   rw[AR (by simpa using q),AR (by simpa using q)];simp only[AdN]
  have x2:CI L s H (Bi L 5 (H.length+1)) {s with lists:=s.lists++[p],sv:=CW s.sv p s.rows.length} (((H.set (L (.n 5)) .dead).set (L (.n 0)) (.box [.d (.bool s.further),.lsl (L (.n 2)) 1 0 s.above.length,.lsl (L (.n 3)) 1 0 s.paths.length,.lsl (L (.n 4)) 1 0 s.rows.length,.lsl (H.length+1) 1 0 (s.lists.length+1),.mp (L (.n 6)),.mp (L (.n 7))])).set (L (.n 7)) (.map (BR mv (S p) (.int .i64 (s.rows.length:Nat))))++[.row false [S p],.row false (strs s.lists++[S p])]) :=
   ⟨l1n,AX _ _ (by decide),by simp,fun i hi hr=>by rw[Az (by simpa using hi),Ao (hr _ (ok 7 (by omega))),Ao (hr _ (ok 0 (by omega))),Ao (hr _ (ok 5 (by omega)))],
    fun a ha=>JW (by omega) (J4 (s':={s with lists:=s.lists++[p],sv:=CW s.sv p s.rows.length}) rfl rfl ha)⟩
  have x3:NoX (((H.set (L (.n 5)) .dead).set (L (.n 0)) (.box [.d (.bool s.further),.lsl (L (.n 2)) 1 0 s.above.length,.lsl (L (.n 3)) 1 0 s.paths.length,.lsl (L (.n 4)) 1 0 s.rows.length,.lsl (H.length+1) 1 0 (s.lists.length+1),.mp (L (.n 6)),.mp (L (.n 7))])).set (L (.n 7)) (.map (BR mv (S p) (.int .i64 (s.rows.length:Nat))))++[.row false [S p],.row false (strs s.lists++[S p])]):=(((h0.set _ (by simp)).set _ (by simp)).set _ (by simp)).app (by simp[NoX]);generalize hS1:({s with lists:=s.lists++[p],sv:=CW s.sv p s.rows.length}:Ly)=S1 at *;have hS1r:S1.rows=s.rows:=by rw[<-hS1]
  have hS1i:S1.it=s.it:=by rw[<-hS1]
  obtain ⟨f,f0,fI,fT⟩:=JX (WV (Bi L 5 (H.length+1)) S1 (((H.set (L (.n 5)) .dead).set (L (.n 0)) (.box [.d (.bool s.further),.lsl (L (.n 2)) 1 0 s.above.length,.lsl (L (.n 3)) 1 0 s.paths.length,.lsl (L (.n 4)) 1 0 s.rows.length,.lsl (H.length+1) 1 0 (s.lists.length+1),.mp (L (.n 6)),.mp (L (.n 7))])).set (L (.n 7)) (.map (BR mv (S p) (.int .i64 (s.rows.length:Nat))))++[.row false [S p],.row false (strs s.lists++[S p])]) p kids) (Aby S1 p kids) kids.length ((Bi L 5 (H.length+1)),((H.set (L (.n 5)) .dead).set (L (.n 0)) (.box [.d (.bool s.further),.lsl (L (.n 2)) 1 0 s.above.length,.lsl (L (.n 3)) 1 0 s.paths.length,.lsl (L (.n 4)) 1 0 s.rows.length,.lsl (H.length+1) 1 0 (s.lists.length+1),.mp (L (.n 6)),.mp (L (.n 7))])).set (L (.n 7)) (.map (BR mv (S p) (.int .i64 (s.rows.length:Nat))))++[.row false [S p],.row false (strs s.lists++[S p])])
   (by unfold WV;rw[Ly.itk_zero];exact ⟨x1,CI.refl _ _ _,x3⟩) (fun k hk x hx=>Sf hk hx)
  refine ⟨(f kids.length).1,(f kids.length).2,Ctr.bodyI (M:=M0) Al Tryz.func97 rfl Abi (fI _ (AbS _)).2.2.ok ?_,(fI _ (AbS _)).1,x2.trans (fI _ (AbS _)).2.1,(fI _ (AbS _)).2.2⟩;simp(disch:=(try simp only[Ad]);omega)only[Ag,Tryz.f97,hA,hB,q0,q5,mv1,ks,v1,nl,sl,AG,↓Ac,Ae,↓reduceIte,↓reduceDIte,↓Qe,Qu,Qv,Qw,Qx,Qy,Qz,QA,QB,QC,QD,QE,QF,QG,QH,QI,QK];refine ⟨by rfl,?_⟩;refine As.frI 26388279066627 (α:=Nat) (fun k=>kids.length-k) (fun k=>[(45,.d (.int .i64 k))]) (fun k=>(f k).2) (fun k=>k<=kids.length) 0 (Ac6 _) ?_ ?_
  ·rw[f0];first
   | exact .slots (by simp[sA,kZ,CK])
  intro k hkk;simp only[Cr,AbV,AbY,reduceIte];rcases AbU k kids.length with hlt | hge
  ·obtain ⟨mi,t1,t2⟩:=fT k hlt;obtain ⟨i1,i2,i3⟩:=fI k hkk;generalize hHk:(f k).2=Hk at *;generalize hLk:(f k).1=Lk at *;obtain ⟨mi',m1,m2,m3⟩:=i1.items;have emi:mi=mi':=(by rw[t1] at m1;cases m1;rfl)
   subst emi;have r0:=i1.box;have k0:Lk (.n 0)=L (.n 0):=(by rw[i2.n0,l1n])
   rw[k0] at r0;have z0:=i1.lt (.n 0) (by show 0<8+S1.rows.length;omega);rw[k0] at z0;have z6:=i1.lt (.n 6) (by show 6<8+S1.rows.length;omega);have y06:=i1.ne (a:=.n 0) (b:=.n 6) (by show 0<8+S1.rows.length;omega) (by show 6<8+S1.rows.length;omega) (by simp);rw[k0] at y06;have kk:=m2.ok;have g:=Dg hlt;have hit:=Ly.itk_at S1 p kids k;have hil:((S1.itk p kids k).it p).length<=1000000000:=(by rw[hit,hS1i,AbQ,AdO,Ady];omega)
   have hrl:(S1.itk p kids k).rows.length=s.rows.length:=(by show S1.rows.length=_;rw[hS1r]);generalize hkd:kids.getD k noN=kd at *;obtain ⟨ka,kb,kc,kl⟩:=kd;have v2:=DX (.sl 0 true []) mi (S p);rw[m3] at v2;by_cases he:(S1.itk p kids k).it p=[]
   ·rw[if_pos he] at v2;simp(disch:=(try simp only[Ad]);omega)only[Ag,hrl,r0,t1,kk,v2,g,nl,ndC,AG,↓Ac,Ae,↓reduceIte,↓reduceDIte,↓Qe,Qu,Qv,Qw,Qx,Qy,Qz,QA,QB,QC,QD,QE,QF,QG,QH,QI,QK];obtain ⟨cf,hcf⟩:=C7 [L (.n 0),Lk (.n 6),Hk.length,Hk.length+1,Hk.length+2] (by simp;omega);have c0:=hcf 0 _ rfl;have c1:=hcf 1 _ rfl;have c2:=hcf 2 _ rfl;have c3:=hcf 3 _ rfl;have c4:=hcf 4 _ rfl;refine ⟨by simp[cut],AD cf (by simp(disch:=omega)only[Bf,AP,AO,Ba,A9,and_self]) (by simp only[Adt,Adh,c0,c1,c2,c3,c4];rfl),k+1,hlt,by simp only;omega,.inl ⟨?_,by simp[sA,kZ,CK]⟩⟩;show (f (k+1)).2=_
    rw[t2];unfold Gw;rw[if_pos he];simp[he,Bo,DZ,ndC,cut,hS1r]
   rw[if_neg he] at v2;have zi:=i1.lt (.i p) he;have yi:=i1.item p he;have y0i:=i1.ne (a:=.n 0) (b:=.i p) (by show 0<8+S1.rows.length;omega) he (by simp);rw[k0] at y0i;have y6i:=i1.ne (a:=.n 6) (b:=.i p) (by show 6<8+S1.rows.length;omega) he (by simp);have el:=Bu ((S1.itk p kids k).it p);simp(disch:=(try simp only[Ad]);omega)only[Ag,hrl,r0,t1,kk,v2,yi,el,g,nl,ndC,AG,↓Ac,Ae,↓reduceIte,↓reduceDIte,↓Qe,Qu,Qv,Qw,Qx,Qy,Qz,QA,QB,QC,QD,QE,QF,QG,QH,QI,QK];obtain ⟨cf,hcf⟩:=C7 [L (.n 0),Lk (.n 6),Lk (.i p),Hk.length,Hk.length+1,Hk.length+2] (by simp;omega);have c0:=hcf 0 _ rfl;have c1:=hcf 1 _ rfl;have c2:=hcf 2 _ rfl;have c3:=hcf 3 _ rfl;have c4:=hcf 4 _ rfl;have c5:=hcf 5 _ rfl;refine ⟨by simp[cut],AD cf (by simp(disch:=omega)only[Bf,AP,AO,Ba,A9,and_self]) (by simp only[Adt,Adh,c0,c1,c2,c3,c4,c5];rfl),k+1,hlt,by simp only;omega,.inl ⟨?_,by simp[sA,kZ,CK]⟩⟩;show (f (k+1)).2=_
   rw[t2];unfold Gw;rw[if_neg he];simp[Bo,DZ,ndC,cut,hS1r]
  obtain rfl:k=kids.length:=by omega
  simp(disch:=(try simp only[Ad]);omega)only[Ag,nl,↓Ac,Ae,↓reduceIte,↓reduceDIte,↓Qe,Qu,Qv,Qw,Qx,Qy,Qz,QA,QB,QC,QD,QE,QF,QG,QH,QI,QK];first
  | exact RetI.unit
 have e1:s.list p kids=({s with sv:=CW s.sv p s.rows.length}:Ly).itk p kids kids.length:=by unfold Ly.list Ly.itk;rw[if_neg hA,if_neg hB,Adu]
 rw[e1];have l1n:L (.n 0)=L (.n 0):=rfl;have x1:BB L {s with sv:=CW s.sv p s.rows.length} (H.set (L (.n 7)) (.map (BR mv (S p) (.int .i64 (s.rows.length:Nat))))):=h.sev' hr (by simp) ⟨mv,mv1,Bt l7⟩ fun a ha a7=>Ao (h.ne (ok 7 (by omega)) ha (Ne.symm a7));have x2:CI L s H L {s with sv:=CW s.sv p s.rows.length} (H.set (L (.n 7)) (.map (BR mv (S p) (.int .i64 (s.rows.length:Nat))))) :=
  ⟨rfl,rfl,by simp,fun i hi hr=>Ao (hr _ (ok 7 (by omega))),fun a ha=>.inl ⟨a,J4 (s':={s with sv:=CW s.sv p s.rows.length}) rfl rfl ha,rfl⟩⟩
 have x3:NoX (H.set (L (.n 7)) (.map (BR mv (S p) (.int .i64 (s.rows.length:Nat))))):=h0.set _ (by simp);generalize hS1:({s with sv:=CW s.sv p s.rows.length}:Ly)=S1 at *;have hS1r:S1.rows=s.rows:=by rw[<-hS1]
 have hS1i:S1.it=s.it:=by rw[<-hS1]
 obtain ⟨f,f0,fI,fT⟩:=JX (WV L S1 (H.set (L (.n 7)) (.map (BR mv (S p) (.int .i64 (s.rows.length:Nat))))) p kids) (Aby S1 p kids) kids.length (L,H.set (L (.n 7)) (.map (BR mv (S p) (.int .i64 (s.rows.length:Nat)))))
  (by unfold WV;rw[Ly.itk_zero];exact ⟨x1,CI.refl _ _ _,x3⟩) (fun k hk x hx=>Sf hk hx)
 refine ⟨(f kids.length).1,(f kids.length).2,Ctr.bodyI (M:=M0) Al Tryz.func97 rfl Abi (fI _ (AbS _)).2.2.ok ?_,(fI _ (AbS _)).1,x2.trans (fI _ (AbS _)).2.1,(fI _ (AbS _)).2.2⟩;simp(disch:=(try simp only[Ad]);omega)only[Ag,Tryz.f97,hA,hB,q0,q5,mv1,ks,v1,nl,sl,AG,↓Ac,Ae,↓reduceIte,↓reduceDIte,↓Qe,Qu,Qv,Qw,Qx,Qy,Qz,QA,QB,QC,QD,QE,QF,QG,QH,QI,QK];refine ⟨by rfl,?_⟩;refine As.frI 26388279066627 (α:=Nat) (fun k=>kids.length-k) (fun k=>[(45,.d (.int .i64 k))]) (fun k=>(f k).2) (fun k=>k<=kids.length) 0 (Ac6 _) ?_ ?_
 ·rw[f0];first
  | exact .slots (by simp[sA,kZ,CK])
 intro k hkk;simp only[Cr,AbV,AbY,reduceIte];rcases AbU k kids.length with hlt | hge
 ·obtain ⟨mi,t1,t2⟩:=fT k hlt;obtain ⟨i1,i2,i3⟩:=fI k hkk;generalize hHk:(f k).2=Hk at *;generalize hLk:(f k).1=Lk at *;obtain ⟨mi',m1,m2,m3⟩:=i1.items;have emi:mi=mi':=by rw[t1] at m1;cases m1;rfl
  subst emi;have r0:=i1.box;have k0:Lk (.n 0)=L (.n 0):=by rw[i2.n0,l1n]
  rw[k0] at r0;have z0:=i1.lt (.n 0) (by show 0<8+S1.rows.length;omega);rw[k0] at z0;have z6:=i1.lt (.n 6) (by show 6<8+S1.rows.length;omega);have y06:=i1.ne (a:=.n 0) (b:=.n 6) (by show 0<8+S1.rows.length;omega) (by show 6<8+S1.rows.length;omega) (by simp);rw[k0] at y06;have kk:=m2.ok;have g:=Dg hlt;have hit:=Ly.itk_at S1 p kids k;have hil:((S1.itk p kids k).it p).length<=1000000000:=by rw[hit,hS1i,AbQ,AdO,Ady];omega
  have hrl:(S1.itk p kids k).rows.length=s.rows.length:=by show S1.rows.length=_;rw[hS1r]
  generalize hkd:kids.getD k noN=kd at *;obtain ⟨ka,kb,kc,kl⟩:=kd;have v2:=DX (.sl 0 true []) mi (S p);rw[m3] at v2;by_cases he:(S1.itk p kids k).it p=[]
  ·rw[if_pos he] at v2;simp(disch:=(try simp only[Ad]);omega)only[Ag,hrl,r0,t1,kk,v2,g,nl,ndC,AG,↓Ac,Ae,↓reduceIte,↓reduceDIte,↓Qe,Qu,Qv,Qw,Qx,Qy,Qz,QA,QB,QC,QD,QE,QF,QG,QH,QI,QK];obtain ⟨cf,hcf⟩:=C7 [L (.n 0),Lk (.n 6),Hk.length,Hk.length+1,Hk.length+2] (by simp;omega);have c0:=hcf 0 _ rfl;have c1:=hcf 1 _ rfl;have c2:=hcf 2 _ rfl;have c3:=hcf 3 _ rfl;have c4:=hcf 4 _ rfl;refine ⟨by simp[cut],AD cf (by simp(disch:=omega)only[Bf,AP,AO,Ba,A9,and_self]) (by simp only[Adt,Adh,c0,c1,c2,c3,c4];rfl),k+1,hlt,by simp only;omega,.inl ⟨?_,by simp[sA,kZ,CK]⟩⟩;show (f (k+1)).2=_
   rw[t2];unfold Gw;rw[if_pos he];simp[he,Bo,DZ,ndC,cut,hS1r]
  rw[if_neg he] at v2;have zi:=i1.lt (.i p) he;have yi:=i1.item p he;have y0i:=i1.ne (a:=.n 0) (b:=.i p) (by show 0<8+S1.rows.length;omega) he (by simp);rw[k0] at y0i;have y6i:=i1.ne (a:=.n 6) (b:=.i p) (by show 6<8+S1.rows.length;omega) he (by simp);have el:=Bu ((S1.itk p kids k).it p);simp(disch:=(try simp only[Ad]);omega)only[Ag,hrl,r0,t1,kk,v2,yi,el,g,nl,ndC,AG,↓Ac,Ae,↓reduceIte,↓reduceDIte,↓Qe,Qu,Qv,Qw,Qx,Qy,Qz,QA,QB,QC,QD,QE,QF,QG,QH,QI,QK];obtain ⟨cf,hcf⟩:=C7 [L (.n 0),Lk (.n 6),Lk (.i p),Hk.length,Hk.length+1,Hk.length+2] (by simp;omega);have c0:=hcf 0 _ rfl;have c1:=hcf 1 _ rfl;have c2:=hcf 2 _ rfl;have c3:=hcf 3 _ rfl;have c4:=hcf 4 _ rfl;have c5:=hcf 5 _ rfl;refine ⟨by simp[cut],AD cf (by simp(disch:=omega)only[Bf,AP,AO,Ba,A9,and_self]) (by simp only[Adt,Adh,c0,c1,c2,c3,c4,c5];rfl),k+1,hlt,by simp only;omega,.inl ⟨?_,by simp[sA,kZ,CK]⟩⟩;show (f (k+1)).2=_
  rw[t2];unfold Gw;rw[if_neg he];simp[Bo,DZ,ndC,cut,hS1r]
 obtain rfl:k=kids.length:=by omega
 simp(disch:=(try simp only[Ad]);omega)only[Ag,nl,↓Ac,Ae,↓reduceIte,↓reduceDIte,↓Qe,Qu,Qv,Qw,Qx,Qy,Qz,QA,QB,QC,QD,QE,QF,QG,QH,QI,QK];first
 | exact RetI.unit
mutual
def nsz:Nd->Nat
 | .mk _ _ _ l=>1+Ce l
def Ce:List Nd->Nat
 | []=>0
 | n::r=>nsz n+Ce r
end
def DF (n:Nd):nsz n=1+Ce n.kids:=by cases n;rfl
def CY (n:Nd):0<nsz n:=by rw[DF];omega
def DG:∀ {l:List Nd} {n:Nd},n∈l->nsz n<=Ce l
 | [],n,h=>by cases h
 | x::r,n,h=>by
   rcases AbT.1 h with rfl | h
   ·rw[Ce];omega
   have:=DG h;rw[Ce];omega
def ER:∀ l:List Nd,l.length<=Ce l
 | []=>AbS _
 | x::r=>by have:=ER r;have:=CY x;rw[Ce,AbR];omega
mutual
def GT:Nd->Prop
 | .mk k _ ks l=>(k=6->ks.length=l.length)/\(∀ s∈ks,s.length<=100000)/\Mg l
def Mg:List Nd->Prop
 | []=>True
 | n::r=>GT n/\Mg r
end
def XG (n:Nd):GT n=((n.kind=6->n.keys.length=n.kids.length)/\(∀ s∈n.keys,s.length<=100000)/\Mg n.kids):=by cases n;rfl
def Mf:∀ {l:List Nd},Mg l->∀ n∈l,GT n
 | [],_,n,h=>by cases h
 | x::r,h,n,hn=>by
   rcases AbT.1 hn with rfl | hn
   ·exact h.1
   exact Mf h.2 n hn
def partO (n:Nd) (path:List UInt8):List Pt:=if n.kind=6 then Dp n (path++[46]) else if n.kind=5 then [.l path n.kids] else [.c path (B2 n)]
def N9:∀ (l:List Nd) (front:List UInt8) (ks:List (List UInt8)),ks.length=l.length->Gb l front ks=(AdC l.length).flatMap fun i=>partO (l.getD i noN) (front++ks.getD i [])
 | [],front,ks,h=>rfl
 | n::r,front,ks,h=>by
   cases ks with
   | nil=>simp at h
   | cons k kr =>have ih:=N9 r front kr (by simpa using h);rw[E7,AbR,List.range_succ_eq_map,List.flatMap_cons,List.flatMap_map,List.tail_cons,ih];rfl
def Ly.kid (s:Ly) (l:List Nd) (front:List UInt8) (ks:List (List UInt8)) (k:Nat):Ly:=s.parts ((AdC k).flatMap fun i=>partO (l.getD i noN) (front++ks.getD i []))
def Ly.kid_zero (s:Ly) (l:List Nd) (front:List UInt8) (ks:List (List UInt8)):s.kid l front ks 0=s:=rfl
def Ly.kid_succ (s:Ly) (l:List Nd) (front:List UInt8) (ks:List (List UInt8)) (k:Nat):s.kid l front ks (k+1)=(s.kid l front ks k).parts (partO (l.getD k noN) (front++ks.getD k [])):=by unfold Ly.kid;rw[Ad7,List.flatMap_append,Ly.parts_app];simp
def Ly.kid_all (s:Ly) (l:List Nd) (front:List UInt8) (ks:List (List UInt8)) (h:ks.length=l.length):s.kid l front ks l.length=s.parts (Gb l front ks):=by rw[N9 l front ks h];rfl
structure LyB (s:Ly) (B:Nat):Prop where
 paths:s.paths.length<=B
 lists:s.lists.length<=B
 rows:s.rows.length<=1000000000
 it:∀ p,(s.it p).length<=B
def LyB.single {s:Ly} {B:Nat} (h:LyB s B) (p:List UInt8) (x:Cel):LyB (s.single p x) (B+1):=by
 refine ⟨?_,AdZ h.lists,by rw[s.single_rows];exact h.rows,fun q=>AdZ (h.it q)⟩;have:=h.paths;show (if p∈s.paths then s.paths else s.paths++[p]).length<=B+1
 split;·omega
 simp;omega
def LyB.list {s:Ly} {B:Nat} (h:LyB s B) (p:List UInt8) (kids:List Nd):LyB (s.list p kids) (B+1+kids.length):=by
 have h1:=h.lists;have h2:=h.paths;unfold Ly.list;split;·exact ⟨by omega,by omega,h.rows,fun q=>by have:=h.it q;omega⟩
 refine ⟨by show s.paths.length<=_;omega,?_,h.rows,fun q=>?_⟩
 ·show (if s.sv p=0 then s.lists++[p] else s.lists).length<=_
  split;·simp;omega
  omega
 show (CW s.it p (s.it p++kids.map fun k=>((s.rows.length:Int)-1,k)) q).length<=_
 by_cases e:q=p;·subst e;rw[Dm,AbQ,AdO];have:=h.it q;omega
 rw[CV _ _ e];have:=h.it q;omega
def LyB.mono {s:Ly} {B C:Nat} (h:LyB s B) (hc:B<=C):LyB s C:=⟨Ad0 h.paths hc,Ad0 h.lists hc,h.rows,fun p=>Ad0 (h.it p) hc⟩
mutual
def LyB.parts:∀ (n:Nd) (front:List UInt8) {s:Ly} {B:Nat},LyB s B->LyB (s.parts (Dp n front)) (B+nsz n)
 | .mk k t ks l,front,s,B,h=>by have:=LyB.partsL l front ks h;exact this.mono (by rw[nsz];omega)
def LyB.partsL:∀ (l:List Nd) (front:List UInt8) (ks:List (List UInt8)) {s:Ly} {B:Nat},LyB s B->LyB (s.parts (Gb l front ks)) (B+Ce l)
 | [],front,ks,s,B,h=>h
 | n::r,front,ks,s,B,h=>by
   rw[E7,Ly.parts_app];have h1:LyB (s.parts (if n.kind=6 then Dp n (front++ks.headD []++[46]) else if n.kind=5 then [.l (front++ks.headD []) n.kids] else [.c (front++ks.headD []) (B2 n)])) (B+nsz n):=by
    split;·exact LyB.parts n _ h
    split;·rw[Ly.parts_one];have:=ER n.kids;have e:=DF n;exact (h.list _ n.kids).mono (by omega)
    rw[Ly.parts_one];have:=CY n;exact (h.single _ _).mono (by omega)
   have h2:=LyB.partsL r front ks.tail h1;exact h2.mono (by rw[Ce];omega)
end
def LyB.partO {s:Ly} {B:Nat} (h:LyB s B) (n:Nd) (path:List UInt8):LyB (s.parts (partO n path)) (B+nsz n):=by
 unfold Go.Proofs.YtmidaophnbdcdaaGreatDoor.partO;split;·exact LyB.parts n _ h
 split;·rw[Ly.parts_one];have:=ER n.kids;have e:=DF n;exact (h.list _ n.kids).mono (by omega)
 rw[Ly.parts_one];have:=CY n;exact (h.single _ _).mono (by omega)
def TQ (l:List Nd) (k:Nat):Nat:=Ce (l.take k)
def Og {l:List Nd} {k:Nat} (h:k<l.length):TQ l (k+1)=TQ l k+nsz (l.getD k noN):=by
 have app:∀ (a b:List Nd),Ce (a++b)=Ce a+Ce b:=by
  intro a b;induction a with
  | nil=>simp[Ce]
  | cons x r ih=>simp only[AdH,Ce,ih];omega
 unfold TQ;rw[Ac7,AbH h,app,AbM,AbH h];simp[Ce]
def ZQ (l:List Nd):∀ k,TQ l k<=Ce l:=by
 intro k;have app:∀ (a b:List Nd),Ce (a++b)=Ce a+Ce b:=by
  intro a b;induction a with
  | nil=>simp[Ce]
  | cons x r ih=>simp only[AdH,Ce,ih];omega
 have:=app (l.take k) (l.drop k);rw[AdQ] at this;unfold TQ;omega
def LyB.kid {s:Ly} {B:Nat} (h:LyB s B) (l:List Nd) (front:List UInt8) (ks:List (List UInt8)):∀ k,k<=l.length->LyB (s.kid l front ks k) (B+TQ l k)
 | 0,_=>by rw[Ly.kid_zero];exact h.mono (by omega)
 | k+1,hk=>by rw[Ly.kid_succ,Og (by omega),<-AdA];exact (LyB.kid h l front ks k (by omega)).partO _ _
def Ly.kid_rows (s:Ly) (l:List Nd) (front:List UInt8) (ks:List (List UInt8)) (k:Nat):(s.kid l front ks k).rows.length=s.rows.length:=s.parts_rows _
end
section
open Go Go.Proofs Go.Abs
variable {G:Ah}
def Fx:List UInt8:=[116,114,117,101]
def FP:List UInt8:=[102,97,108,115,101]
def Db (k:Int) (t:List UInt8):Bool:=if k=2 then decide (t=Fx\/t=FP) else if k=3 then Num.decOk t else if k=4 then A2 t else decide (t=[])
def Pv (hT:HT G) (hG:Num.HG G) (n:Nd) (hs:n.text.length<=1000000000):Ctr TP G 73 [.d (NdD n)] [] (.d (.bool (Db n.kind n.text))) []:=by
 obtain ⟨k,t,ks,l⟩:=n;obtain ⟨r,hr⟩:∃ r,r=Db k t:=⟨_,rfl⟩;show Ctr _ _ _ _ _ (.d (.bool (Db k t))) _
 replace hs:t.length<=1000000000:=hs;rw[<-hr];unfold Db at hr;refine Ctr.pure (M:=M0) Al Tryz.func73 rfl go73 ?_;by_cases k2:k=2
 ·subst k2;rw[if_pos rfl] at hr;simp(disch:=(try simp only[Ad]);omega)only[Ag,ndC,Tryz.f73,↓Ac,Ae,↓reduceIte,↓reduceDIte,↓Qe,Qu,Qv,Qw,Qx,Qy,Qz,QA,QB,QC,QD,QE,QF,QG,QH,QI,QK];rw[hr];unfold Fx FP;refine ⟨fun h1=>?_,fun h1=>?_⟩;·exact decide_eq_decide.2 ⟨fun h2=>.inr h2,fun h2=>h2.resolve_left h1⟩
  exact (decide_eq_true (Or.inl h1)).symm
 rw[if_neg k2] at hr;by_cases k3:k=3
 ·subst k3;rw[if_pos rfl] at hr;subst hr;simp(disch:=(try simp only[Ad]);omega)only[Ag,ndC,Tryz.f73,↓Ac,Ae,↓reduceIte,↓reduceDIte,↓Qe,Qu,Qv,Qw,Qx,Qy,Qz,QA,QB,QC,QD,QE,QF,QG,QH,QI,QK];refine Ab.pure (Num.decimalF_spec hG t (by omega)) ?_;cases Num.decOk t;·simp(disch:=(try simp only[Ad]);omega)only[Ag,Num.Zf,↓Ac,Ae,↓reduceIte,↓reduceDIte,↓Qe,Qu,Qv,Qw,Qx,Qy,Qz,QA,QB,QC,QD,QE,QF,QG,QH,QI,QK]
  simp(disch:=(try simp only[Ad]);omega)only[Ag,Num.Frac,↓Ac,Ae,↓reduceIte,↓reduceDIte,↓Qe,Qu,Qv,Qw,Qx,Qy,Qz,QA,QB,QC,QD,QE,QF,QG,QH,QI,QK]
 rw[if_neg k3] at hr;by_cases k4:k=4;·subst k4;rw[if_pos rfl] at hr;subst hr;simp(disch:=(try simp only[Ad]);omega)only[Ag,ndC,Tryz.f73,↓Ac,Ae,↓reduceIte,↓reduceDIte,↓Qe,Qu,Qv,Qw,Qx,Qy,Qz,QA,QB,QC,QD,QE,QF,QG,QH,QI,QK];refine Ab.pure (Mz hT t hs) ?_;simp(disch:=(try simp only[Ad]);omega)only[Ag,↓Ac,Ae,↓reduceIte,↓reduceDIte,↓Qe,Qu,Qv,Qw,Qx,Qy,Qz,QA,QB,QC,QD,QE,QF,QG,QH,QI,QK]
 rw[if_neg k4] at hr;simp(disch:=(try simp only[Ad]);omega)only[Ag,ndC,k2,k3,k4,Tryz.f73,↓Ac,Ae,↓reduceIte,↓reduceDIte,↓Qe,Qu,Qv,Qw,Qx,Qy,Qz,QA,QB,QC,QD,QE,QF,QG,QH,QI,QK];exact hr.symm
end
namespace Dst
def c1 (a b:Int):Nat:=if a=b then 0 else 1
abbrev bl (x y:List UInt8):Bool:=Op.bytesLess x y
def bl_irrefl:∀ x:List UInt8,bl x x=false
 | []=>rfl
 | a::x=>by
   show (decide (a<a) || (a == a && bl x x))=false
   rw[bl_irrefl x];simp
def AbG {a b:UInt8}:a<b↔a.toNat<b.toNat:=UInt8.lt_iff_toNat_lt
def Rg {a b:UInt8} {x y:List UInt8}:bl (a::x) (b::y)=true↔a.toNat<b.toNat\/(a=b/\bl x y=true):=by
 show (decide (a<b) || (a == b && bl x y))=true↔_
 simp[AbG]
def JF:∀ {x y z:List UInt8},bl x y=true->bl y z=true->bl x z=true
 | [],_::_,[],_,h=>by cases h
 | _::_,_::_,[],_,h=>by cases h
 | [],[],_,h,_=>by cases h
 | _::_,[],_,h,_=>by cases h
 | [],_::_,_::_,_,_=>rfl
 | a::x,b::y,c::z,h1,h2=>by
   rw[Rg] at *;rcases h1 with h1 | ⟨rfl,h1⟩
   ·rcases h2 with h2 | ⟨rfl,h2⟩
    ·left;omega
    exact .inl h1
   rcases h2 with h2 | ⟨rfl,h2⟩
   ·exact .inl h2
   exact .inr ⟨rfl,JF h1 h2⟩
def JG:∀ {x y:List UInt8},bl x y=false->bl y x=false->x=y
 | [],[],_,_=>rfl
 | [],_::_,h,_=>by cases h
 | _::_,[],_,h=>by cases h
 | a::x,b::y,h1,h2=>by have g1:¬(bl (a::x) (b::y)=true):=(by rw[h1];decide);have g2:¬(bl (b::y) (a::x)=true):=(by rw[h2];decide);rw[Rg] at g1 g2;have e:a=b:=UInt8.toNat_inj.1 (by omega);subst e;have:x=y:=JG (by cases e:bl x y<;>simp_all) (by cases e:bl y x<;>simp_all);rw[this]
def Asc (l:List (List UInt8)):Prop:=l.Pairwise fun x y=>bl x y=true
def Vs:∀ {l m:List (List UInt8)},Asc l->Asc m->(∀ s,s∈l↔s∈m)->l=m
 | [],[],_,_,_=>rfl
 | [],y::m,_,_,h=>by have:=(h y).2 (by simp);cases this
 | x::l,[],_,_,h=>by have:=(h x).1 (by simp);cases this
 | x::l,y::m,h1,h2,h=>by
   obtain ⟨p1,p2⟩:=AbZ.1 h1;obtain ⟨q1,q2⟩:=AbZ.1 h2;have e:x=y:=by
    rcases AbT.1 ((h x).1 (by simp)) with e | e
    ·exact e
    rcases AbT.1 ((h y).2 (by simp)) with e' | e'
    ·exact e'.symm
    have:=JF (p1 y e') (q1 x e);rw[bl_irrefl] at this;cases this
   subst e;rw[Vs p2 q2 fun s=>?_];constructor
   ·intro hs;rcases AbT.1 ((h s).1 (by simp[hs])) with e | e
    ·subst e;have:=p1 s hs;rw[bl_irrefl] at this;cases this
    exact e
   intro hs;rcases AbT.1 ((h s).2 (by simp[hs])) with e | e
   ·subst e;have:=q1 s hs;rw[bl_irrefl] at this;cases this
   exact e
def Il (s:List UInt8):List (List UInt8)->Nat
 | []=>0
 | x::l=>if bl x s=true then Il s l+1 else 0
def MT (l:List (List UInt8)) (s:List UInt8):List (List UInt8) :=
 if Il s l<l.length/\l.getD (Il s l) []=s then l else l.take (Il s l)++s::l.drop (Il s l)
def Ou (x:List UInt8) (l:List (List UInt8)) (s:List UInt8):MT (x::l) s=if bl x s=true then x::MT l s else if x=s then x::l else s::x::l:=by
 unfold MT;rw[Il];by_cases h:bl x s=true
 ·rw[if_pos h,if_pos h];by_cases h2:Il s l<l.length/\l.getD (Il s l) []=s;·rw[if_pos h2,if_pos (by simpa using h2)]
  rw[if_neg h2,if_neg (by simpa using h2)];simp
 rw[if_neg h,if_neg h];simp
def MD (s t:List UInt8):∀ l:List (List UInt8),t∈MT l s↔t=s\/t∈l
 | []=>by simp[MT,Il]
 | x::l=>by
   have ih:=MD s t l;rw[Ou];split;·simp only[AbT,ih];exact or_left_comm
   split;·rename_i e;subst e;simp
   simp
def ST (s:List UInt8):∀ {l:List (List UInt8)},Asc l->Asc (MT l s)
 | [],_=>by simp[MT,Il,Asc]
 | x::l,h=>by
   obtain ⟨p1,p2⟩:=AbZ.1 h;have ih:=ST s (l:=l) p2;rw[Ou];split
   ·rename_i hx;refine AbZ.2 ⟨fun t ht=>?_,ih⟩;rcases (MD s t l).1 ht with rfl | ht
    ·exact hx
    exact p1 t ht
   rename_i hx;split;·exact h
   rename_i hne;have hs:bl s x=true:=by
    cases e:bl s x with
    | true=>rfl
    | false=>exact absurd (JG (by simpa using hx) e) hne
   refine AbZ.2 ⟨fun t ht=>?_,h⟩;rcases AbT.1 ht with rfl | ht
   ·exact hs
   exact JF hs (p1 t ht)
def setL (l:List (List UInt8)):List (List UInt8):=l.foldl MT []
def IB:∀ (l m:List (List UInt8)),Asc m->Asc (l.foldl MT m)/\∀ t,t∈l.foldl MT m↔t∈l\/t∈m
 | [],m,h=>⟨h,fun t=>by simp⟩
 | s::l,m,h=>by
   obtain ⟨h1,h2⟩:=IB l (MT m s) (ST s h);refine ⟨h1,fun t=>?_⟩;rw[List.foldl_cons,h2 t,MD,AbT];constructor
   ·rintro (h | h | h);·exact .inl (.inr h)
    ·exact .inl (.inl h)
    exact .inr h
   rintro ((h | h) | h);·exact .inr (.inl h)
   ·exact .inl h
   exact .inr (.inr h)
def asc_setL (l:List (List UInt8)):Asc (setL l):=(IB l [] List.Pairwise.nil).1
def mem_setL {l:List (List UInt8)} {t:List UInt8}:t∈setL l↔t∈l:=by rw[setL,(IB l [] List.Pairwise.nil).2];simp
def dedup:List (List UInt8)->List (List UInt8)
 | x::y::l=>if x=y then dedup (y::l) else x::dedup (y::l)
 | l=>l
def J9 {t:List UInt8}:∀ {l:List (List UInt8)},t∈dedup l↔t∈l
 | []=>by simp[dedup]
 | [x]=>by simp[dedup]
 | x::y::l=>by
   have ih:=J9 (t:=t) (l:=y::l);rw[dedup];split;·rename_i e;subst e;rw[ih];simp
   rw[AbT,ih,<-AbT]
def OH:∀ {l:List (List UInt8)},l.Pairwise (fun x y=>bl y x=false)->Asc (dedup l)
 | [],_=>by simp[dedup,Asc]
 | [x],_=>by simp[dedup,Asc]
 | x::y::l,h=>by
   obtain ⟨p1,p2⟩:=AbZ.1 h;have ih:=OH (l:=y::l) p2;rw[dedup];split;·exact ih
   rename_i hne;have hxy:bl x y=true:=by
    cases e:bl x y with
    | true=>rfl
    | false=>exact absurd (JG e (p1 y (by simp))) hne
   refine AbZ.2 ⟨fun t ht=>?_,ih⟩;rcases AbT.1 (J9.1 ht) with rfl | ht
   ·exact hxy
   have h2:=(AbZ.1 p2).1 t ht;cases e:bl y t with
   | true=>exact JF hxy e
   | false=>rw[JG e h2] at hxy;exact hxy
def TA {l m:List (List UInt8)} (h:m.Pairwise (fun x y=>bl y x=false)) (hp:∀ t,t∈m↔t∈l):dedup m=setL l :=
 Vs (OH h) (asc_setL l) fun t=>by rw[J9,mem_setL,hp]
end Dst
namespace Dst
open Go.Abs
def wordsL:List (List UInt8):=[[97,110,110],[98,111,98],[99,121],[66,101,114,110],[85,108,109],[78,101,119,32,89,111,114,107],[121,111,114,107,32,110,101,119],[97,45,49],[98,45,50,50],[120],[122,195,188,114,105,99,104],[65,110,110],[98,111],[99,97,116],[98,97,116],[114,97,116]]
end Dst
namespace Dst
open Go Go.Proofs Go.Abs
variable {G:Ah}
abbrev M0:B0:=fun _=>false
abbrev S (l:List UInt8):D:=.str (bs l)
def cells_nums {l:List UInt8}:(l.map fun b=>D.int .u8 (b.toNat:Int))=Au .u8 (AM l):=by simp[Au,AM]
def strs (l:List (List UInt8)):List D:=l.map fun s=>S s
def strs_length {l:List (List UInt8)}:(strs l).length=l.length:=by simp[strs]
def strs_unf {l:List (List UInt8)}:(strs l).map unf0=strs l:=by simp[strs,unf0]
def strs_getD {l:List (List UInt8)} {i:Nat} (h:i<l.length):(strs l).getD i .nilp=S (l.getD i []):=by simp[strs,AbM,h]
abbrev Ss (l:List (List UInt8)) (full:Bool):D:=.sl l.length full (strs l)
def mem_take_succ {l:List (List UInt8)} {i:Nat} {s:List UInt8} (h:i<l.length):s∈l.take (i+1)↔s∈l.take i\/l.getD i []=s:=by rw[Ac7,AbH h,AbM,AbH h];simp only[Option.toList_some,Ad4,List.mem_singleton,Option.getD_some];exact or_congr_right eq_comm
def has_spec (l:List (List UInt8)) (full:Bool) (s:List UInt8) (hl:l.length<=1000000):Ctr TP G 37 [.d (Ss l full),.d (S s)] [] (.d (.bool (decide (s∈l)))) []:=by
 refine Ctr.pure (M:=M0) Al Tryz.func37 rfl go37 ?_;simp(disch:=(try simp only[Ad]);omega)only[Ag,Tryz.f37,↓Ac,Ae,↓reduceIte,↓reduceDIte,↓Qe,Qu,Qv,Qw,Qx,Qy,Qz,QA,QB,QC,QD,QE,QF,QG,QH,QI,QK];refine As.fr 386 (α:=Nat) (fun i=>l.length-i) (fun i=>[(9,.d (.int .i64 i))]) (fun _=>[]) (fun i=>i<=l.length/\s∉l.take i) 0 ⟨Ac6 _,by simp⟩ ?_ ?_;·exact ⟨[],rfl,by simp,by simp[sA,kZ,SW,AW],by simp[HW,BW,SW,AW]⟩
 rintro i ⟨h1,h2⟩;have sl:=@strs_length l;simp only[Cr,AbV,AbY,reduceIte];rcases AbU i l.length with h | h
 ·have g1:=strs_getD h;have hm:=@mem_take_succ l i s h;by_cases he:l.getD i []=s
  ·have hin:s∈l:=List.mem_of_mem_take (hm.2 (.inr he));rw[decide_eq_true hin];rw[he] at g1;simp(disch:=(try simp only[Ad]);omega)only[Ag,sl,g1,beq_self_eq_true,↓Ac,Ae,↓reduceIte,↓reduceDIte,↓Qe,Qu,Qv,Qw,Qx,Qy,Qz,QA,QB,QC,QD,QE,QF,QG,QH,QI,QK];try rfl
  have hne:(l.getD i [] == s)=false:=by simpa using he
  simp(disch:=(try simp only[Ad]);omega)only[Ag,sl,g1,hne,↓Ac,Ae,↓reduceIte,↓reduceDIte,↓Qe,Qu,Qv,Qw,Qx,Qy,Qz,QA,QB,QC,QD,QE,QF,QG,QH,QI,QK];exact ⟨i+1,⟨h,fun q=>(hm.1 q).elim h2 he⟩,by simp only;omega,⟨[],rfl,by simp,by simp[sA,kZ,SW,AW],by simp[HW,BW,SW,AW]⟩⟩
 obtain rfl:i=l.length:=by omega
 rw[Adu] at h2;rw[decide_eq_false h2];simp(disch:=(try simp only[Ad]);omega)only[Ag,sl,↓Ac,Ae,↓reduceIte,↓reduceDIte,↓Qe,Qu,Qv,Qw,Qx,Qy,Qz,QA,QB,QC,QD,QE,QF,QG,QH,QI,QK];try rfl
def Xn {l:List (List UInt8)} {i:Nat} {s:List UInt8}:(strs l).set i (S s)=strs (l.set i s):=by simp[strs,List.map_set]
def Tj {n:Nat}:AF [.str .empty] n=strs (Ad8 n []):=by rw[LN,strs,List.map_replicate];rfl
def strs_app {l m:List (List UInt8)} {k:Nat}:(strs l).take k++strs m=strs (l.take k++m):=by simp[strs,List.map_take]
abbrev DiceM (t:List Int) (k:Nat):Aa:=.box [.d (.sl t.length false (Au .u8 t)),.d (.int .i64 (min k t.length:Nat))]
def OkM (t:List Int):Prop:=t.length<=300/\∀ i,0<=t.getD i 0/\t.getD i 0<=255
def new_spec (t:List Int) (ht:t.length<=9223372036854775807):Ctr TP G 8 [.d (.sl t.length false (Au .u8 t))] [] (.ptr 0 0) [DiceM (t.take 300) 0]:=by
 refine Ctr.body (M:=M0) Al Tryz.func8 rfl go8 ?_;rcases AbU 300 t.length with h | h
 ·have e:(t.take 300).length=300:=by rw[Ady];omega
  simp(disch:=(try simp only[Ad]);omega)only[Tryz.f8,e,↓Ac,Ae,↓reduceIte,↓reduceDIte,↓Qe,Qu,Qv,Qw,Qx,Qy,Qz,QA,QB,QC,QD,QE,QF,QG,QH,QI,QK];exact ⟨[some 0],rfl,by simp,by simp[HW,BW,SW,AW];omega,.inl (by simp[AW])⟩
 have e:t.take 300=t:=AdJ h;simp(disch:=(try simp only[Ad]);omega)only[Tryz.f8,e,↓Ac,Ae,↓reduceIte,↓reduceDIte,↓Qe,Qu,Qv,Qw,Qx,Qy,Qz,QA,QB,QC,QD,QE,QF,QG,QH,QI,QK];exact ⟨[some 0],rfl,by simp,by simp[HW,BW,SW,AW],.inl (by simp[AW,SW])⟩
def pk (t:List Int) (k:Nat) (n:Int):Int:=t.getD k 0 % n
def pk_range {t:List Int} {k:Nat} {n:Int} (h:0<n):0<=pk t k n/\pk t k n<n:=⟨Int.emod_nonneg _ (by omega),Int.emod_lt_of_pos _ h⟩
def pk_nat (t:List Int) (k:Nat) (n:Int) (h:0<n):∃ c:Nat,pk t k n=c/\(c:Int)<n:=⟨(pk t k n).toNat,by have:=@pk_range t k n h;omega,by have:=@pk_range t k n h;omega⟩
def pick_spec (t:List Int) (k:Nat) (n:Int) (ht:OkM t) (h0:0<n) (h1:n<=1000) :
  Ctr TP G 25 [.ptr 0 0,.d (.int .i64 n)] [DiceM t k] (.d (.int .i64 (pk t k n))) [DiceM t (k+1)]:=by
 obtain ⟨ht,htt⟩:=ht;refine Ctr.body (M:=M0) Al Tryz.func25 rfl go25 ?_;rcases AbU k t.length with h | h
 ·have e1:min k t.length=k:=by omega
  have e2:min (k+1) t.length=k+1:=by omega
  obtain ⟨b1,b2⟩:=htt k;have e3:(t.getD k 0).tmod n=pk t k n:=Int.tmod_eq_emod_of_nonneg b1;simp only[e1,e2,DiceM];simp(disch:=(try simp only[Ad]);omega)only[Tryz.f25,e3,↓Ac,Ae,↓reduceIte,↓reduceDIte,↓Qe,Qu,Qv,Qw,Qx,Qy,Qz,QA,QB,QC,QD,QE,QF,QG,QH,QI,QK];refine ⟨by rfl,by rfl,?_⟩;exact ⟨[some 0],rfl,by simp,by simp[HW,BW,SW,AW],.inl (by simp[AW,SW])⟩
 have e1:min k t.length=t.length:=by omega
 have e2:min (k+1) t.length=t.length:=by omega
 have e3:pk t k n=0:=by rw[pk,AbM,List.getElem?_eq_none h];simp
 simp only[e1,e2,e3,DiceM];simp(disch:=(try simp only[Ad]);omega)only[Tryz.f25,↓Ac,Ae,↓reduceIte,↓reduceDIte,↓Qe,Qu,Qv,Qw,Qx,Qy,Qz,QA,QB,QC,QD,QE,QF,QG,QH,QI,QK];refine ⟨by rfl,?_⟩;exact ⟨[some 0],rfl,by simp,by simp[HW,BW,SW,AW],.inl (by simp[AW,SW])⟩
def words_spec:Ctr TP G 52 [] [] (.d (Ss wordsL false)) []:=by refine Ctr.pure (M:=M0) Al Tryz.func52 rfl go52 ?_;simp(disch:=(try simp only[Ad]);omega)only[Ag,Tryz.f52,↓Ac,Ae,↓reduceIte,↓reduceDIte,↓Qe,Qu,Qv,Qw,Qx,Qy,Qz,QA,QB,QC,QD,QE,QF,QG,QH,QI,QK];try rfl
end Dst
namespace Dst
open Go Go.Proofs Go.Abs Go.RowKit Go.Sort Go.Shelf
def Aa9 {h:Held} {v:Value} {x:List UInt8} (r:RD h v (S x)):v=encStr x:=by
 cases r with
 | str s=>rfl
def strs_get {l:List (List UInt8)} {i:Nat} {x:D} (h:(strs l)[i]?=some x):∃ y,l[i]?=some y/\x=S y:=by
 simp only[strs,AdX] at h;cases hl:l[i]? with
 | none=>simp[hl] at h
 | some y=>simp[hl] at h;exact ⟨y,rfl,h.symm⟩
def VL {l:List (List UInt8)} {i:Nat} (h:i<l.length):(strs l)[i]?=some (S l[i]):=by simp[strs,AbH h]
def Xp {P:Program} {G:Ah} {f:FuncId} (hg:An P f=true)
  (hs:∀ (blk off cap:Nat) (ss:List (List UInt8)) (w:World),Holds encStr w blk off ss.toArray->blk<w.heap.size->ss.length<4611686018427387904 ->
   Calls P f #[.slice (some ⟨blk,off,none⟩) ss.length cap] w fun e w'=>e=.returned (.tuple #[])/\∃ n os,w'=grow (putRow encStr (Sort.ahead w n) blk off (ss.mergeSort fun x y=>decide (x<=y)).toArray) os)
  (hn:∀ (p:Option Addr) (cap:Nat) (w:World),Calls P f #[.slice p 0 cap] w fun e w'=>e=.returned (.tuple #[])/\w'=w)
  (l:List (List UInt8)) (hl:l.length<=100000):Ctr P G f [.lsl 0 1 0 l.length] [.row false (strs l)] .undef [.row false (strs (l.mergeSort fun x y=>decide (x<=y)))]:=by
 refine ⟨hg,fun h ρ w vs s r=>?_⟩;obtain ⟨v,rfl,hv⟩:=r.inv1;have hb:=s.blk 0 _ rfl;rcases Nat.eq_zero_or_pos l.length with h0 | h0
 ·obtain rfl:l=[]:=List.eq_nil_of_length_eq_zero h0;have key:∃ p cap,v=.slice p 0 cap:=by
   cases hv with
   | lsl0 base=>exact ⟨_,_,rfl⟩
   | lsl b sz off n cap g S h1 h2 h3=>exact ⟨_,_,rfl⟩
  obtain ⟨p,cap,rfl⟩:=key;refine (hn p cap w).mono ?_;rintro e w' ⟨rfl,rfl⟩;exact ⟨_,h,ρ,rfl,by simpa using s,.undef _,AU.refl _ _ _⟩
 have key:∃ g S cap,v=.slice (some ⟨g,0,none⟩) l.length cap/\ρ 0=some (g,S)/\l.length<=cap/\0+cap*1<=S:=by
  generalize hk:l.length=k at hv h0;cases hv with
  | lsl0 base=>omega
  | lsl b sz off n cap g S h1 h2 h3=>exact ⟨g,S,cap,rfl,h1,h2,h3⟩
 obtain ⟨g,S,cap,rfl,hρ,hcap,hS⟩:=key;obtain ⟨hone,hb⟩:=hb;rcases hb with ⟨hno,_⟩ | ⟨g',S',c,E,fr,b1,b2,b3,b4,b5,b6,b7,b8⟩
 ·rw[hρ] at hno;cases hno
 rw[hρ] at b1;cases b1;have hlen:(strs l).length=l.length:=strs_length;have hcs:l.length<=c.size:=by omega
 have hval:∀ (j:Nat) (hj:j<l.length),c[j]?=some (encStr l[j]):=fun j hj=>by have h1:c[j]?=some c[j]:=AdD (by omega);rw[h1,Aa9 (b6 j _ _ (VL hj) h1)]
 have hH:Holds encStr w g 0 l.toArray:=by
  intro j hj;have hj':j<l.length:=by simpa using hj
  refine ⟨?_,?_⟩;·simp only[World.cell?,b2,Aec];rw[hval j hj'];simp[hj']
  simp only[World.frozen?,b2,Aec];have:=b4 j (by omega);simp only[Bool.and_eq_false_iff,decide_eq_false_iff_not];omega
 have hgl:g<w.heap.size:=(Array.getElem?_eq_some_iff.1 b2).1;refine (hs g 0 cap l w hH hgl (by omega)).mono ?_;rintro e w' ⟨rfl,n,os,rfl⟩;generalize hm:l.mergeSort (fun x y=>decide (x<=y))=m;have hml:m.length=l.length:=by rw[<-hm];exact AdR l
 have other:∀ k,k≠g->k<w.heap.size->(grow (putRow encStr (Sort.ahead w n) g 0 m.toArray) os).heap[k]?=w.heap[k]?:=fun k hk hlt=>by
  rw[heap_grow_old _ _ (by simpa using hlt)];show (w.heap.modify g _)[k]?=_
  rw[AdS,if_neg (Ne.symm hk)]
 have same:(grow (putRow encStr (Sort.ahead w n) g 0 m.toArray) os).heap[g]?=some (.cells (putCells encStr 0 m.toArray c) E fr):=by
  rw[heap_grow_old _ _ (by simpa using hgl)];show (w.heap.modify g _)[g]?=_
  rw[AdS,if_pos rfl,b2];rfl
 have hsz:(putCells encStr 0 m.toArray c).size=c.size:=by simp[putCells]
 have hcell:∀ (j:Nat) (hj:j<m.length),(putCells encStr 0 m.toArray c)[j]?=some (encStr m[j]):=fun j hj=>by
  have:j<c.size:=by omega
  simp[putCells,Array.getElem?_mapIdx,AdD this,hj]
 have hprom:∀ b o u,h b o=some u->(grow (putRow encStr (Sort.ahead w n) g 0 m.toArray) os).cell? ⟨b,o,none⟩=some u:=by
  intro b o u e;have hlt:=s.held_lt e;have hne:b≠g:=fun e'=>by subst e';rw[b8 o (fun e=>by cases e)] at e;cases e
  have:=s.prom b o u e;rw[<-this];simp only[World.cell?,other b hne hlt]
 refine ⟨_,h,ρ,rfl,⟨hprom,s.glob,fun i b e=>?_,fun i k S2 e=>?_,fun i j k S1 S2 e1 e2 l1 l2=>?_⟩,.undef _,⟨rfl,rfl,rfl,by simp,fun k hk hnk=>other k (fun e=>hnk 0 S (e▸hρ)) hk,Held.le_refl _,fun _ _ _ _=>rfl,Place.le_refl _,fun i k S2 e=>.inl ⟨i,S2,e⟩⟩⟩
 ·cases i with
  | zero =>
   simp[hp] at e;subst e;refine ⟨fun j x hx=>?_,.inr ⟨g,S,_,E,fr,hρ,same,by rw[hsz];exact b3,b4,by rw[strs_length,hml];omega,fun j x u hx hu=>?_,(fun e=>by cases e),fun j _=>b8 j (fun e=>by cases e)⟩⟩;·obtain ⟨y,_,rfl⟩:=strs_get hx;rfl
   obtain ⟨y,hy,rfl⟩:=strs_get hx;have hj:=(List.getElem?_eq_some_iff.1 hy).1;rw[hcell j hj] at hu;cases hu;have:m[j]=y:=by rw[AbH hj] at hy;exact Option.some.inj hy
   rw[this];exact .str _
  | succ i=>simp[hp] at e
 ·obtain ⟨q1,b,q2⟩:=s.dom i k S2 e;refine ⟨by simp;omega,?_⟩;cases i with
  | zero=>exact ⟨_,rfl⟩
  | succ i=>simp[hp] at q2
 have z:∀ i,Bk (hp [.row false (strs m)]) i->i=0:=by
  rintro i ⟨b,q,_⟩;cases i with
  | zero=>rfl
  | succ i=>simp[hp] at q
 rw[z i l1,z j l2]
def Tryz.sortL_ren:Go.Shelf.Ren:=⟨fun | 6=>178 | 8=>210 | 9=>209 | 19=>224 | 20=>191 | 21=>226 | 22=>227 | 23=>228 | 24=>229 | 25=>230 | 26=>231 | 27=>232 | 28=>233 | 29=>234 | 36=>248 | 31=>249 | 32=>250 | 37=>251 | 38=>252 | 39=>253 | 41=>261 | n=>n,fun | 27=>26 | 29=>9 | 3=>3 | 32=>155 | 26=>26 | 0=>0 | 44=>187 | 46=>177 | 4=>4 | 36=>292 | 35=>291 | 41=>296 | 5=>5 | 9=>9 | 53=>311 | 57=>315 | 63=>320 | 64=>321 | n=>n,fun | n=>n⟩
def Tryz.sortL:Go.Proofs.SlLaysM.n6 TP Tryz.sortL_ren where
 mixed:=by kernel_rfl
 f6:=⟨Tryz.f178.name,by kernel_rfl,Tryz.func178.trans (congrArg some (by kernel_rfl))⟩
 f8:=Tryz.func210.trans (congrArg some (by kernel_rfl))
 f9:=⟨Tryz.f209.name,by kernel_rfl,Tryz.func209.trans (congrArg some (by kernel_rfl))⟩
 f19:=Tryz.func224.trans (congrArg some (by kernel_rfl))
 f20:=Tryz.func191.trans (congrArg some (by kernel_rfl))
 f21:=⟨Tryz.f226.name,by kernel_rfl,Tryz.func226.trans (congrArg some (by kernel_rfl))⟩
 f22:=⟨Tryz.f227.name,by kernel_rfl,Tryz.func227.trans (congrArg some (by kernel_rfl))⟩
 f23:=⟨Tryz.f228.name,by kernel_rfl,Tryz.func228.trans (congrArg some (by kernel_rfl))⟩
 f24:=⟨Tryz.f229.name,by kernel_rfl,Tryz.func229.trans (congrArg some (by kernel_rfl))⟩
 f25:=⟨Tryz.f230.name,by kernel_rfl,Tryz.func230.trans (congrArg some (by kernel_rfl))⟩
 f26:=⟨Tryz.f231.name,by kernel_rfl,Tryz.func231.trans (congrArg some (by kernel_rfl))⟩
 f27:=⟨Tryz.f232.name,by kernel_rfl,Tryz.func232.trans (congrArg some (by kernel_rfl))⟩
 f28:=⟨Tryz.f233.name,by kernel_rfl,Tryz.func233.trans (congrArg some (by kernel_rfl))⟩
 f29:=⟨Tryz.f234.name,by kernel_rfl,Tryz.func234.trans (congrArg some (by kernel_rfl))⟩
 f31:=Tryz.func249.trans (congrArg some (by kernel_rfl))
 f32:=Tryz.func250.trans (congrArg some (by kernel_rfl))
 f36:=⟨Tryz.f248.name,by kernel_rfl,Tryz.func248.trans (congrArg some (by kernel_rfl))⟩
 f37:=⟨Tryz.f251.name,by kernel_rfl,Tryz.func251.trans (congrArg some (by kernel_rfl))⟩
 f38:=⟨Tryz.f252.name,by kernel_rfl,Tryz.func252.trans (congrArg some (by kernel_rfl))⟩
 f39:=⟨Tryz.f253.name,by kernel_rfl,Tryz.func253.trans (congrArg some (by kernel_rfl))⟩
 f41:=⟨Tryz.f261.name,by kernel_rfl,Tryz.func261.trans (congrArg some (by kernel_rfl))⟩
 t0:=Tryz.underlying0
 a0:=Tryz.isAgg0
 z0:=Tryz.sizeOf0
 v0:=Tryz.zeroValue0
 t3:=Tryz.underlying3
 a3:=Tryz.isAgg3
 z3:=Tryz.sizeOf3
 v3:=Tryz.zeroValue3
 t4:=Tryz.underlying4
 a4:=Tryz.isAgg4
 z4:=Tryz.sizeOf4
 v4:=Tryz.zeroValue4
 t5:=Tryz.underlying5
 a5:=Tryz.isAgg5
 z5:=Tryz.sizeOf5
 v5:=Tryz.zeroValue5
 t9:=Tryz.underlying9
 a9:=Tryz.isAgg9
 z9:=Tryz.sizeOf9
 v9:=Tryz.zeroValue9
 t26:=Tryz.underlying26
 a26:=Tryz.isAgg26
 z26:=Tryz.sizeOf26
 v26:=Tryz.zeroValue26
 t27:=Tryz.underlying26
 a27:=Tryz.isAgg26
 z27:=Tryz.sizeOf26
 v27:=Tryz.zeroValue26
 t29:=Tryz.underlying9
 a29:=Tryz.isAgg9
 z29:=Tryz.sizeOf9
 v29:=Tryz.zeroValue9
 t32:=Tryz.underlying155
 a32:=Tryz.isAgg155
 z32:=Tryz.sizeOf155
 v32:=Tryz.zeroValue155
 t35:=Tryz.underlying291
 a35:=Tryz.isAgg291
 z35:=Tryz.sizeOf291
 v35:=Tryz.zeroValue291
 t36:=Tryz.underlying292
 a36:=Tryz.isAgg292
 z36:=Tryz.sizeOf292
 v36:=Tryz.zeroValue292
 t41:=Tryz.underlying296
 a41:=Tryz.isAgg296
 z41:=Tryz.sizeOf296
 v41:=Tryz.zeroValue296
 t44:=Tryz.underlying187
 a44:=Tryz.isAgg187
 z44:=Tryz.sizeOf187
 v44:=Tryz.zeroValue187
 t46:=Tryz.underlying177
 a46:=Tryz.isAgg177
 z46:=Tryz.sizeOf177
 v46:=Tryz.zeroValue177
 t53:=Tryz.underlying311
 a53:=Tryz.isAgg311
 z53:=Tryz.sizeOf311
 v53:=Tryz.zeroValue311
 t57:=Tryz.underlying315
 a57:=Tryz.isAgg315
 z57:=Tryz.sizeOf315
 v57:=Tryz.zeroValue315
 t63:=Tryz.underlying320
 a63:=Tryz.isAgg320
 z63:=Tryz.sizeOf320
 v63:=Tryz.zeroValue320
 t64:=Tryz.underlying321
 a64:=Tryz.isAgg321
 z64:=Tryz.sizeOf321
 v64:=Tryz.zeroValue321
def srt (l:List (List UInt8)):List (List UInt8):=l.mergeSort fun x y=>decide (x<=y)
def Ts {l:List (List UInt8)}:(srt l).length=l.length:=AdR l
def VN {G:Ah} (l:List (List UInt8)) (hl:l.length<=100000):Ctr TP G 178 [.lsl 0 1 0 l.length] [.row false (strs l)] .undef [.row false (strs (srt l))] :=
 Xp Aci (fun blk off cap ss w h1 h2 h3=>AnyM.slices_Sort_string Tryz.sortL blk off cap ss w h1 h2 h3) (fun p cap w=>AnyM.slices_Sort_string_none Tryz.sortL p cap w) l hl
end Dst
namespace Dst
def M7 (x:List UInt8):∀ l:List (List UInt8),dedup (l++[x])=if l.getLast? = some x then dedup l else dedup l++[x]
 | []=>by simp[dedup]
 | [y]=>by
   by_cases h:y=x;·subst h;simp[dedup]
   simp[dedup,h]
 | y::z::l=>by
   have ih:=M7 x (z::l);have hl:(y::z::l).getLast? = (z::l).getLast?:=(by simp[List.getLast?_cons_cons])
   rw[hl];show dedup (y::z::(l++[x]))=_
   rw[dedup,dedup];have ih':dedup (z::(l++[x]))=if (z::l).getLast? = some x then dedup (z::l) else dedup (z::l)++[x]:=ih
   rw[ih'];split;·split<;>rfl
   split;·rfl
   rfl
def M6 {l:List (List UInt8)} {i:Nat} (h0:1<=i) (h:i<l.length):dedup (l.take (i+1))=if l.getD (i-1) []=l.getD i [] then dedup (l.take i) else dedup (l.take i)++[l.getD i []]:=by
 have e:l.take (i+1)=l.take i++[l.getD i []]:=by rw[Ac7,AbH h,AbM,AbH h];rfl
 have hl:(l.take i).getLast? = some (l.getD (i-1) []):=by rw[List.getLast?_eq_getElem?,Ady,List.getElem?_take,if_pos (by omega),show min i l.length-1=i-1 by omega,AbM,AbH (by omega)];rfl
 rw[e,M7,hl];simp only[Option.some.injEq]
end Dst
namespace Dst
open Go Go.Proofs Go.Abs
variable {G:Ah}
def cpt (l:List (List UInt8)):List (List UInt8):=dedup l++Ad8 (l.length-(dedup l).length) []
def P9 (l:List (List UInt8)) (hl:l.length<=100000):Ctr TP G 143 [.lsl 0 1 0 l.length] [.row false (strs l)] (.lsl 0 1 0 (dedup l).length) [.row false (strs (cpt l))]:=by
 refine Ctr.body (M:=M0) Al Tryz.func143 rfl AcC ?_;have sl:=@strs_length l;rcases AbU l.length 2 with h2 | h2
 ·have e:dedup l=l/\cpt l=l:=by
   match l,h2 with
   | [],_=>exact ⟨rfl,rfl⟩
   | [x],_=>exact ⟨rfl,rfl⟩
  rw[e.1,e.2];simp(disch:=(try simp only[Ad]);omega)only[Ag,sl,Tryz.f143,↓Ac,Ae,↓reduceIte,↓reduceDIte,↓Qe,Qu,Qv,Qw,Qx,Qy,Qz,QA,QB,QC,QD,QE,QF,QG,QH,QI,QK];exact ⟨[some 0],rfl,by simp,by simp[HW,BW,SW,AW],.inl (by simp[AW,SW])⟩
 simp(disch:=(try simp only[Ad]);omega)only[Ag,sl,Tryz.f143,↓Ac,Ae,↓reduceIte,↓reduceDIte,↓Qe,Qu,Qv,Qw,Qx,Qy,Qz,QA,QB,QC,QD,QE,QF,QG,QH,QI,QK];refine As.fr 1 (α:=Nat) (fun i=>l.length-i) (fun i=>[(3,.d (.int .i64 i))]) (fun _=>[.row false (strs l)]) (fun i=>1<=i/\i<=l.length/\dedup (l.take i)=l.take i) 1 ⟨AbS _,by omega,by
  match l,h2 with
  | x::r,_=>rfl⟩ ?_ ?_
 ·exact ⟨[some 0],rfl,by simp,by simp[sA,kZ,SW,AW],by simp[HW,BW,SW,AW]⟩
 rintro i ⟨h1,h3,h4⟩;simp only[Cr,AbV,AbY,reduceIte];rcases AbU i l.length with h | h
 ·have e1:((i:Int)-1)=((i-1:Nat):Int):=by omega
  have g1:=strs_getD (l:=l) (i:=i-1) (by omega);have g2:=strs_getD h;have hd:=M6 h1 h;by_cases he:l.getD (i-1) []=l.getD i []
  ·rw[if_pos he] at hd;rw[he] at g1;simp(disch:=(try simp only[Ad]);omega)only[Ag,sl,e1,g1,g2,beq_self_eq_true,↓Ac,Ae,↓reduceIte,↓reduceDIte,↓Qe,Qu,Qv,Qw,Qx,Qy,Qz,QA,QB,QC,QD,QE,QF,QG,QH,QI,QK];refine ⟨by rfl,?_⟩;have hlt:(l.take i).length=i:=(by rw[Ady];omega)
   refine As.fr 17 (α:=Nat × Nat × List (List UInt8)) (fun x=>l.length-(i+x.1)) (fun x=>[(3,.d (.int .i64 x.2.1)),(5,.d (.int .i64 x.1))]) (fun x=>[.row false (strs x.2.2)])
    (fun x=>1<=x.1/\i+x.1<=l.length/\x.2.2.length=l.length/\x.2.1=(dedup (l.take (i+x.1))).length/\x.2.2.take x.2.1=dedup (l.take (i+x.1))/\x.2.1+1<=i+x.1/\∀ q,i+x.1<=q+1->q<l.length->x.2.2.getD q []=l.getD q [])
    (1,i,l) ⟨AbS _,h,rfl,by simp only;rw[hd,h4,hlt],by simp only;rw[hd,h4],AbS _,fun q _ _=>rfl⟩ ?_ ?_
   ·exact ⟨[some 0],rfl,by simp,by simp[sA,kZ,SW,AW],by simp[HW,BW,SW,AW]⟩
   rintro ⟨j,k,R⟩ ⟨j1,j2,j3,j4,j5,j6,j7⟩;simp only at j1 j2 j3 j4 j5 j6 j7;have sR:=@strs_length R;simp only[Cr,AbV,AbY,reduceIte];rcases AbU (i+j) l.length with hj | hj
   ·have e2:((j:Int)-1)=((j-1:Nat):Int):=(by omega);have r1:=strs_getD (l:=R) (i:=i+j) (by omega);have r2:=strs_getD (l:=R) (i:=i+(j-1)) (by omega);rw[j7 (i+j) (by omega) hj] at r1;rw[j7 (i+(j-1)) (by omega) (by omega)] at r2;have hd2:=M6 (l:=l) (i:=i+j) (by omega) hj;rw[show i+j-1=i+(j-1) by omega] at hd2;by_cases hq:l.getD (i+(j-1)) []=l.getD (i+j) []
    ·rw[if_pos hq] at hd2;rw[hq] at r2;simp(disch:=(try simp only[Ad]);omega)only[Ag,sR,j3,e2,r1,r2,beq_self_eq_true,↓Ac,Ae,↓reduceIte,↓reduceDIte,↓Qe,Qu,Qv,Qw,Qx,Qy,Qz,QA,QB,QC,QD,QE,QF,QG,QH,QI,QK];exact ⟨by rfl,(j+1,k,R),⟨by simp only;omega,hj,j3,by simp only;rw[<-AdA,hd2];exact j4,by simp only;rw[<-AdA,hd2];exact j5,by simp only;omega,fun q a b=>j7 q (by simp only at a;omega) b⟩,by simp only;omega,⟨[some 0],rfl,by simp,by simp[sA,kZ,SW,AW],by simp[HW,BW,SW,AW]⟩⟩
    rw[if_neg hq] at hd2;have hne:(l.getD (i+j) [] == l.getD (i+(j-1)) [])=false:=(by simpa using fun q=>hq q.symm)
    have hk:k<R.length:=(by omega);have ht:(R.set k (l.getD (i+j) [])).take (k+1)=R.take k++[l.getD (i+j) []]:=(by rw[Ac7,List.getElem?_set_self hk,List.take_set_of_le (AbS _)];rfl);simp(disch:=(try simp only[Ad]);omega)only[Ag,sR,j3,e2,r1,r2,hne,Xn,↓Ac,Ae,↓reduceIte,↓reduceDIte,↓Qe,Qu,Qv,Qw,Qx,Qy,Qz,QA,QB,QC,QD,QE,QF,QG,QH,QI,QK];exact ⟨by rfl,(j+1,k+1,R.set k (l.getD (i+j) [])),⟨by simp only;omega,hj,by simp only[AdN];exact j3,by simp only;rw[<-AdA,hd2,AbQ,<-j4];rfl,by simp only;rw[<-AdA,hd2,ht,j5],by simp only;omega,fun q a b=>by simp only at a;rw[AbM,List.getElem?_set_ne (by omega),<-AbM];exact j7 q (by omega) b⟩,by simp only;omega,⟨[some 0],rfl,by simp,by simp[sA,kZ,SW,AW],by simp[HW,BW,SW,AW]⟩⟩
   have hjl:i+j=l.length:=(by omega);rw[hjl,Adu] at j4 j5;have hrow:(strs R).take k++AF [.str .empty] (l.length-k)++(strs R).drop l.length=strs (cpt l):=(by rw[AdK (by omega),Ad5,Tj,strs_app,j5];unfold cpt;rw[<-j4])
   have hkl:k+(l.length-k)=l.length:=(by omega);rw[<-j4];simp(disch:=(try simp only[Ad]);omega)only[Ag,sR,j3,hkl,Nat.mul_one,hrow,↓Ac,Ae,↓reduceIte,↓reduceDIte,↓Qe,Qu,Qv,Qw,Qx,Qy,Qz,QA,QB,QC,QD,QE,QF,QG,QH,QI,QK];first
   | exact ⟨[some 0],rfl,by simp,by simp[HW,BW,SW,AW],.inl (by simp[AW,SW])⟩
   | trace_state
  rw[if_neg he,h4] at hd;have hne:(l.getD i [] == l.getD (i-1) [])=false:=by simpa using fun q=>he q.symm
  have hd2:dedup (l.take (i+1))=l.take (i+1):=by rw[hd,Ac7,AbH h,AbM,AbH h];rfl
  simp(disch:=(try simp only[Ad]);omega)only[Ag,sl,e1,g1,g2,hne,↓Ac,Ae,↓reduceIte,↓reduceDIte,↓Qe,Qu,Qv,Qw,Qx,Qy,Qz,QA,QB,QC,QD,QE,QF,QG,QH,QI,QK];exact ⟨by rfl,i+1,⟨by omega,h,hd2⟩,by simp only;omega,⟨[some 0],rfl,by simp,by simp[sA,kZ,SW,AW],by simp[HW,BW,SW,AW]⟩⟩
 obtain rfl:i=l.length:=by omega
 rw[Adu] at h4;have e:cpt l=l:=by unfold cpt;rw[h4];simp
 rw[h4,e];simp(disch:=(try simp only[Ad]);omega)only[Ag,sl,↓Ac,Ae,↓reduceIte,↓reduceDIte,↓Qe,Qu,Qv,Qw,Qx,Qy,Qz,QA,QB,QC,QD,QE,QF,QG,QH,QI,QK];exact ⟨[some 0],rfl,by simp,by simp[HW,BW,SW,AW],.inl (by simp[AW,SW])⟩
def MY:B0:=fun k=>k == 3000000
def MY_n {k:Nat} (h:k<3000000):MY k=false:=by simp only[MY,beq_eq_false_iff_ne];exact Nat.ne_of_lt h
def Tdo_cons {x:D} {r:List D} {t:List (D × Bool)} (h:Tdo (x::r) t):(∃ t',t=(x,true)::t'/\Tdo r t')\/t=[(x,false)]:=by
 match t,h with
 | (z,true)::t,h=>exact .inl ⟨t,by rw[h.1],h.2⟩
 | (z,false)::t,h=>exact .inr (by rw[h.1,h.2])
def Tdo_nil {t:List (D × Bool)} (h:Tdo [] t):t=[]:=by
 match t,h with
 | [],_=>rfl
def Pf (l:List (List UInt8)) (full:Bool) (hl:l.length<=100000):Nv TP G 179 [.ptr 1 0] [.box [.d (Ss l full)]] (strs l):=by
 refine Nv.body (M:=MY) Al Tryz.func179 rfl Ach ?_;intro lp J todo hJ hT;have sl:=@strs_length l;simp(disch:=(try simp only[Ad]);omega)only[Ag,sl,Ss,MY_n,Tryz.f179,↓Ac,Ae,↓reduceIte,↓reduceDIte,↓Qe,Qu,Qv,Qw,Qx,Qy,Qz,QA,QB,QC,QD,QE,QF,QG,QH,QI,QK];refine As.fr 99 (α:=Nat × List (D × Bool)) (fun x=>l.length-x.1) (fun x=>[(7,.d (.int .i64 x.1))]) (fun x=>[.ext J x.2,.box [.d (.sl l.length full (strs l))]]) (fun x=>x.1<=l.length/\Tdo ((strs l).drop x.1) x.2) (0,todo) ⟨Ac6 _,hT⟩ ?_ ?_;·exact ⟨[some 0,some 1],rfl,by simp,by simp[sA,kZ,SW,AW],by simp[HW,BW,SW,AW]⟩
 rintro ⟨i,t⟩ ⟨h1,h2⟩;simp only at h1 h2;simp only[Cr,AbV,AbY,reduceIte];rcases AbU i l.length with h | h
 ·have e:(strs l).drop i=S (l.getD i [])::(strs l).drop (i+1):=by
   rw[AdE (by omega)];simp[strs,h]
  rw[e] at h2;have g:=strs_getD h;rcases Tdo_cons h2 with ⟨t',rfl,h3⟩ | rfl
  ·simp(disch:=(try simp only[Ad]);omega)only[Ag,sl,g,MY_n,↓Ac,Ae,↓reduceIte,↓reduceDIte,↓Qe,Qu,Qv,Qw,Qx,Qy,Qz,QA,QB,QC,QD,QE,QF,QG,QH,QI,QK];refine JN.by rfl hJ rfl rfl ?_;simp(disch:=(try simp only[Ad]);omega)only[Ag,sl,MY_n,↓Ac,Ae,↓reduceIte,↓reduceDIte,↓Qe,Qu,Qv,Qw,Qx,Qy,Qz,QA,QB,QC,QD,QE,QF,QG,QH,QI,QK];exact ⟨(i+1,t'),⟨h,h3⟩,by simp only;omega,⟨[some 0,some 1],rfl,by simp,by simp[sA,kZ,SW,AW],by simp[HW,BW,SW,AW]⟩⟩
  simp(disch:=(try simp only[Ad]);omega)only[Ag,sl,g,MY_n,↓Ac,Ae,↓reduceIte,↓reduceDIte,↓Qe,Qu,Qv,Qw,Qx,Qy,Qz,QA,QB,QC,QD,QE,QF,QG,QH,QI,QK];refine JN.by rfl hJ rfl rfl ?_;simp(disch:=(try simp only[Ad]);omega)only[Ag,sl,MY_n,↓Ac,Ae,↓reduceIte,↓reduceDIte,↓Qe,Qu,Qv,Qw,Qx,Qy,Qz,QA,QB,QC,QD,QE,QF,QG,QH,QI,QK];exact ⟨[some 0],rfl,by simp,by simp[HW,BW,SW,AW],.inl (by simp[AW,SW])⟩
 have e:(strs l).drop i=[]:=AdK (by omega);rw[e] at h2;rw[Tdo_nil h2];simp(disch:=(try simp only[Ad]);omega)only[Ag,sl,MY_n,↓Ac,Ae,↓reduceIte,↓reduceDIte,↓Qe,Qu,Qv,Qw,Qx,Qy,Qz,QA,QB,QC,QD,QE,QF,QG,QH,QI,QK];exact ⟨[some 0],rfl,by simp,by simp[HW,BW,SW,AW],.inl (by simp[AW,SW])⟩
def Rw (l:List (List UInt8)) (full:Bool):Ctr TP G 145 [.d (Ss l full)] [] (.fn (.func 179) [] [.ptr 0 0]) [.box [.d (Ss l full)]]:=by refine Ctr.body (M:=M0) Al Tryz.func145 rfl AcA ?_;simp(disch:=(try simp only[Ad]);omega)only[Ag,Ss,Tryz.f145,↓Ac,Ae,↓reduceIte,↓reduceDIte,↓Qe,Qu,Qv,Qw,Qx,Qy,Qz,QA,QB,QC,QD,QE,QF,QG,QH,QI,QK];exact ⟨[some 0],rfl,by simp,by simp[HW,BW,SW,AW],.inl (by simp[AW,SW])⟩
def AaV:∀ {x y:List UInt8},bl x y=true↔x<y
 | [],[]=>by simp[bl,Op.bytesLess]
 | [],b::y=>by simp[bl,Op.bytesLess]
 | a::x,[]=>by simp[bl,Op.bytesLess]
 | a::x,b::y=>by rw[Rg,List.cons_lt_cons_iff,UInt8.lt_iff_toNat_lt,AaV (x:=x) (y:=y)]
def Tr (l:List (List UInt8)):(srt l).Pairwise (fun x y=>bl y x=false):=by
 have h:=List.pairwise_mergeSort (le:=fun x y:List UInt8=>decide (x<=y)) (fun a b c h1 h2=>by simp at *;exact List.le_trans h1 h2) (fun a b=>by simp;exact List.le_total a b) l;refine h.imp fun {x y} h=>?_;simp only[decide_eq_true_eq] at h;cases hb:bl y x with
 | false=>rfl
 | true=>exact absurd (AaV.1 hb) (by simpa using h)
def MSt:B0:=fun k=>k == 178 || (k == 143 || k == 208)
def MSt_n {k:Nat} (h:2000000<=k):MSt k=false:=by simp only[MSt,Bool.or_eq_false_iff,beq_eq_false_iff_ne];exact ⟨Ad1 (Adc (by decide) h),Ad1 (Adc (by decide) h),Ad1 (Adc (by decide) h)⟩
def Nq (l:List (List UInt8)) (full:Bool) (hl:l.length<=100000):Ctr TP G 208 [.d (.sl 0 true []),.fn (.func 179) [] [.ptr 0 0]] [.box [.d (Ss l full)]] (.lsl 1 1 0 l.length) [.dead,.row false (strs l)]:=by
 refine Ctr.body (M:=M0) Al Tryz.func208 rfl Ab5 ?_;have sl:=@strs_length l;simp(disch:=(try simp only[Ad]);omega)only[Ag,sl,Tryz.f208,↓Ac,Ae,↓reduceIte,↓reduceDIte,↓Qe,Qu,Qv,Qw,Qx,Qy,Qz,QA,QB,QC,QD,QE,QF,QG,QH,QI,QK];refine IQ.all (α:=Unit) (Pf l full hl) [some 1,none] 0 [(2,.ptr 0 0)] (fun k _=>[.box [.lsl 1 1 0 k],.row false (strs (l.take k))]) (fun k _=>True) rfl rfl rfl rfl rfl rfl rfl (by simp) () trivial (by simp[sA,kZ,SW,AW]) (by simp[HW,BW,SW,AW,strs]) (fun _ _=>⟨rfl,rfl⟩) ?_ ?_
 ·rintro k d ⟨⟩ hk hd -;rw[strs_length] at hk;obtain ⟨y,hy,rfl⟩:=strs_get hd;have e:(l.take k).length=k:=by rw[Ady];omega
  have st:=@strs_length (l.take k);rw[e] at st;simp only[Cr,AbV,AbY,reduceIte];simp(disch:=(try simp only[Ad]);omega)only[Ag,st,↓Ac,Ae,↓reduceIte,↓reduceDIte,↓Qe,Qu,Qv,Qw,Qx,Qy,Qz,QA,QB,QC,QD,QE,QF,QG,QH,QI,QK];have e2:strs (l.take k)++[D.str (bs y)]=strs (l.take (k+1)):=by rw[Ac7,hy];simp[strs]
  rw[e2];exact Tb.mk (⟨[some 0,some 3],rfl,by simp,by simp[sA,kZ,SW,AW],by simp[HW,BW,SW,AW]⟩:C8 0 _ _ _ [.box [.lsl 1 1 0 (k+1)],.row false (strs (l.take (k+1)))]) ⟨(),rfl⟩
 rintro ⟨⟩ -;simp only[Cr,AbV,AbY,reduceIte];rw[AdJ (by rw[strs_length];exact AbS _)];simp(disch:=(try simp only[Ad]);omega)only[Ag,sl,↓Ac,Ae,↓reduceIte,↓reduceDIte,↓Qe,Qu,Qv,Qw,Qx,Qy,Qz,QA,QB,QC,QD,QE,QF,QG,QH,QI,QK];exact ⟨[some 0,some 3],rfl,by simp,by simp[HW,BW,SW,AW],.inl (by simp[AW,SW])⟩
def Q3 (l:List (List UInt8)) (full:Bool) (hl:l.length<=100000):Ctr TP G 177 [.fn (.func 179) [] [.ptr 0 0]] [.box [.d (Ss l full)]] (.lsl 1 1 0 l.length) [.dead,.row false (strs l)]:=by refine Ctr.body (M:=MSt) Al Tryz.func177 rfl Acj ?_;have sl:=@strs_length l;have m1:MSt 208=true:=rfl;simp(disch:=(try simp only[Ad]);omega)only[Ag,sl,m1,MSt_n,Tryz.f177,↓Ac,Ae,↓reduceIte,↓reduceDIte,↓Qe,Qu,Qv,Qw,Qx,Qy,Qz,QA,QB,QC,QD,QE,QF,QG,QH,QI,QK];refine Ab.by (Nq l full hl) rfl rfl (by simp) ?_;simp(disch:=(try simp only[Ad]);omega)only[Ag,sl,m1,MSt_n,↓Ac,Ae,↓reduceIte,↓reduceDIte,↓Qe,Qu,Qv,Qw,Qx,Qy,Qz,QA,QB,QC,QD,QE,QF,QG,QH,QI,QK];exact ⟨[some 0,some 1],rfl,by simp,by simp[HW,BW,SW,AW],.inl (by simp[AW,SW])⟩
def RP (l:List (List UInt8)) (full:Bool) (hl:l.length<=100000):Ctr TP G 144 [.fn (.func 179) [] [.ptr 0 0]] [.box [.d (Ss l full)]] (.lsl 1 1 0 l.length) [.dead,.row false (strs (srt l))]:=by refine Ctr.body (M:=MSt) Al Tryz.func144 rfl AcB ?_;have sl:=@strs_length l;have m1:MSt 178=true:=rfl;have m2:MSt 177=false:=rfl;simp(disch:=(try simp only[Ad]);omega)only[Ag,sl,m1,m2,MSt_n,Tryz.f144,↓Ac,Ae,↓reduceIte,↓reduceDIte,↓Qe,Qu,Qv,Qw,Qx,Qy,Qz,QA,QB,QC,QD,QE,QF,QG,QH,QI,QK];refine Ab.by (Q3 l full hl) rfl rfl (by simp) ?_;simp(disch:=(try simp only[Ad]);omega)only[Ag,sl,m1,m2,MSt_n,↓Ac,Ae,↓reduceIte,↓reduceDIte,↓Qe,Qu,Qv,Qw,Qx,Qy,Qz,QA,QB,QC,QD,QE,QF,QG,QH,QI,QK];refine Ab.by (VN l hl) rfl rfl (by simp) ?_;simp(disch:=(try simp only[Ad]);omega)only[Ag,sl,m1,m2,MSt_n,↓Ac,Ae,↓reduceIte,↓reduceDIte,↓Qe,Qu,Qv,Qw,Qx,Qy,Qz,QA,QB,QC,QD,QE,QF,QG,QH,QI,QK];exact ⟨[some 0,some 1],rfl,by simp,by simp[HW,BW,SW,AW],.inl (by simp[AW,SW])⟩
def Aal (l:List (List UInt8)):cut (strs (cpt l)) 0 (dedup l).length=strs (dedup l):=by simp[cut,cpt,strs]
def set_spec (l:List (List UInt8)) (full:Bool) (hl:l.length<=100000):Ctr TP G 104 [.d (Ss l full)] [] (.d (Ss (setL l) false)) []:=by
 refine Ctr.pure (M:=MSt) Al Tryz.func104 rfl Ac1 ?_;have sl:=@strs_length l;have m1:MSt 143=true:=rfl;have m2:MSt 145=false:=rfl;have m3:MSt 144=false:=rfl;have hs:=@Ts l;have e:dedup (srt l)=setL l:=by exact TA (Tr l) (fun t=>by simp[srt])
 have cc:=Aal (srt l);have hc:=P9 (G:=G) (srt l) (by omega);rw[e] at cc hc;simp(disch:=(try simp only[Ad]);omega)only[Ag,sl,m1,m2,m3,MSt_n,Tryz.f104,↓Ac,Ae,↓reduceIte,↓reduceDIte,↓Qe,Qu,Qv,Qw,Qx,Qy,Qz,QA,QB,QC,QD,QE,QF,QG,QH,QI,QK];refine Ab.by (Rw l false) rfl rfl (by simp) ?_;simp(disch:=(try simp only[Ad]);omega)only[Ag,sl,m1,m2,m3,MSt_n,↓Ac,Ae,↓reduceIte,↓reduceDIte,↓Qe,Qu,Qv,Qw,Qx,Qy,Qz,QA,QB,QC,QD,QE,QF,QG,QH,QI,QK];refine Ab.by (RP l false hl) rfl rfl (by simp) ?_;simp(disch:=(try simp only[Ad]);omega)only[Ag,sl,m1,m2,m3,MSt_n,↓Ac,Ae,↓reduceIte,↓reduceDIte,↓Qe,Qu,Qv,Qw,Qx,Qy,Qz,QA,QB,QC,QD,QE,QF,QG,QH,QI,QK];rw[hs] at hc;refine Ab.by hc rfl rfl (by simp) ?_;simp(disch:=(try simp only[Ad]);omega)only[Ag,sl,cc,strs_length,Ss,m1,m2,m3,MSt_n,↓Ac,Ae,↓reduceIte,↓reduceDIte,↓Qe,Qu,Qv,Qw,Qx,Qy,Qz,QA,QB,QC,QD,QE,QF,QG,QH,QI,QK]
end Dst
section
open Go Go.Proofs Go.Abs
variable {G:Ah}
def Ux {l:List (List UInt8)} (h:Dst.Asc l):l.Nodup:=h.imp fun {a b} h e=>by subst e;rw[Dst.bl_irrefl] at h;cases h
def D7:∀ {l out:List (List UInt8)},l.Nodup->(∀ s∈l,s∈out)->l.length<=out.length
 | [],_,_,_=>Ac6 _
 | x::l,out,hn,hs=>by
   have hx:=hs x (by simp);have hn:=AdB.1 hn;have:=D7 (l:=l) (out:=out.erase x) hn.2 (fun s h=>by have:s≠x:=fun e=>hn.1 (e▸h);exact (AdT this).2 (hs s (by simp[h])))
   rw[AdG hx] at this;have:0<out.length:=AdL hx;rw[AbR];omega
def Ik:∀ {s l:List (List UInt8)},s.Nodup->(∀ x∈s,x∈l)->l.length<=s.length->l.Nodup
 | [],l,_,_,hl=>by have:l=[]:=List.length_eq_zero_iff.1 (by simpa using hl);rw[this];exact Ad9
 | a::s,l,hn,hs,hl=>by
   have ha:=hs a (by simp);have hn':=AdB.1 hn;have len:=AdG ha;have sub:∀ x∈s,x∈l.erase a:=fun x hx=>by have:x≠a:=fun e=>hn'.1 (e▸hx);exact (AdT this).2 (hs x (by simp[hx]))
   have ih:=Ik (l:=l.erase a) hn'.2 sub (by rw[len];rw[AbR] at hl;omega);have na:a∉l.erase a:=fun h=>by
    have:=D7 (l:=a::s) (out:=l.erase a) hn (fun x hx=>by
     rcases AbT.1 hx with e | hx
     ·exact e▸h
     exact sub x hx)
    have p:=AdL ha;rw[len,AbR] at this;rw[AbR] at hl;omega
   exact (List.perm_cons_erase ha).nodup_iff.2 (AdB.2 ⟨na,ih⟩)
def RQ (l:Row):(Dst.setL l).length=l.length↔l.Nodup:=by
 have a:=Ux (Dst.asc_setL l);constructor;·intro h;exact Ik a (fun x hx=>Dst.mem_setL.1 hx) (Nat.le_of_eq h.symm)
 intro h;exact Nat.le_antisymm (D7 a fun x hx=>Dst.mem_setL.1 hx) (D7 h fun x hx=>Dst.mem_setL.2 hx)
def Y0 (ks:List (List UInt8)):(ks.any fun s=>!A2 s)=!ks.all A2:=by
 induction ks with
 | nil=>rfl
 | cons x l ih=>rw[Aea,AdV,ih,Bool.not_and]
def Fa (k:Int) (ks:List (List UInt8)) (m:Nat):Bool:=if k=6 then decide (ks.length=m) && (decide ks.Nodup && ks.all A2) else decide (ks.length=0)
mutual
def Bg:Nd->Nat->Bool
 | .mk k t ks l,a=>decide (1<=k/\k<=6) && (decide (a<16) && (Db k t && (Fa k ks l.length && ((decide (k=5\/k=6) || decide (l.length=0)) && Eg l (a+1)))))
def Eg:List Nd->Nat->Bool
 | [],_=>true
 | n::r,a=>Bg n a && Eg r a
end
def HN:∀ (l:List Nd) (a:Nat),(!(l.any fun n=>!Bg n a))=Eg l a
 | [],a=>rfl
 | n::r,a=>by have ih:=HN r a;rw[Aea,Eg,<-ih];cases Bg n a<;>rfl
mutual
def szN:Nd->Prop
 | .mk _ t ks l=>t.length<=1000000000/\ks.length<=100000/\(∀ s∈ks,s.length<=1000000000)/\l.length<=100000/\Xl l
def Xl:List Nd->Prop
 | []=>True
 | n::r=>szN n/\Xl r
end
def I8:∀ {l:List Nd},Xl l->∀ n∈l,szN n
 | [],_,n,h=>by cases h
 | x::r,h,n,hn=>by
   rcases AbT.1 hn with rfl | hn
   ·exact h.1
   exact I8 h.2 n hn
def T2 (hT:HT G) (n:Nd) (hs:szN n):Ctr TP G 74 [.d (NdD n)] [] (.d (.bool (Fa n.kind n.keys n.kids.length))) []:=by
 obtain ⟨k,t,ks,l⟩:=n;obtain ⟨s1,s2,s3,s4,s5⟩:=hs;obtain ⟨r,hr⟩:∃ r,r=Fa k ks l.length:=⟨_,rfl⟩;show Ctr _ _ _ _ _ (.d (.bool (Fa k ks l.length))) _
 rw[<-hr];unfold Fa at hr;refine Ctr.pure (M:=M0) Al Tryz.func74 rfl go74 ?_;by_cases k6:k=6
 ·subst k6;rw[if_pos rfl] at hr;by_cases e1:ks.length=l.length
  ·rw[decide_eq_true e1,AbO] at hr;simp(disch:=(try simp only[Ad]);omega)only[Ag,ndC,e1,Tryz.f74,↓Ac,Ae,↓reduceIte,↓reduceDIte,↓Qe,Qu,Qv,Qw,Qx,Qy,Qz,QA,QB,QC,QD,QE,QF,QG,QH,QI,QK];refine Ab.of (Dst.set_spec ks false s2) (by rw[<-e1];rfl) ?_;have hq:=RQ ks;generalize Dst.setL ks=q at *;have hany:=Y0 ks;by_cases e2:ks.Nodup
   ·have h1:=hq.2 e2;rw[e1] at h1;rw[decide_eq_true e2,AbO] at hr;simp(disch:=(try simp only[Ad]);omega)only[Ag,h1,↓Ac,Ae,↓reduceIte,↓reduceDIte,↓Qe,Qu,Qv,Qw,Qx,Qy,Qz,QA,QB,QC,QD,QE,QF,QG,QH,QI,QK];refine Ab.of (JB 106 (fun s=>!A2 s) ks false (by omega) (fun s h=>T3 hT s (s3 s h))) (by rfl) ?_;rw[hany,<-hr];cases r
    ·simp(disch:=(try simp only[Ad]);omega)only[Ag,AdU,AdW,↓Ac,Ae,↓reduceIte,↓reduceDIte,↓Qe,Qu,Qv,Qw,Qx,Qy,Qz,QA,QB,QC,QD,QE,QF,QG,QH,QI,QK];first
     | rfl
     | exact ⟨by rfl,by rfl⟩
    simp(disch:=(try simp only[Ad]);omega)only[Ag,AdU,AdW,↓Ac,Ae,↓reduceIte,↓reduceDIte,↓Qe,Qu,Qv,Qw,Qx,Qy,Qz,QA,QB,QC,QD,QE,QF,QG,QH,QI,QK];first
    | rfl
    | exact ⟨by rfl,by rfl⟩
   have h1:¬q.length=l.length:=fun c=>e2 (hq.1 (by rw[c,e1]));rw[decide_eq_false e2,AbP] at hr;subst hr;simp(disch:=(try simp only[Ad]);omega)only[Ag,h1,↓Ac,Ae,↓reduceIte,↓reduceDIte,↓Qe,Qu,Qv,Qw,Qx,Qy,Qz,QA,QB,QC,QD,QE,QF,QG,QH,QI,QK];first
   | rfl
   | exact ⟨by rfl,by rfl⟩
  rw[decide_eq_false e1,AbP] at hr;subst hr;simp(disch:=(try simp only[Ad]);omega)only[Ag,ndC,e1,Tryz.f74,↓Ac,Ae,↓reduceIte,↓reduceDIte,↓Qe,Qu,Qv,Qw,Qx,Qy,Qz,QA,QB,QC,QD,QE,QF,QG,QH,QI,QK];rfl
 rw[if_neg k6] at hr;subst hr;simp(disch:=(try simp only[Ad]);omega)only[Ag,ndC,k6,Tryz.f74,↓Ac,Ae,↓reduceIte,↓reduceDIte,↓Qe,Qu,Qv,Qw,Qx,Qy,Qz,QA,QB,QC,QD,QE,QF,QG,QH,QI,QK];exact decide_eq_decide.2 (by omega)
def K9 (g:FuncId) (p:Nd->Bool) (l:List Nd) (full:Bool) (fv:AV) (x:D) (hf:fv=.fn (.func g) [] [.ptr 0 0]) (hl:l.length<=1000000000) (hp:∀ c∈l,Ctr TP G g [.d (NdD c),.ptr 0 0] [.box [.d x]] (.d (.bool (p c))) [.box [.d x]]) :
  Ctr TP G 54 [.d (NdS l full),fv] [.box [.d x]] (.d (.int .i64 (ixF p l 0))) [.box [.d x]]:=by
 subst hf;refine Ctr.body (M:=M0) Al Tryz.func54 rfl go54 ?_;have sl:=Bc l;simp(disch:=(try simp only[Ad]);omega)only[sl,Tryz.f54,↓Ac,Ae,↓reduceIte,↓reduceDIte,↓Qe,Qu,Qv,Qw,Qx,Qy,Qz,QA,QB,QC,QD,QE,QF,QG,QH,QI,QK];refine As.fr 131 (α:=Nat) (fun i=>l.length-i) (fun i=>[(8,.d (.int .i64 i))]) (fun _=>[.box [.d x]]) (fun i=>i<=l.length/\ixF p l 0=ixF p (l.drop i) i) 0 ⟨Ac6 _,rfl⟩ ?_ ?_;·exact ⟨[some 0],rfl,by simp,by simp[sA,kZ,SW,AW],by simp[HW,BW,SW,AW]⟩
 rintro i ⟨h1,h2⟩;simp only[Cr,AbV,AbY,reduceIte];rw[h2];rcases AbU i l.length with h | h
 ·have g:=Dg h;rw[MN (d:=noN) h];simp(disch:=(try simp only[Ad]);omega)only[sl,g,PN,↓Ac,Ae,↓reduceIte,↓reduceDIte,↓Qe,Qu,Qv,Qw,Qx,Qy,Qz,QA,QB,QC,QD,QE,QF,QG,QH,QI,QK];refine Ab.by (hp _ (E1 h)) (by rfl) (by rfl) (by simp) ?_;cases hx:p (l.getD i noN)
  ·simp(disch:=(try simp only[Ad]);omega)only[↓Ac,Ae,↓reduceIte,↓reduceDIte,↓Qe,Qu,Qv,Qw,Qx,Qy,Qz,QA,QB,QC,QD,QE,QF,QG,QH,QI,QK];first
   | exact ⟨i+1,⟨h,rfl⟩,by simp only;omega,⟨[some 0],rfl,by simp,by simp[sA,kZ,SW,AW],by simp[HW,BW,SW,AW]⟩⟩
  simp(disch:=(try simp only[Ad]);omega)only[↓Ac,Ae,↓reduceIte,↓reduceDIte,↓Qe,Qu,Qv,Qw,Qx,Qy,Qz,QA,QB,QC,QD,QE,QF,QG,QH,QI,QK];first
  | exact ⟨[some 0],rfl,by simp,by simp[HW,BW,SW,AW],.inl (by simp[AW,SW])⟩
 rw[Adz h,show ixF p [] (i:Int)=-1 from rfl];simp(disch:=(try simp only[Ad]);omega)only[↓Ac,Ae,↓reduceIte,↓reduceDIte,↓Qe,Qu,Qv,Qw,Qx,Qy,Qz,QA,QB,QC,QD,QE,QF,QG,QH,QI,QK];first
 | exact ⟨[some 0],rfl,by simp,by simp[HW,BW,SW,AW],.inl (by simp[AW,SW])⟩
def Dr (g:FuncId) (p:Nd->Bool) (l:List Nd) (full:Bool) (x:D) (hl:l.length<=1000000000) (hp:∀ c∈l,Ctr TP G g [.d (NdD c),.ptr 0 0] [.box [.d x]] (.d (.bool (p c))) [.box [.d x]]) :
  Ctr TP G 28 [.d (NdS l full),.fn (.func g) [] [.ptr 0 0]] [.box [.d x]] (.d (.bool (l.any p))) [.box [.d x]]:=by
 refine Ctr.body (M:=M0) Al Tryz.func28 rfl go28 ?_;simp(disch:=(try simp only[Ad]);omega)only[Tryz.f28,↓Ac,Ae,↓reduceIte,↓reduceDIte,↓Qe,Qu,Qv,Qw,Qx,Qy,Qz,QA,QB,QC,QD,QE,QF,QG,QH,QI,QK];refine Ab.by (K9 g p l false _ x rfl hl hp) (by rfl) (by rfl) (by simp) ?_;have hi:=HR (p:=p) l 0 (Aed _);generalize ixF p l 0=q at *;rcases (by omega:0<=q\/q<0) with h | h
 ·rw[hi.1 h];simp(disch:=(try simp only[Ad]);omega)only[↓Ac,Ae,↓reduceIte,↓reduceDIte,↓Qe,Qu,Qv,Qw,Qx,Qy,Qz,QA,QB,QC,QD,QE,QF,QG,QH,QI,QK];exact ⟨[some 0],rfl,by simp,by simp[HW,BW,SW,AW],.inl (by simp[AW,SW])⟩
 have:l.any p=false:=by cases hx:l.any p with
  | false=>rfl
  | true=>have:=hi.2 hx;omega
 rw[this];simp(disch:=(try simp only[Ad]);omega)only[↓Ac,Ae,↓reduceIte,↓reduceDIte,↓Qe,Qu,Qv,Qw,Qx,Qy,Qz,QA,QB,QC,QD,QE,QF,QG,QH,QI,QK];exact ⟨[some 0],rfl,by simp,by simp[HW,BW,SW,AW],.inl (by simp[AW,SW])⟩
end
section
open Go Go.Proofs Go.Abs
variable {G:Ah}
def Ks (hT:HT G) (hG:Num.HG G):∀ (N:Nat) (n:Nd),nsz n<=N->szN n->∀ a:Nat,a<=1000000->Ctr TP G 42 [.d (NdD n),.d (.int .i64 a)] [] (.d (.bool (Bg n a))) []
 | 0,n,hN,_,_,_=>by have:=CY n;omega
 | N+1,n,hN,hz,a,ha=>by
   have hk:=T2 (G:=G) hT n hz;have hsc:=Pv (G:=G) hT hG n (by cases n;exact hz.1);have hnz:=DF n;obtain ⟨k,t,ks,l⟩:=n;obtain ⟨s1,s2,s3,s4,s5⟩:=hz;replace hnz:nsz (.mk k t ks l)=1+Ce l:=hnz;replace hk:Ctr TP G 74 [.d (NdD (.mk k t ks l))] [] (.d (.bool (Fa k ks l.length))) []:=hk;replace hsc:Ctr TP G 73 [.d (NdD (.mk k t ks l))] [] (.d (.bool (Db k t))) []:=hsc;have ih:∀ c∈l,∀ b:Nat,b<=1000000->Ctr TP G 42 [.d (NdD c),.d (.int .i64 b)] [] (.d (.bool (Bg c b))) []:=fun c hc b hb =>Ks hT hG N c (by have:=DG hc;omega) (I8 s5 c hc) b hb
   obtain ⟨r,hr⟩:∃ r,r=Bg (.mk k t ks l) a:=⟨_,rfl⟩;rw[<-hr];rw[Bg] at hr;refine Ctr.pure (M:=M0) Al Tryz.func42 rfl go42 ?_;by_cases kr:1<=k/\k<=6
   ·rw[decide_eq_true kr,AbO] at hr;by_cases a16:a<16
    ·rw[decide_eq_true a16,AbO] at hr;have hv1:∀ c∈l,Ctr TP G 75 [.d (NdD c),.ptr 0 0] [.box [.d (.int .i64 a)]] (.d (.bool (!Bg c (a+1)))) [.box [.d (.int .i64 a)]]:=by
      intro c hc;have ihc:=ih c hc (a+1) (by omega);generalize Bg c (a+1)=z at *;obtain ⟨ck,ct,cks,cl⟩:=c;refine Ctr.body (M:=M0) Al Tryz.func75 rfl go75 ?_;simp(disch:=(try simp only[Ad]);omega)only[Ag,ndC,Tryz.f75,↓Ac,Ae,↓reduceIte,↓reduceDIte,↓Qe,Qu,Qv,Qw,Qx,Qy,Qz,QA,QB,QC,QD,QE,QF,QG,QH,QI,QK];first
      | (refine Ab.of ihc (by rfl) ?_)
      simp(disch:=(try simp only[Ad]);omega)only[Ag,↓Ac,Ae,↓reduceIte,↓reduceDIte,↓Qe,Qu,Qv,Qw,Qx,Qy,Qz,QA,QB,QC,QD,QE,QF,QG,QH,QI,QK];first
      | exact ⟨[some 0],rfl,by simp,by simp[HW,BW,SW,AW],.inl (by simp[AW,SW])⟩
     by_cases k5:k=5
     ·subst k5;rw[decide_eq_true (Or.inl rfl)] at hr;simp(disch:=(try simp only[Ad]);omega)only[Ag,ndC,Tryz.f42,↓Ac,Ae,↓reduceIte,↓reduceDIte,↓Qe,Qu,Qv,Qw,Qx,Qy,Qz,QA,QB,QC,QD,QE,QF,QG,QH,QI,QK];refine Ab.of hsc (by rfl) ?_;cases e1:Db 5 t
      ·rw[e1,AbP] at hr;subst hr;simp(disch:=(try simp only[Ad]);omega)only[Ag,↓Ac,Ae,↓reduceIte,↓reduceDIte,↓Qe,Qu,Qv,Qw,Qx,Qy,Qz,QA,QB,QC,QD,QE,QF,QG,QH,QI,QK];first
       | done
       | rfl
      rw[e1,AbO] at hr;simp(disch:=(try simp only[Ad]);omega)only[Ag,↓Ac,Ae,↓reduceIte,↓reduceDIte,↓Qe,Qu,Qv,Qw,Qx,Qy,Qz,QA,QB,QC,QD,QE,QF,QG,QH,QI,QK];refine Ab.of hk (by rfl) ?_;cases e2:Fa 5 ks l.length
      ·rw[e2,AbP] at hr;subst hr;simp(disch:=(try simp only[Ad]);omega)only[Ag,↓Ac,Ae,↓reduceIte,↓reduceDIte,↓Qe,Qu,Qv,Qw,Qx,Qy,Qz,QA,QB,QC,QD,QE,QF,QG,QH,QI,QK];first
       | done
       | rfl
      rw[e2,AbO] at hr;simp(disch:=(try simp only[Ad]);omega)only[Ag,↓Ac,Ae,↓reduceIte,↓reduceDIte,↓Qe,Qu,Qv,Qw,Qx,Qy,Qz,QA,QB,QC,QD,QE,QF,QG,QH,QI,QK];rw[AdM,AbO] at hr;refine Ab.by (Dr 75 (fun n=>!Bg n (a+1)) l false (.int .i64 a) (by omega) hv1) (by rfl) (by rfl) (by simp) ?_;have hany:=HN l (a+1);rw[<-hany] at hr;generalize (l.any fun n=>!Bg n (a+1))=z at *;subst hr;simp(disch:=(try simp only[Ad]);omega)only[Ag,↓Ac,Ae,↓reduceIte,↓reduceDIte,↓Qe,Qu,Qv,Qw,Qx,Qy,Qz,QA,QB,QC,QD,QE,QF,QG,QH,QI,QK];first
      | done
      | rfl
     by_cases k6:k=6
     ·subst k6;rw[decide_eq_true (Or.inr rfl)] at hr;simp(disch:=(try simp only[Ad]);omega)only[Ag,ndC,Tryz.f42,↓Ac,Ae,↓reduceIte,↓reduceDIte,↓Qe,Qu,Qv,Qw,Qx,Qy,Qz,QA,QB,QC,QD,QE,QF,QG,QH,QI,QK];refine Ab.of hsc (by rfl) ?_;cases e1:Db 6 t
      ·rw[e1,AbP] at hr;subst hr;simp(disch:=(try simp only[Ad]);omega)only[Ag,↓Ac,Ae,↓reduceIte,↓reduceDIte,↓Qe,Qu,Qv,Qw,Qx,Qy,Qz,QA,QB,QC,QD,QE,QF,QG,QH,QI,QK];first
       | done
       | rfl
      rw[e1,AbO] at hr;simp(disch:=(try simp only[Ad]);omega)only[Ag,↓Ac,Ae,↓reduceIte,↓reduceDIte,↓Qe,Qu,Qv,Qw,Qx,Qy,Qz,QA,QB,QC,QD,QE,QF,QG,QH,QI,QK];refine Ab.of hk (by rfl) ?_;cases e2:Fa 6 ks l.length
      ·rw[e2,AbP] at hr;subst hr;simp(disch:=(try simp only[Ad]);omega)only[Ag,↓Ac,Ae,↓reduceIte,↓reduceDIte,↓Qe,Qu,Qv,Qw,Qx,Qy,Qz,QA,QB,QC,QD,QE,QF,QG,QH,QI,QK];first
       | done
       | rfl
      rw[e2,AbO] at hr;simp(disch:=(try simp only[Ad]);omega)only[Ag,↓Ac,Ae,↓reduceIte,↓reduceDIte,↓Qe,Qu,Qv,Qw,Qx,Qy,Qz,QA,QB,QC,QD,QE,QF,QG,QH,QI,QK];rw[AdM,AbO] at hr;refine Ab.by (Dr 75 (fun n=>!Bg n (a+1)) l false (.int .i64 a) (by omega) hv1) (by rfl) (by rfl) (by simp) ?_;have hany:=HN l (a+1);rw[<-hany] at hr;generalize (l.any fun n=>!Bg n (a+1))=z at *;subst hr;simp(disch:=(try simp only[Ad]);omega)only[Ag,↓Ac,Ae,↓reduceIte,↓reduceDIte,↓Qe,Qu,Qv,Qw,Qx,Qy,Qz,QA,QB,QC,QD,QE,QF,QG,QH,QI,QK];first
      | done
      | rfl
     rw[decide_eq_false (show ¬(k=5\/k=6) by omega)] at hr;simp(disch:=(try simp only[Ad]);omega)only[Ag,ndC,k5,k6,Tryz.f42,↓Ac,Ae,↓reduceIte,↓reduceDIte,↓Qe,Qu,Qv,Qw,Qx,Qy,Qz,QA,QB,QC,QD,QE,QF,QG,QH,QI,QK];refine Ab.of hsc (by rfl) ?_;cases e1:Db k t
     ·rw[e1,AbP] at hr;subst hr;simp(disch:=(try simp only[Ad]);omega)only[Ag,↓Ac,Ae,↓reduceIte,↓reduceDIte,↓Qe,Qu,Qv,Qw,Qx,Qy,Qz,QA,QB,QC,QD,QE,QF,QG,QH,QI,QK];first
      | done
      | rfl
     rw[e1,AbO] at hr;simp(disch:=(try simp only[Ad]);omega)only[Ag,↓Ac,Ae,↓reduceIte,↓reduceDIte,↓Qe,Qu,Qv,Qw,Qx,Qy,Qz,QA,QB,QC,QD,QE,QF,QG,QH,QI,QK];refine Ab.of hk (by rfl) ?_;cases e2:Fa k ks l.length
     ·rw[e2,AbP] at hr;subst hr;simp(disch:=(try simp only[Ad]);omega)only[Ag,↓Ac,Ae,↓reduceIte,↓reduceDIte,↓Qe,Qu,Qv,Qw,Qx,Qy,Qz,QA,QB,QC,QD,QE,QF,QG,QH,QI,QK];first
      | done
      | rfl
     rw[e2,AbO] at hr;simp(disch:=(try simp only[Ad]);omega)only[Ag,↓Ac,Ae,↓reduceIte,↓reduceDIte,↓Qe,Qu,Qv,Qw,Qx,Qy,Qz,QA,QB,QC,QD,QE,QF,QG,QH,QI,QK];by_cases e3:l.length=0
     ·rw[decide_eq_true e3,Bool.or_true,AbO] at hr;simp(disch:=(try simp only[Ad]);omega)only[Ag,e3,↓Ac,Ae,↓reduceIte,↓reduceDIte,↓Qe,Qu,Qv,Qw,Qx,Qy,Qz,QA,QB,QC,QD,QE,QF,QG,QH,QI,QK];refine Ab.by (Dr 75 (fun n=>!Bg n (a+1)) l false (.int .i64 a) (by omega) hv1) (by rw[show NdS l false=.sl 0 false (A0 l) by rw[<-e3]]) (by rfl) (by simp) ?_;have hany:=HN l (a+1);rw[<-hany] at hr;generalize (l.any fun n=>!Bg n (a+1))=z at *;subst hr;simp(disch:=(try simp only[Ad]);omega)only[Ag,↓Ac,Ae,↓reduceIte,↓reduceDIte,↓Qe,Qu,Qv,Qw,Qx,Qy,Qz,QA,QB,QC,QD,QE,QF,QG,QH,QI,QK];first
      | done
      | rfl
     rw[decide_eq_false e3,Bool.or_false,AbP] at hr;subst hr;simp(disch:=(try simp only[Ad]);omega)only[Ag,e3,↓Ac,Ae,↓reduceIte,↓reduceDIte,↓Qe,Qu,Qv,Qw,Qx,Qy,Qz,QA,QB,QC,QD,QE,QF,QG,QH,QI,QK];first
     | done
     | rfl
    rw[decide_eq_false a16,AbP] at hr;subst hr;simp(disch:=(try simp only[Ad]);omega)only[Ag,ndC,Tryz.f42,↓Ac,Ae,↓reduceIte,↓reduceDIte,↓Qe,Qu,Qv,Qw,Qx,Qy,Qz,QA,QB,QC,QD,QE,QF,QG,QH,QI,QK];first
    | done
    | rfl
   rw[decide_eq_false kr,AbP] at hr;subst hr;rcases (by omega:k<1\/6<k) with h | h
   ·simp(disch:=(try simp only[Ad]);omega)only[Ag,ndC,Tryz.f42,↓Ac,Ae,↓reduceIte,↓reduceDIte,↓Qe,Qu,Qv,Qw,Qx,Qy,Qz,QA,QB,QC,QD,QE,QF,QG,QH,QI,QK];first
    | done
    | rfl
   simp(disch:=(try simp only[Ad]);omega)only[Ag,ndC,Tryz.f42,↓Ac,Ae,↓reduceIte,↓reduceDIte,↓Qe,Qu,Qv,Qw,Qx,Qy,Qz,QA,QB,QC,QD,QE,QF,QG,QH,QI,QK];first
   | done
   | rfl
def MR:B0:=fun k=>Ad2 k 4000059 || (Ad2 k 4000097 || Ad2 k 4000060)
def WT:MR 4000059=true:=rfl
def WS:MR 4000097=true:=rfl
def WR:MR 4000060=true:=rfl
def UF {k:Nat} (h:¬(k=4000059\/k=4000097\/k=4000060)):MR k=false:=by
 cases e:MR k with
 | false=>rfl
 | true =>
  unfold MR at e;simp only[AdP] at e;rcases e with e | e | e
  ·exact absurd (.inl (Ac8 e)) h
  ·exact absurd (.inr (.inl (Ac8 e))) h
  exact absurd (.inr (.inr (Ac8 e))) h
abbrev ndB (n:Nd):Aa:=.box ((ndC n).map .d)
def Aax (L:Rl->Nat) (s:Ly) (H:List Aa) (l:List Nd) (front:List UInt8) (ks:List (List UInt8)) (k:Nat) (x:(Rl->Nat) × List Aa):Prop :=
 BB x.1 (s.kid l front ks k) x.2/\CI L s H x.1 (s.kid l front ks k) x.2/\NoX x.2
def RecT (G:Ah) (l:List Nd) (front:List UInt8) (ks:List (List UInt8)) (k:Nat) (x y:(Rl->Nat) × List Aa):Prop :=
 x.2.length+1<=y.2.length /\
 ((l.getD k noN).kind=6->Ctr TP G 59 [.ptr (x.1 (.n 0)) 0,.mp (x.1 (.n 1)),.d (S (front++ks.getD k []++[46])),.d (NdD (l.getD k noN))] (x.2++[ndB (l.getD k noN)]) (.d (.tup [])) y.2) /\
 ((l.getD k noN).kind=5->Ctr TP G 97 [.ptr (x.1 (.n 0)) 0,.d (S (front++ks.getD k [])),.d (NdS (l.getD k noN).kids false)] (x.2++[ndB (l.getD k noN)]) (.d (.tup [])) y.2) /\
 (¬(l.getD k noN).kind=6->¬(l.getD k noN).kind=5->Ctr TP G 60 [.ptr (x.1 (.n 0)) 0,.mp (x.1 (.n 1)),.d (S (front++ks.getD k [])),.d (NdD (l.getD k noN))] (x.2++[ndB (l.getD k noN)]) (.d (.tup [])) y.2)
def Me:∀ (N:Nat) (n:Nd),nsz n<=N->∀ {L:Rl->Nat} {s:Ly} {H:List Aa} {B:Nat} (front:List UInt8),BB L s H->0<s.rows.length->NoX H->GT n->n.kind=6->LyB s B->B+nsz n<=1000000->front.length+200000*nsz n<=1000000000 ->
  ∃ L' H',Ctr TP G 59 [.ptr (L (.n 0)) 0,.mp (L (.n 1)),.d (S front),.d (NdD n)] H (.d (.tup [])) H'/\BB L' (s.parts (Dp n front)) H'/\CI L s H L' (s.parts (Dp n front)) H'/\NoX H'
 | 0,n,hN,L,s,H,B,front,h,hr,h0,hok,h6,hB,hB2,hfr=>by have:=CY n;omega
 | N+1,n,hN,L,s,H,B,front,h,hr,h0,hok,h6,hB,hB2,hfr=>by
   obtain ⟨k6,nt,ks,l⟩:=n;have hk6:k6=6:=h6;subst hk6;rw[XG] at hok;obtain ⟨ok1,ok2,ok3⟩:=hok;have okl:ks.length=l.length:=ok1 rfl;have okk:∀ s∈ks,s.length<=100000:=ok2;have hsz:nsz (.mk 6 nt ks l)=1+Ce l:=rfl;have hll:=ER l;rw[hsz] at hN hB2 hfr;have hst:∀ k,k<l.length->∀ x,Aax L s (H++[ndB (.mk 6 nt ks l)]) l front ks k x->∃ y,RecT G l front ks k x y/\Aax L s (H++[ndB (.mk 6 nt ks l)]) l front ks (k+1) y:=by
    intro k hk x hx;obtain ⟨L1,H1⟩:=x;obtain ⟨i1,i2,i3⟩:=hx;simp only at i1 i2 i3;have i1':=i1.app [ndB (l.getD k noN)];have i2':=CI.app L1 (s.kid l front ks k) H1 [ndB (l.getD k noN)];have i3':NoX (H1++[ndB (l.getD k noN)]):=i3.app (by simp[NoX]);have hrk:(s.kid l front ks k).rows.length=s.rows.length:=s.kid_rows l front ks k;have hbk:=hB.kid l front ks k (by omega);have hbk2:=hB.kid l front ks (k+1) (by omega);have hsucc:=Og hk;have hle:=ZQ l (k+1);have hkm:l.getD k noN∈l:=E1 hk;have hkz:=DF (l.getD k noN);have hkl:=ER (l.getD k noN).kids;have hkey:(ks.getD k []).length<=100000:=okk _ (E1 (by omega));have hlen1:(H1++[ndB (l.getD k noN)]).length=H1.length+1:=(by simp)
    have hsk:=s.kid_succ l front ks k;have hpo:partO (l.getD k noN) (front++ks.getD k [])=if (l.getD k noN).kind=6 then Dp (l.getD k noN) (front++ks.getD k []++[46]) else if (l.getD k noN).kind=5 then [.l (front++ks.getD k []) (l.getD k noN).kids] else [.c (front++ks.getD k []) (B2 (l.getD k noN))]:=rfl
    have hnz:=DG hkm;by_cases c6:(l.getD k noN).kind=6;·rw[if_pos c6] at hpo;obtain ⟨L',H',r1,r2,r3,r4⟩:=Me N (l.getD k noN) (by omega) (B:=B+TQ l k) (front++ks.getD k []++[46]) i1' (by omega) i3' (Mf ok3 _ hkm) c6 hbk (by omega) (by simp only[AbQ,AbR,Adg];omega);rw[hpo] at hsk;rw[<-hsk] at r2 r3;have:=r3.len;exact ⟨(L',H'),⟨by show H1.length+1<=H'.length;omega,fun _=>r1,fun q=>by omega,fun q=>absurd c6 q⟩,r2,i2.trans (i2'.trans r3),r4⟩
    rw[if_neg c6] at hpo;by_cases c5:(l.getD k noN).kind=5;·rw[if_pos c5] at hpo;have hit:=hbk.it (front++ks.getD k []);obtain ⟨L',H',r1,r2,r3,r4⟩:=Yb (G:=G) i1' (by omega) i3' (front++ks.getD k []) (l.getD k noN).kids false ⟨by have:=hbk.lists;omega,hbk.rows⟩ (by omega);rw[hpo,Ly.parts_one] at hsk;have e:(s.kid l front ks k).part (.l (front++ks.getD k []) (l.getD k noN).kids)=(s.kid l front ks k).list (front++ks.getD k []) (l.getD k noN).kids:=rfl;rw[e] at hsk;rw[<-hsk] at r2 r3;have:=r3.len;exact ⟨(L',H'),⟨by show H1.length+1<=H'.length;omega,fun q=>absurd q c6,fun _=>r1,fun _ q=>absurd c5 q⟩,r2,i2.trans (i2'.trans r3),r4⟩
    rw[if_neg c5] at hpo;obtain ⟨L',H',r1,r2,r3,r4⟩:=L0 (G:=G) i1' (by omega) i3' (front++ks.getD k []) (l.getD k noN) ⟨by have:=hbk.paths;omega,hbk.rows⟩ (by simp only[AbQ];omega);rw[hpo,Ly.parts_one] at hsk;have e:(s.kid l front ks k).part (.c (front++ks.getD k []) (B2 (l.getD k noN)))=(s.kid l front ks k).single (front++ks.getD k []) (B2 (l.getD k noN)):=rfl;rw[e] at hsk;rw[<-hsk] at r2 r3;have:=r3.len;exact ⟨(L',H'),⟨by show H1.length+1<=H'.length;omega,fun q=>absurd q c6,fun q=>absurd q c5,fun _ _=>r1⟩,r2,i2.trans (i2'.trans r3),r4⟩
   obtain ⟨f,f0,fI,fT⟩:=JX (Aax L s (H++[ndB (.mk 6 nt ks l)]) l front ks) (RecT G l front ks) l.length (L,H++[ndB (.mk 6 nt ks l)])
    ⟨h.app _,CI.refl _ _ _,h0.app (by simp[NoX])⟩ hst
   have hall:=s.kid_all l front ks okl;have fE:=fI l.length (AbS _);unfold Aax at fE;rw[hall] at fE;refine ⟨(f l.length).1,(f l.length).2,Ctr.bodyI (M:=MR) Al Tryz.func59 rfl go59 fE.2.2.ok ?_,fE.1,(CI.app L s H _).trans fE.2.1,fE.2.2⟩;have nl:=Bc l;have sl:=@strs_length ks;simp(disch:=(try simp only[Ad]);omega)only[Ag,Tryz.f59,UF,nl,sl,ndC,AG,↓Ac,Ae,↓reduceIte,↓reduceDIte,↓Qe,Qu,Qv,Qw,Qx,Qy,Qz,QA,QB,QC,QD,QE,QF,QG,QH,QI,QK];refine As.frI 12423 (α:=Nat) (fun k=>l.length-k) (fun k=>[(14,.d (.int .i64 k))]) (fun k=>(f k).2) (fun k=>k<=l.length) 0 (Ac6 _) ?_ ?_
   ·rw[f0];first
    | exact .slots (by simp[sA,kZ,CK])
   intro k hkk;simp only[Cr,AbV,AbY,reduceIte];rcases AbU k l.length with hlt | hge
   ·obtain ⟨t1,t2,t3,t4⟩:=fT k hlt;obtain ⟨i1,i2,i3⟩:=fI k hkk;have hb:(f k).2[H.length]?=some (ndB (.mk 6 nt ks l)):=by
     rw[i2.keep H.length (by simp) (fun a ha=>by have:=h.lt a ha;omega),AR (AbS _),Nat.sub_self];rfl
    have hln:=i2.len;simp only[AbQ,AbR,Adg] at hln;have k0:(f k).1 (.n 0)=L (.n 0):=i2.n0;have k1:(f k).1 (.n 1)=L (.n 1):=i2.n1;rw[k0,k1] at t2 t4;rw[k0] at t3;have g:=Dg hlt;have gk:=strs_getD (l:=ks) (i:=k) (by omega);have hkey:(ks.getD k []).length<=100000:=okk _ (E1 (by omega));generalize hHk:(f k).2=Hk at *;generalize hkd:l.getD k noN=kd at *;obtain ⟨ka,kb,kc,kl⟩:=kd;generalize ks.getD k []=key at *;have hbb:Hk[H.length]?=some (.box [.d (.int .i64 6),.d (S nt),.d (Ss ks false),.d (NdS l false)]):=hb;by_cases c6:ka=6
    ·subst c6;simp(disch:=(try simp only[Ad]);omega)only[Ag,UF,WT,WS,WR,hbb,g,gk,nl,sl,ndC,AG,↓Ac,Ae,↓reduceIte,↓reduceDIte,↓Qe,Qu,Qv,Qw,Qx,Qy,Qz,QA,QB,QC,QD,QE,QF,QG,QH,QI,QK];rw[AdY] at t2;refine Aq.go (t2 rfl) ⟨.inl rfl,.inl rfl,.inl rfl,.inr (.inr ⟨_,rfl,rfl,.inl rfl⟩),trivial⟩ (by simp only[AbQ,AbR,Adg];omega) ?_;simp(disch:=(try simp only[Ad]);omega)only[Ag,UF,WT,WS,WR,AG,↓Ac,Ae,↓reduceIte,↓reduceDIte,↓Qe,Qu,Qv,Qw,Qx,Qy,Qz,QA,QB,QC,QD,QE,QF,QG,QH,QI,QK];first
     | exact ⟨k+1,hlt,by simp only;omega,.inl ⟨rfl,by simp[sA,kZ,CK]⟩⟩
    by_cases c5:ka=5
    ·subst c5;simp(disch:=(try simp only[Ad]);omega)only[Ag,UF,WT,WS,WR,hbb,g,gk,nl,sl,ndC,AG,↓Ac,Ae,↓reduceIte,↓reduceDIte,↓Qe,Qu,Qv,Qw,Qx,Qy,Qz,QA,QB,QC,QD,QE,QF,QG,QH,QI,QK];refine Aq.go (t3 rfl) ⟨.inl rfl,.inl rfl,.inl rfl,trivial⟩ (by simp only[AbQ,AbR,Adg];omega) ?_;simp(disch:=(try simp only[Ad]);omega)only[Ag,UF,WT,WS,WR,AG,↓Ac,Ae,↓reduceIte,↓reduceDIte,↓Qe,Qu,Qv,Qw,Qx,Qy,Qz,QA,QB,QC,QD,QE,QF,QG,QH,QI,QK];first
     | exact ⟨k+1,hlt,by simp only;omega,.inl ⟨rfl,by simp[sA,kZ,CK]⟩⟩
    simp(disch:=(try simp only[Ad]);omega)only[Ag,UF,WT,WS,WR,c6,c5,hbb,g,gk,nl,sl,ndC,AG,↓Ac,Ae,↓reduceIte,↓reduceDIte,↓Qe,Qu,Qv,Qw,Qx,Qy,Qz,QA,QB,QC,QD,QE,QF,QG,QH,QI,QK];refine Aq.go (t4 c6 c5) ⟨.inl rfl,.inl rfl,.inl rfl,.inr (.inr ⟨_,rfl,rfl,.inl rfl⟩),trivial⟩ (by simp only[AbQ,AbR,Adg];omega) ?_;simp(disch:=(try simp only[Ad]);omega)only[Ag,UF,WT,WS,WR,AG,↓Ac,Ae,↓reduceIte,↓reduceDIte,↓Qe,Qu,Qv,Qw,Qx,Qy,Qz,QA,QB,QC,QD,QE,QF,QG,QH,QI,QK];first
    | exact ⟨k+1,hlt,by simp only;omega,.inl ⟨rfl,by simp[sA,kZ,CK]⟩⟩
   obtain rfl:k=l.length:=by omega
   simp(disch:=(try simp only[Ad]);omega)only[Ag,nl,↓Ac,Ae,↓reduceIte,↓reduceDIte,↓Qe,Qu,Qv,Qw,Qx,Qy,Qz,QA,QB,QC,QD,QE,QF,QG,QH,QI,QK];first
   | exact RetI.unit
def KC (L:Rl->Nat) (n:Nat):List AV:=(AdC n).map fun i=>.mp (L (.n (8+i)))
def Py (L:Rl->Nat) (n:Nat):(KC L n).length=n:=by simp[KC]
def EZ (L:Rl->Nat) (n N:Nat):Rl->Nat:=Bi (Bi (Bi L 2 (N+1)) 4 (N+4)) (8+n) (N+2)
def BB.newrow {L:Rl->Nat} {s:Ly} {H K:List Aa} (h:BB L s H) {N:Nat} {a:Int} (hN:H.length<=N) (hK:N+4<K.length) (hl:H.length<=K.length)
  (k0:K[L (.n 0)]?=some (.box [.d (.bool s.further),.lsl (N+1) 1 0 (s.above.length+1),.lsl (L (.n 3)) 1 0 s.paths.length,.lsl (N+4) 1 0 (s.rows.length+1),.lsl (L (.n 5)) 1 0 s.lists.length,.mp (L (.n 6)),.mp (L (.n 7))]))
  (k2:K[N+1]?=some (.row false (Au .i64 (s.above++[a])))) (k4:K[N+4]?=some (.box (KC L s.rows.length++[.mp (N+2)]))) (k8:K[N+2]?=some (.map []))
  (kr:∀ a,Bm s a->a≠.n 0->a≠.n 2->a≠.n 4->K[L a]?=H[L a]?):BB (EZ L s.rows.length N) (s.row a) K:=by
 have ok:∀ k,k<8+s.rows.length->Bm s (.n k):=fun k hk=>hk;have ne:∀ {k j:Nat},k≠j->Rl.n k≠Rl.n j:=fun h e=>h (by cases e;rfl);have s2:EZ L s.rows.length N (.n 2)=N+1:=by unfold EZ;rw[AX _ _ (by omega),AX _ _ (by decide),Da]
 have s4:EZ L s.rows.length N (.n 4)=N+4:=by unfold EZ;rw[AX _ _ (by omega),Da]
 have s8:EZ L s.rows.length N (.n (8+s.rows.length))=N+2:=by unfold EZ;rw[Da]
 have sk:∀ k,k≠2->k≠4->k≠8+s.rows.length->EZ L s.rows.length N (.n k)=L (.n k):=fun k h2 h4 h8=>by unfold EZ;rw[AX _ _ h8,AX _ _ h4,AX _ _ h2]
 have get:∀ k,k<8+s.rows.length->k≠0->k≠2->k≠4->K[EZ L s.rows.length N (.n k)]?=H[L (.n k)]?:=fun k hk h0 h2 h4=>by rw[sk k h2 h4 (by omega)];exact kr _ (ok k hk) (ne h0) (ne h2) (ne h4)
 have lr:(s.row a).rows.length=s.rows.length+1:=by simp[Ly.row]
 have key:∀ x,Bm (s.row a) x->(x=.n 2/\EZ L s.rows.length N x=N+1)\/(x=.n 4/\EZ L s.rows.length N x=N+4)\/(x=.n (8+s.rows.length)/\EZ L s.rows.length N x=N+2) \/
   (x≠.n 2/\x≠.n 4/\x≠.n (8+s.rows.length)/\Bm s x/\EZ L s.rows.length N x=L x/\L x<H.length):=by
  intro x hx;cases x with
  | n k =>
   have hk:k<8+(s.row a).rows.length:=hx;rw[lr] at hk;by_cases e2:k=2;·subst e2;exact .inl ⟨rfl,s2⟩
   by_cases e4:k=4;·subst e4;exact .inr (.inl ⟨rfl,s4⟩)
   by_cases e8:k=8+s.rows.length;·subst e8;exact .inr (.inr (.inl ⟨rfl,s8⟩))
   have hk':Bm s (.n k):=ok k (by omega);exact .inr (.inr (.inr ⟨ne e2,ne e4,ne e8,hk',sk k e2 e4 e8,h.lt _ hk'⟩))
  | i q=>exact .inr (.inr (.inr ⟨by simp,by simp,by simp,hx,rfl,h.lt (.i q) hx⟩))
 refine ⟨fun x y hx hy e=>?_,fun x hx=>?_,?_,?_,?_,?_,?_,?_,?_,?_,?_,?_⟩
 ·rcases key x hx with ⟨a1,a2⟩ | ⟨a1,a2⟩ | ⟨a1,a2⟩ | ⟨_,_,_,a4,a5,a6⟩<;>rcases key y hy with ⟨b1,b2⟩ | ⟨b1,b2⟩ | ⟨b1,b2⟩ | ⟨_,_,_,b4,b5,b6⟩ <;>
   first
    | (rw[a1,b1];done)
    | omega
    | exact h.inj x y a4 b4 (by rw[<-a5,<-b5];exact e)
 ·rcases key x hx with ⟨a1,a2⟩ | ⟨a1,a2⟩ | ⟨a1,a2⟩ | ⟨_,_,_,a4,a5,a6⟩<;>omega
 ·rw[sk 0 (by decide) (by decide) (by omega),s2,sk 3 (by decide) (by decide) (by omega),s4,sk 5 (by decide) (by decide) (by omega),sk 6 (by decide) (by decide) (by omega),sk 7 (by decide) (by decide) (by omega),k0,lr];simp[Ly.row]
 ·rw[get 1 (by omega) (by decide) (by decide) (by decide)];exact h.seen
 ·rw[s2];exact k2
 ·rw[get 3 (by omega) (by decide) (by decide) (by decide)];exact h.paths
 ·rw[s4,k4,lr];unfold Je KC;rw[if_neg (by omega),Ad7,Ad6,Adt,Adh,s8];congr 3;refine List.map_congr_left fun i hi=>?_;have:=List.mem_range.1 hi;rw[sk _ (by omega) (by omega) (by omega)]
 ·rw[get 5 (by omega) (by decide) (by decide) (by decide)];exact h.lists
 ·rw[get 6 (by omega) (by decide) (by decide) (by decide)];exact h.items
 ·rw[get 7 (by omega) (by decide) (by decide) (by decide)];exact h.sev
 ·intro i hi;by_cases e:i=s.rows.length
  ·subst e;refine ⟨[],by rw[s8];exact k8,Ht.nil,fun p=>?_⟩;have e1:(s.row a).rows[s.rows.length]=fun _=>none:=by
    simp only[Ly.row];rw[List.getElem_append_right (AbS _)];simp
   rw[IZ,e1];rfl
  have hi':i<s.rows.length:=by rw[lr] at hi;omega
  have e1:(s.row a).rows[i]=s.rows[i]:=by simp only[Ly.row];rw[List.getElem_append_left hi']
  rw[get (8+i) (by omega) (by omega) (by omega) (by omega),e1];exact h.row i hi'
 intro q hq;have e:K[L (.i q)]?=H[L (.i q)]?:=kr (.i q) hq (by simp) (by simp) (by simp);show K[L (.i q)]?=_
 rw[e];exact h.item q hq
def XA {L:Rl->Nat} {s:Ly} {H:List Aa} {N:Nat} {a:Int} (hN:H.length<=N) {x:Rl} (hx:Bm (s.row a) x):(∃ b,Bm s b/\L b=EZ L s.rows.length N x)\/H.length<=EZ L s.rows.length N x:=by
 cases x with
 | n k =>
  have hk:k<8+(s.row a).rows.length:=hx;simp only[Ly.row,AbQ,AbR,Adg] at hk;unfold EZ;by_cases e8:k=8+s.rows.length;·subst e8;rw[Da];exact .inr (by omega)
  rw[AX _ _ e8];by_cases e4:k=4;·subst e4;rw[Da];exact .inr (by omega)
  rw[AX _ _ e4];by_cases e2:k=2;·subst e2;rw[Da];exact .inr (by omega)
  rw[AX _ _ e2];exact .inl ⟨.n k,by show k<8+s.rows.length;omega,rfl⟩
 | i q=>exact .inl ⟨.i q,hx,rfl⟩
def Fo (L:Rl->Nat) (s:Ly) (H:List Aa) (e:Elm):List Aa :=
 ((((H.set (L (.n 2)) .dead).set (L (.n 0)) (.box [.d (.bool s.further),.lsl (H.length+2) 1 0 (s.above.length+1),.lsl (L (.n 3)) 1 0 s.paths.length,.lsl (L (.n 4)) 1 0 s.rows.length,.lsl (L (.n 5)) 1 0 s.lists.length,.mp (L (.n 6)),.mp (L (.n 7))])).set (L (.n 4)) .dead).set (L (.n 0))
  (.box [.d (.bool s.further),.lsl (H.length+2) 1 0 (s.above.length+1),.lsl (L (.n 3)) 1 0 s.paths.length,.lsl (H.length+5) 1 0 (s.rows.length+1),.lsl (L (.n 5)) 1 0 s.lists.length,.mp (L (.n 6)),.mp (L (.n 7))])) ++
  [.box ((DZ e).map .d),.row false (Au .i64 [e.1]),.row false (Au .i64 (s.above++[e.1])),.map [],.box [.mp (H.length+3)],.box (KC L s.rows.length++[.mp (H.length+3)])]
def E5 (L:Rl->Nat) (s:Ly) (H:List Aa) (e:Elm):(Fo L s H e).length=H.length+6:=by simp[Fo]
def XC {L:Rl->Nat} {s:Ly} {H:List Aa} (h:BB L s H) (e:Elm):BB (EZ L s.rows.length (H.length+1)) (s.row e.1) (Fo L s H e)/\CI L s H (EZ L s.rows.length (H.length+1)) (s.row e.1) (Fo L s H e):=by
 have ok:∀ k,k<8+s.rows.length->Bm s (.n k):=fun k hk=>hk;have l0:=h.lt _ (ok 0 (by omega));have hlen:=E5 L s H e;constructor
 ·refine h.newrow (N:=H.length+1) (by omega) (by omega) (by omega) ?_ ?_ ?_ ?_ fun a ha a0 a2 a4=>?_;·unfold Fo;rw[Az (by simpa using l0),Bt (by simpa using l0)]
  ·show (Fo L s H e)[H.length+2]?=_
   unfold Fo;rw[AR (by simp)];simp
  ·show (Fo L s H e)[H.length+5]?=_
   unfold Fo;rw[AR (by simp)];simp
  ·show (Fo L s H e)[H.length+3]?=_
   unfold Fo;rw[AR (by simp)];simp
  have la:=h.lt a ha;unfold Fo;rw[Az (by simpa using la),Ao (h.ne (ok 0 (by omega)) ha (Ne.symm a0)),Ao (h.ne (ok 4 (by omega)) ha (Ne.symm a4)),Ao (h.ne (ok 0 (by omega)) ha (Ne.symm a0)),Ao (h.ne (ok 2 (by omega)) ha (Ne.symm a2))]
 refine ⟨?_,?_,by omega,fun i hi hr=>?_,fun x hx=>XA (a:=e.1) (by omega) hx⟩;·unfold EZ;rw[AX _ _ (by omega),AX _ _ (by decide),AX _ _ (by decide)]
 ·unfold EZ;rw[AX _ _ (by omega),AX _ _ (by decide),AX _ _ (by decide)]
 unfold Fo;rw[Az (by simpa using hi),Ao (hr _ (ok 0 (by omega))),Ao (hr _ (ok 4 (by omega))),Ao (hr _ (ok 0 (by omega))),Ao (hr _ (ok 2 (by omega)))]
def XB {L:Rl->Nat} {s:Ly} {H:List Aa} (h:NoX H) (e:Elm):NoX (Fo L s H e):=by unfold Fo;exact ((((h.set _ (by simp)).set _ (by simp)).set _ (by simp)).set _ (by simp)).app (by simp[NoX])
def MG:B0:=fun k=>Ad2 k 2000042 || (Ad2 k 4000059 || Ad2 k 4000060)
def Lq:MG 2000042=true:=rfl
def Tf:MG 4000059=true:=rfl
def Te:MG 4000060=true:=rfl
def Lp {k:Nat} (h:¬(k=2000042\/k=4000059\/k=4000060)):MG k=false:=by
 cases e:MG k with
 | false=>rfl
 | true =>
  unfold MG at e;simp only[AdP] at e;rcases e with e | e | e
  ·exact absurd (.inl (Ac8 e)) h
  ·exact absurd (.inr (.inl (Ac8 e))) h
  exact absurd (.inr (.inr (Ac8 e))) h
def gK (recs further:Bool) (l:List Elm) (k:Nat):Ly:=(l.take k).foldl (Ly.elm recs) (ly0 further)
def HU (recs further:Bool) (l:List Elm) {k:Nat} (h:k<l.length):gK recs further l (k+1)=(gK recs further l k).elm recs (l.getD k noE):=by unfold gK;rw[Ac7,AbH h,List.foldl_append,AbM,AbH h];rfl
def Yn (further:Bool) (l:List Elm):gK (!l.any CE) further l l.length=AL further l:=by unfold gK AL;rw[Adu]
def CJ:List Elm->Nat
 | []=>0
 | e::r=>nsz e.2+CJ r
def Hd:∀ l:List Elm,l.length<=CJ l
 | []=>AbS _
 | e::r=>by have:=Hd r;have:=CY e.2;rw[CJ,AbR];omega
def M4 (a b:List Elm):CJ (a++b)=CJ a+CJ b:=by
 induction a with
 | nil=>simp[CJ]
 | cons x r ih=>simp only[AdH,CJ,ih];omega
def OB (l:List Elm) (k:Nat):CJ (l.take k)<=CJ l:=by have:=M4 (l.take k) (l.drop k);rw[AdQ] at this;omega
def Kh {l:List Elm} {k:Nat} (h:k<l.length):CJ (l.take (k+1))=CJ (l.take k)+nsz (l.getD k noE).2:=by rw[Ac7,AbH h,M4,AbM,AbH h];simp[CJ]
def LyB.row {s:Ly} {B:Nat} (h:LyB s B) (a:Int) (hr:s.rows.length+1<=1000000000):LyB (s.row a) B:=⟨h.paths,h.lists,by simpa[Ly.row] using hr,h.it⟩
def Ly.elm_rows (recs:Bool) (s:Ly) (e:Elm):(s.elm recs e).rows.length=s.rows.length+1:=by unfold Ly.elm;rw[Ly.parts_rows];simp[Ly.row]
def LyB.elm {s:Ly} {B:Nat} (h:LyB s B) (recs:Bool) (e:Elm) (hr:s.rows.length+1<=1000000000):LyB (s.elm recs e) (B+nsz e.2):=by
 unfold Ly.elm;split;·exact LyB.parts e.2 [] (h.row e.1 hr)
 rw[Ly.parts_one];have:=CY e.2;exact ((h.row e.1 hr).single _ _).mono (by omega)
def HV (recs further:Bool) (l:List Elm):∀ k,k<=l.length->(gK recs further l k).rows.length=k
 | 0,_=>rfl
 | k+1,h=>by rw[HU recs further l (by omega),Ly.elm_rows,HV recs further l k (by omega)]
def PV (recs further:Bool) (l:List Elm) (hl:l.length<=1000000):∀ k,k<=l.length->LyB (gK recs further l k) (CJ (l.take k))
 | 0,_=>⟨Ac6 _,Ac6 _,Ac6 _,fun _=>Ac6 _⟩
 | k+1,h=>by rw[HU recs further l (by omega),Kh (by omega)];exact (PV recs further l hl k (by omega)).elm recs _ (by rw[HV recs further l k (by omega)];omega)
def U2 (L:Rl->Nat) (s:Ly) (H:List Aa) (a k:Int) (t:List UInt8) (ks:List (List UInt8)) (l:List Nd):Fo L s H (a,.mk k t ks l)=((((H.set (L (.n 2)) .dead).set (L (.n 0)) (.box [.d (.bool s.further),.lsl (H.length+2) 1 0 (s.above.length+1),.lsl (L (.n 3)) 1 0 s.paths.length,.lsl (L (.n 4)) 1 0 s.rows.length,.lsl (L (.n 5)) 1 0 s.lists.length,.mp (L (.n 6)),.mp (L (.n 7))])).set (L (.n 4)) .dead).set (L (.n 0)) (.box [.d (.bool s.further),.lsl (H.length+2) 1 0 (s.above.length+1),.lsl (L (.n 3)) 1 0 s.paths.length,.lsl (H.length+5) 1 0 (s.rows.length+1),.lsl (L (.n 5)) 1 0 s.lists.length,.mp (L (.n 6)),.mp (L (.n 7))]))++[.box [.d (.int .i64 a),.d (.int .i64 k),.d (S t),.d (Ss ks false),.d (.sl l.length false (A0 l))],.row false [.int .i64 a],.row false (Au .i64 s.above++[.int .i64 a]),.map [],.box [.mp (H.length+3)],.box (KC L s.rows.length++[.mp (H.length+3)])]:=by unfold Fo;simp[DZ,ndC,Au]
def XD (L:Rl->Nat) (s:Ly) (H:List Aa) (a k:Int) (t:List UInt8) (ks:List (List UInt8)) (l:List Nd) (hn:s.rows.length=0):Fo L s H (a,.mk k t ks l)=((((H.set (L (.n 2)) .dead).set (L (.n 0)) (.box [.d (.bool s.further),.lsl (H.length+2) 1 0 (s.above.length+1),.lsl (L (.n 3)) 1 0 s.paths.length,.lsl (L (.n 4)) 1 0 s.rows.length,.lsl (L (.n 5)) 1 0 s.lists.length,.mp (L (.n 6)),.mp (L (.n 7))])).set (L (.n 4)) .dead).set (L (.n 0)) (.box [.d (.bool s.further),.lsl (H.length+2) 1 0 (s.above.length+1),.lsl (L (.n 3)) 1 0 s.paths.length,.lsl (H.length+5) 1 0 1,.lsl (L (.n 5)) 1 0 s.lists.length,.mp (L (.n 6)),.mp (L (.n 7))]))++[.box [.d (.int .i64 a),.d (.int .i64 k),.d (S t),.d (Ss ks false),.d (.sl l.length false (A0 l))],.row false [.int .i64 a],.row false (Au .i64 s.above++[.int .i64 a]),.map [],.box [.mp (H.length+3)],.box [.mp (H.length+3)]]:=by rw[U2];simp[hn,KC]
def Ly.parts_above (s:Ly):∀ l:List Pt,(s.parts l).above=s.above
 | []=>rfl
 | q::r=>by
   have:=Ly.parts_above (s.part q) r;have e:(s.part q).above=s.above:=by
    cases q with
    | c p x=>rfl
    | l p k =>
     show (s.list p k).above=_
     unfold Ly.list;split<;>rfl
   rw[e] at this;exact this
def MV (recs further:Bool) (l:List Elm):∀ k,k<=l.length->(gK recs further l k).above.length=k
 | 0,_=>rfl
 | k+1,h=>by rw[HU recs further l (by omega)];unfold Ly.elm;rw[Ly.parts_above];have:=MV recs further l k (by omega);simp[Ly.row,this]
def Aay (recs further:Bool) (l:List Elm) (k:Nat) (x:(Rl->Nat) × List Aa):Prop:=BB x.1 (gK recs further l k) x.2/\NoX x.2/\x.1 (.n 0)=2/\x.1 (.n 1)=3
def GthT (G:Ah) (recs further:Bool) (l:List Elm) (k:Nat) (x y:(Rl->Nat) × List Aa):Prop :=
 x.2.length+6<=y.2.length /\
 (recs=true->Ctr TP G 59 [.ptr 2 0,.mp 3,.d (S []),.d (NdD (l.getD k noE).2)] (Fo x.1 (gK recs further l k) x.2 (l.getD k noE)) (.d (.tup [])) y.2) /\
 (recs=false->Ctr TP G 60 [.ptr 2 0,.mp 3,.d (S Ii),.d (NdD (l.getD k noE).2)] (Fo x.1 (gK recs further l k) x.2 (l.getD k noE)) (.d (.tup [])) y.2)
def Yk (recs further:Bool) (l:List Elm) (hrec:recs=true->∀ e∈l,e.2.kind=6) (hok:∀ e∈l,GT e.2) (hz:CJ l<=4000) {k:Nat} (hk:k<l.length) {x:(Rl->Nat) × List Aa} (hx:Aay recs further l k x) :
  ∃ y,GthT G recs further l k x y/\Aay recs further l (k+1) y:=by
 obtain ⟨L1,H1⟩:=x;obtain ⟨i1,i2,i3,i4⟩:=hx;simp only at i1 i2 i3 i4;have hlz:=Hd l;have hem:l.getD k noE∈l:=E1 hk;have hsz:=Kh hk;have htk:=OB l (k+1);have hrw:=HV recs further l k (by omega);have hB:=PV recs further l (by omega) k (by omega);obtain ⟨y1,y2⟩:=XC i1 (l.getD k noE);have y3:NoX (Fo L1 (gK recs further l k) H1 (l.getD k noE)):=XB i2 _;have yl:=E5 L1 (gK recs further l k) H1 (l.getD k noE);have z0:=y2.n0;have z1:=y2.n1;rw[i3] at z0;rw[i4] at z1;have hr0:0<((gK recs further l k).row (l.getD k noE).1).rows.length:=by simp[Ly.row]
 have hBr:=hB.row (l.getD k noE).1 (by omega);have hsucc:=HU recs further l hk;generalize hL2:EZ L1 (gK recs further l k).rows.length (H1.length+1)=L2 at *;cases recs with
 | true =>have e1:(gK true further l k).elm true (l.getD k noE)=((gK true further l k).row (l.getD k noE).1).parts (Dp (l.getD k noE).2 []):=rfl;rw[e1] at hsucc;obtain ⟨L',H',r1,r2,r3,r4⟩:=Me (G:=G) _ (l.getD k noE).2 (AbS _) [] y1 hr0 y3 (hok _ hem) (hrec rfl _ hem) hBr (by omega) (by rw[Adg];omega);rw[<-hsucc] at r2 r3;rw[z0,z1] at r1;have:=r3.len;exact ⟨(L',H'),⟨by show H1.length+6<=H'.length;omega,fun _=>r1,fun q=>(by cases q)⟩,r2,r4,r3.n0.trans z0,r3.n1.trans z1⟩
 | false =>have e1:(gK false further l k).elm false (l.getD k noE)=((gK false further l k).row (l.getD k noE).1).single Ii (B2 (l.getD k noE).2):=rfl;rw[e1] at hsucc;obtain ⟨L',H',r1,r2,r3,r4⟩:=L0 (G:=G) y1 hr0 y3 Ii (l.getD k noE).2 ⟨by have:=hBr.paths;omega,hBr.rows⟩ (by simp[Ii]);rw[<-hsucc] at r2 r3;rw[z0,z1] at r1;have:=r3.len;exact ⟨(L',H'),⟨by show H1.length+6<=H'.length;omega,fun q=>(by cases q),fun _=>r1⟩,r2,r4,r3.n0.trans z0,r3.n1.trans z1⟩
def lyL:Rl->Nat
 | .n k=>[2,3,4,5,6,7,0,1].getD k 0
 | .i _=>0
def lyH (further:Bool):List Aa:=[.amap [],.map [],.box [.d (.bool further),.lsl 4 1 0 0,.lsl 5 1 0 0,.lsl 6 1 0 0,.lsl 7 1 0 0,.mp 0,.mp 1],.map [],.row false [],.row false [],.row false [],.row false []]
def ZT (further:Bool):BB lyL (ly0 further) (lyH further):=by
 have key:∀ a,Bm (ly0 further) a->∃ k,k<8/\a=.n k:=fun a ha=>by
  cases a with
  | n k=>exact ⟨k,ha,rfl⟩
  | i q=>exact absurd rfl ha
 refine ⟨fun a b ha hb e=>?_,fun a ha=>?_,rfl,⟨[],rfl,Ht.nil,fun p=>by simp[IZ,ly0]⟩,rfl,rfl,rfl,rfl,⟨[],rfl,Ht.nil,fun p=>by simp[IZ,ly0]⟩,⟨[],rfl,Ht.nil,fun p=>by simp[IZ,ly0]⟩,fun i h=>absurd h (Nat.not_lt_zero _),fun p h=>absurd rfl h⟩
 ·obtain ⟨i,hi,rfl⟩:=key a ha;obtain ⟨j,hj,rfl⟩:=key b hb;have:∀ i,i<8->∀ j,j<8->lyL (.n i)=lyL (.n j)->i=j:=by decide
  rw[this i hi j hj e]
 obtain ⟨i,hi,rfl⟩:=key a ha;have:∀ i,i<8->lyL (.n i)<(lyH further).length:=by have h8:(lyH further).length=8:=rfl;rw[h8];decide
 exact this i hi
def IA (further:Bool) (l:List Elm) (full:Bool) (hok:∀ e∈l,GT e.2) (hz:CJ l<=4000) :
  ∃ L' H',Ctr TP G 32 [.d (.bool further),.d (ElS l full)] [] (.ptr 2 0) H'/\BB L' (AL further l) H'/\NoX H'/\L' (.n 0)=2:=by
 have hlz:=Hd l;have hrec:(!l.any CE)=true->∀ e∈l,e.2.kind=6:=by intro h e he;simp only[AdF,Ad3] at h;have:=h e he;simpa[CE,G4] using this
 obtain ⟨f,f0,fI,fT⟩:=JX (Aay (!l.any CE) further l) (GthT G (!l.any CE) further l) l.length (lyL,lyH further) ⟨ZT further,by simp[NoX,lyH],rfl,rfl⟩ (fun k hk x hx=>Yk _ further l hrec hok hz hk hx);have fE:=fI l.length (AbS _);unfold Aay at fE;rw[Yn] at fE;refine ⟨(f l.length).1,(f l.length).2,Ctr.bodyI (M:=MG) Al Tryz.func32 rfl go32 fE.2.1.ok ?_,fE.1,fE.2.1,fE.2.2.1⟩;have el:=Bu l;simp(disch:=(try simp only[Ad]);omega)only[Ag,Tryz.f32,Lp,Lq,el,↓Ac,Ae,↓reduceIte,↓reduceDIte,↓Qe,Qu,Qv,Qw,Qx,Qy,Qz,QA,QB,QC,QD,QE,QF,QG,QH,QI,QK];refine Ab.of (IJ 58 CE l false (by omega) fun e _=>Sk e) (by rfl) ?_;generalize hrc:(!l.any CE)=recs at *;have hany:l.any CE=!recs:=by rw[<-hrc];simp
 rw[hany];simp(disch:=(try simp only[Ad]);omega)only[Ag,Lp,Lq,el,Bool.not_not,↓Ac,Ae,↓reduceIte,↓reduceDIte,↓Qe,Qu,Qv,Qw,Qx,Qy,Qz,QA,QB,QC,QD,QE,QF,QG,QH,QI,QK];refine As.frI 1573088 (α:=Nat) (fun k=>l.length-k) (fun k=>[(21,.d (.int .i64 k))]) (fun k=>(f k).2) (fun k=>k<=l.length) 0 (Ac6 _) ?_ ?_
 ·rw[f0];unfold lyH;first
  | exact .weak ⟨[some 0,some 1,some 2,some 3,none,none,none,none],rfl,by simp,by simp[sA,kZ,SW,AW],by simp[HW,BW,SW,AW]⟩
 intro k hkk;simp only[Cr,AbV,AbY,reduceIte];rcases AbU k l.length with hlt | hge
 ·obtain ⟨t1,t2,t3⟩:=fT k hlt;obtain ⟨i1,i2,i3,i4⟩:=fI k hkk;have hrw:=HV recs further l k hkk;have hB:=PV recs further l (by omega) k hkk;have htk:=OB l k;have hab:=MV recs further l k hkk;generalize hHk:(f k).2=Hk at *;generalize hLk:(f k).1=Lk at *;generalize hsk:gK recs further l k=sk at *;have ok:∀ j,j<8+sk.rows.length->Bm sk (.n j):=fun j hj=>hj;have q0:=i1.box;have q2:=i1.above;have q4:=i1.rows;rw[i3] at q0;have l0:=i1.lt _ (ok 0 (by omega));have l2:=i1.lt _ (ok 2 (by omega));have l4:=i1.lt _ (ok 4 (by omega));have n02:=i1.ne (ok 0 (by omega)) (ok 2 (by omega)) (by simp);have n04:=i1.ne (ok 0 (by omega)) (ok 4 (by omega)) (by simp);have n24:=i1.ne (ok 2 (by omega)) (ok 4 (by omega)) (by simp);rw[i3] at l0 n02 n04;have al:=@ints_length .i64 sk.above;have g:=Kg hlt;have rl:=Py Lk sk.rows.length;generalize hee:l.getD k noE=ee at *;obtain ⟨ea,ka,kb,kc,kl⟩:=ee;obtain ⟨cf,hcf⟩:=C7 [2,Lk (.n 2),Hk.length,Hk.length+1,Hk.length+2] (by simp only[AdB,AbT,List.not_mem_nil,or_false,not_or,Ad9,and_true,not_false_eq_true];omega);have c0:=hcf 0 _ rfl;have c1:=hcf 1 _ rfl;have c2:=hcf 2 _ rfl;have c3:=hcf 3 _ rfl;have c4:=hcf 4 _ rfl;by_cases hn:sk.rows.length=0
  ·rw[Je,if_pos hn] at q4;simp(disch:=(try simp only[Ad]);omega)only[Ag,Lp,Lq,show FK MG (some 42)=true from rfl,el,g,q0,q2,q4,al,DZ,ndC,AG,↓Ac,Ae,↓reduceIte,↓reduceDIte,↓Qe,Qu,Qv,Qw,Qx,Qy,Qz,QA,QB,QC,QD,QE,QF,QG,QH,QI,QK];refine ⟨AD cf (by simp(disch:=omega)only[Bf,AP,AO,Ba,A9,and_self]) (by simp only[Adt,Adh,c0,c1,c2,c3,c4];rfl),?_⟩;have e1:=XD Lk sk Hk ea ka kb kc kl hn;rw[e1,i3] at t2 t3;have hl1:=congrArg List.length e1;rw[E5] at hl1;cases recs with
   | true =>
    simp(disch:=(try simp only[Ad]);omega)only[Ag,Lp,Lq,Tf,Te,DZ,ndC,AG,↓Ac,Ae,↓reduceIte,↓reduceDIte,↓Qe,Qu,Qv,Qw,Qx,Qy,Qz,QA,QB,QC,QD,QE,QF,QG,QH,QI,QK];first
    | refine Aq.go (t2 rfl) ⟨.inl rfl,.inl rfl,.inl rfl,.inr (.inr ⟨_,rfl,rfl,.inl rfl⟩),trivial⟩ (by rw[i3] at hl1;rw[<-hl1];exact t1) ?_
    simp(disch:=(try simp only[Ad]);omega)only[Ag,Lp,Lq,Tf,Te,AG,↓Ac,Ae,↓reduceIte,↓reduceDIte,↓Qe,Qu,Qv,Qw,Qx,Qy,Qz,QA,QB,QC,QD,QE,QF,QG,QH,QI,QK];first
    | exact ⟨k+1,hlt,by simp only;omega,.inl ⟨rfl,by simp[sA,kZ,CK]⟩⟩
   | false =>
    simp(disch:=(try simp only[Ad]);omega)only[Ag,Lp,Lq,Tf,Te,DZ,ndC,AG,↓Ac,Ae,↓reduceIte,↓reduceDIte,↓Qe,Qu,Qv,Qw,Qx,Qy,Qz,QA,QB,QC,QD,QE,QF,QG,QH,QI,QK];first
    | refine Aq.go (t3 rfl) ⟨.inl rfl,.inl rfl,.inl rfl,.inr (.inr ⟨_,rfl,rfl,.inl rfl⟩),trivial⟩ (by rw[i3] at hl1;rw[<-hl1];exact t1) ?_
    simp(disch:=(try simp only[Ad]);omega)only[Ag,Lp,Lq,Tf,Te,AG,↓Ac,Ae,↓reduceIte,↓reduceDIte,↓Qe,Qu,Qv,Qw,Qx,Qy,Qz,QA,QB,QC,QD,QE,QF,QG,QH,QI,QK];first
    | exact ⟨k+1,hlt,by simp only;omega,.inl ⟨rfl,by simp[sA,kZ,CK]⟩⟩
  rw[Je,if_neg hn] at q4;have q4':Hk[Lk (.n 4)]?=some (.box (KC Lk sk.rows.length)):=q4;simp(disch:=(try simp only[Ad]);omega)only[Ag,Lp,Lq,show FK MG (some 42)=true from rfl,el,g,q0,q2,q4',rl,al,DZ,ndC,AG,↓Ac,Ae,↓reduceIte,↓reduceDIte,↓Qe,Qu,Qv,Qw,Qx,Qy,Qz,QA,QB,QC,QD,QE,QF,QG,QH,QI,QK];refine ⟨AD cf (by simp(disch:=omega)only[Bf,AP,AO,Ba,A9,and_self]) (by simp only[Adt,Adh,c0,c1,c2,c3,c4];rfl),?_⟩;have e1:=U2 Lk sk Hk ea ka kb kc kl;rw[e1,i3] at t2 t3;have hl1:=congrArg List.length e1;rw[E5] at hl1;cases recs with
  | true =>
   simp(disch:=(try simp only[Ad]);omega)only[Ag,Lp,Lq,Tf,Te,DZ,ndC,AG,↓Ac,Ae,↓reduceIte,↓reduceDIte,↓Qe,Qu,Qv,Qw,Qx,Qy,Qz,QA,QB,QC,QD,QE,QF,QG,QH,QI,QK];first
   | refine Aq.go (t2 rfl) ⟨.inl rfl,.inl rfl,.inl rfl,.inr (.inr ⟨_,rfl,rfl,.inl rfl⟩),trivial⟩ (by rw[i3] at hl1;rw[<-hl1];exact t1) ?_
   simp(disch:=(try simp only[Ad]);omega)only[Ag,Lp,Lq,Tf,Te,AG,↓Ac,Ae,↓reduceIte,↓reduceDIte,↓Qe,Qu,Qv,Qw,Qx,Qy,Qz,QA,QB,QC,QD,QE,QF,QG,QH,QI,QK];first
   | exact ⟨k+1,hlt,by simp only;omega,.inl ⟨rfl,by simp[sA,kZ,CK]⟩⟩
  | false =>
   simp(disch:=(try simp only[Ad]);omega)only[Ag,Lp,Lq,Tf,Te,DZ,ndC,AG,↓Ac,Ae,↓reduceIte,↓reduceDIte,↓Qe,Qu,Qv,Qw,Qx,Qy,Qz,QA,QB,QC,QD,QE,QF,QG,QH,QI,QK];first
   | refine Aq.go (t3 rfl) ⟨.inl rfl,.inl rfl,.inl rfl,.inr (.inr ⟨_,rfl,rfl,.inl rfl⟩),trivial⟩ (by rw[i3] at hl1;rw[<-hl1];exact t1) ?_
   simp(disch:=(try simp only[Ad]);omega)only[Ag,Lp,Lq,Tf,Te,AG,↓Ac,Ae,↓reduceIte,↓reduceDIte,↓Qe,Qu,Qv,Qw,Qx,Qy,Qz,QA,QB,QC,QD,QE,QF,QG,QH,QI,QK];first
   | exact ⟨k+1,hlt,by simp only;omega,.inl ⟨rfl,by simp[sA,kZ,CK]⟩⟩
 obtain rfl:k=l.length:=by omega
 simp(disch:=(try simp only[Ad]);omega)only[Ag,el,↓Ac,Ae,↓reduceIte,↓reduceDIte,↓Qe,Qu,Qv,Qw,Qx,Qy,Qz,QA,QB,QC,QD,QE,QF,QG,QH,QI,QK];first
 | exact Or.inr ⟨rfl,Or.inl rfl⟩
def R5 (n:Nat) (c:Col):Bool:=Js c.name && (decide (c.cells.length<=4096) && (decide (c.cells.length=n) && c.cells.all Gu))
def Oa (t:Tab):Bool:=XS t.id t.name && (decide (t.cols.length<=64) && t.cols.all (R5 (Ed t)))
def Abf (t:Tab):Prop:=t.name.length<=1000000000/\t.cols.length<=1000000/\∀ c∈t.cols,c.name.length<=1000000000/\c.cells.length<=1000000/\∀ x∈c.cells,x.1.length<=1000000000
def Ug (hT:HT G) (l:List Cel) (full:Bool) (hl:l.length<=1000000000) (hs:∀ c∈l,c.1.length<=1000000000) :
  Ctr TP G 126 [.d (Aaz l full),.d (.fn (.func 127) [] [])] [] (.d (.bool (l.all Gu))) []:=by
 refine Ctr.pure (M:=M0) Al Tryz.func126 rfl AcR ?_;have sl:=BP l;simp(disch:=(try simp only[Ad]);omega)only[Ag,sl,Tryz.f126,↓Ac,Ae,↓reduceIte,↓reduceDIte,↓Qe,Qu,Qv,Qw,Qx,Qy,Qz,QA,QB,QC,QD,QE,QF,QG,QH,QI,QK];refine As.fr 386 (α:=Nat) (fun i=>l.length-i) (fun i=>[(9,.d (.int .i64 i))]) (fun _=>[]) (fun i=>i<=l.length/\l.all Gu=(l.drop i).all Gu) 0 ⟨Ac6 _,rfl⟩ ?_ ?_;·exact ⟨[],rfl,by simp,by simp[sA,kZ,SW,AW],by simp[HW,BW,SW,AW]⟩
 rintro i ⟨h1,h2⟩;simp only[Cr,AbV,AbY,reduceIte];rw[h2];rcases AbU i l.length with h | h
 ·have g:=OW h;have hd:(l.drop i).all Gu=(Gu (l.getD i noC) && (l.drop (i+1)).all Gu):=by
   rw[AdE h,AdV,AbM,AbH h];rfl
  have hm:(l.getD i noC).1.length<=1000000000:=hs _ (E1 h);rw[hd];simp(disch:=(try simp only[Ad]);omega)only[Ag,sl,g,↓Ac,Ae,↓reduceIte,↓reduceDIte,↓Qe,Qu,Qv,Qw,Qx,Qy,Qz,QA,QB,QC,QD,QE,QF,QG,QH,QI,QK];refine Ab.of (LQ hT (l.getD i noC) hm) (by rfl) ?_;cases hx:Gu (l.getD i noC);·simp(disch:=(try simp only[Ad]);omega)only[Ag,↓Ac,Ae,↓reduceIte,↓reduceDIte,↓Qe,Qu,Qv,Qw,Qx,Qy,Qz,QA,QB,QC,QD,QE,QF,QG,QH,QI,QK];first | done | rfl | exact ⟨by rfl,by rfl⟩
  simp(disch:=(try simp only[Ad]);omega)only[Ag,↓Ac,Ae,↓reduceIte,↓reduceDIte,↓Qe,Qu,Qv,Qw,Qx,Qy,Qz,QA,QB,QC,QD,QE,QF,QG,QH,QI,QK];first
  | exact ⟨i+1,⟨h,by rw[h2,hd,hx,AbO]⟩,by simp only;omega,⟨[],rfl,by simp,by simp[sA,kZ,SW,AW],by simp[HW,BW,SW,AW]⟩⟩
  | exact ⟨i+1,⟨h,rfl⟩,by simp only;omega,⟨[],rfl,by simp,by simp[sA,kZ,SW,AW],by simp[HW,BW,SW,AW]⟩⟩
 rw[Adz h];simp(disch:=(try simp only[Ad]);omega)only[Ag,sl,↓Ac,Ae,↓reduceIte,↓reduceDIte,↓Qe,Qu,Qv,Qw,Qx,Qy,Qz,QA,QB,QC,QD,QE,QF,QG,QH,QI,QK];first | done | rfl
def Gk (n:Nat) (c:Col):Bool:=!Js c.name || (decide (¬c.cells.length=n) || !c.cells.all Gu)
abbrev tabB (t:Tab) (f:Bool):Aa:=.box [.d (.int .i64 t.id),.d (S t.name),.d (Th t.cols f)]
def Ry (hT:HT G) (t:Tab) (f:Bool) (ht:Abf t) (c:Col) (hc:c∈t.cols):Ctr TP G 125 [.d (.agg (Zg c)),.ptr 0 0] [tabB t f] (.d (.bool (Gk (Ed t) c))) [tabB t f]:=by
 obtain ⟨h1,h2,h3⟩:=ht;obtain ⟨c1,c2,c3⟩:=h3 c hc;obtain ⟨r,hr⟩:∃ r,r=Gk (Ed t) c:=⟨_,rfl⟩;rw[<-hr];unfold Gk at hr;refine Ctr.body (M:=M0) Al Tryz.func125 rfl AcS ?_;have sl:=BP c.cells;have rs:=N0 (G:=G) t false (by omega) (fun c hc=>by have:=(h3 c hc).2.1;omega);have rn:Ed t<=1000000:=by
  unfold Ed;split;·omega
  rename_i c' r' he;exact (h3 c' (by rw[he];simp)).2.1
 generalize Ed t=n at *;obtain ⟨id,name,cols⟩:=t;obtain ⟨cn,cc⟩:=c;simp(disch:=(try simp only[Ad]);omega)only[Ag,sl,Tryz.f125,↓Ac,Ae,↓reduceIte,↓reduceDIte,↓Qe,Qu,Qv,Qw,Qx,Qy,Qz,QA,QB,QC,QD,QE,QF,QG,QH,QI,QK];refine Ab.pure (Kf hT cn c1) ?_;cases hf:Js cn
 ·rw[hf,AdU,AdM] at hr;subst hr;simp(disch:=(try simp only[Ad]);omega)only[Ag,sl,↓Ac,Ae,↓reduceIte,↓reduceDIte,↓Qe,Qu,Qv,Qw,Qx,Qy,Qz,QA,QB,QC,QD,QE,QF,QG,QH,QI,QK];first
  | exact ⟨[some 0],rfl,by simp,by simp[HW,BW,SW,AW],.inl (by simp[AW,SW])⟩
  | exact ⟨by rfl,⟨[some 0],rfl,by simp,by simp[HW,BW,SW,AW],.inl (by simp[AW,SW])⟩⟩
 rw[hf,AdW,Aeb] at hr;simp(disch:=(try simp only[Ad]);omega)only[Ag,sl,↓Ac,Ae,↓reduceIte,↓reduceDIte,↓Qe,Qu,Qv,Qw,Qx,Qy,Qz,QA,QB,QC,QD,QE,QF,QG,QH,QI,QK];refine Ab.of rs (by rfl) ?_;by_cases hn:cc.length=n
 ·subst hn;rw[decide_eq_false (fun q=>q rfl),Aeb] at hr;simp(disch:=(try simp only[Ad]);omega)only[Ag,sl,↓Ac,Ae,↓reduceIte,↓reduceDIte,↓Qe,Qu,Qv,Qw,Qx,Qy,Qz,QA,QB,QC,QD,QE,QF,QG,QH,QI,QK];refine Ab.of (Ug hT cc false (by omega) (fun x hx=>c3 x hx)) (by rfl) ?_;rw[hr];generalize cc.all Gu=b;cases b
  ·simp(disch:=(try simp only[Ad]);omega)only[Ag,sl,↓Ac,Ae,↓reduceIte,↓reduceDIte,↓Qe,Qu,Qv,Qw,Qx,Qy,Qz,QA,QB,QC,QD,QE,QF,QG,QH,QI,QK];first
   | exact ⟨[some 0],rfl,by simp,by simp[HW,BW,SW,AW],.inl (by simp[AW,SW])⟩
   | exact ⟨by rfl,⟨[some 0],rfl,by simp,by simp[HW,BW,SW,AW],.inl (by simp[AW,SW])⟩⟩
  simp(disch:=(try simp only[Ad]);omega)only[Ag,sl,↓Ac,Ae,↓reduceIte,↓reduceDIte,↓Qe,Qu,Qv,Qw,Qx,Qy,Qz,QA,QB,QC,QD,QE,QF,QG,QH,QI,QK];first
  | exact ⟨[some 0],rfl,by simp,by simp[HW,BW,SW,AW],.inl (by simp[AW,SW])⟩
  | exact ⟨by rfl,⟨[some 0],rfl,by simp,by simp[HW,BW,SW,AW],.inl (by simp[AW,SW])⟩⟩
 rw[decide_eq_true hn,AdM] at hr;subst hr;simp(disch:=(try simp only[Ad]);omega)only[Ag,sl,hn,↓Ac,Ae,↓reduceIte,↓reduceDIte,↓Qe,Qu,Qv,Qw,Qx,Qy,Qz,QA,QB,QC,QD,QE,QF,QG,QH,QI,QK];first
 | exact ⟨[some 0],rfl,by simp,by simp[HW,BW,SW,AW],.inl (by simp[AW,SW])⟩
 | exact ⟨by rfl,⟨[some 0],rfl,by simp,by simp[HW,BW,SW,AW],.inl (by simp[AW,SW])⟩⟩
def Ld (g:FuncId) (p:Col->Bool) (l:List Col) (full:Bool) (fv:AV) (x y z:D) (hf:fv=.fn (.func g) [] [.ptr 0 0]) (hl:l.length<=1000000000) (hp:∀ c∈l,Ctr TP G g [.d (.agg (Zg c)),.ptr 0 0] [.box [.d x,.d y,.d z]] (.d (.bool (p c))) [.box [.d x,.d y,.d z]]) :
  Ctr TP G 164 [.d (Th l full),fv] [.box [.d x,.d y,.d z]] (.d (.int .i64 (ixF p l 0))) [.box [.d x,.d y,.d z]]:=by
 subst hf;refine Ctr.body (M:=M0) Al Tryz.func164 rfl Acs ?_;have sl:=BO l;simp(disch:=(try simp only[Ad]);omega)only[sl,Tryz.f164,↓Ac,Ae,↓reduceIte,↓reduceDIte,↓Qe,Qu,Qv,Qw,Qx,Qy,Qz,QA,QB,QC,QD,QE,QF,QG,QH,QI,QK];refine As.fr 131 (α:=Nat) (fun i=>l.length-i) (fun i=>[(8,.d (.int .i64 i))]) (fun _=>[.box [.d x,.d y,.d z]]) (fun i=>i<=l.length/\ixF p l 0=ixF p (l.drop i) i) 0 ⟨Ac6 _,rfl⟩ ?_ ?_;·exact ⟨[some 0],rfl,by simp,by simp[sA,kZ,SW,AW],by simp[HW,BW,SW,AW]⟩
 rintro i ⟨h1,h2⟩;simp only[Cr,AbV,AbY,reduceIte];rw[h2];rcases AbU i l.length with h | h
 ·have g:=OT h;rw[MN (d:=XY) h];simp(disch:=(try simp only[Ad]);omega)only[sl,g,↓Ac,Ae,↓reduceIte,↓reduceDIte,↓Qe,Qu,Qv,Qw,Qx,Qy,Qz,QA,QB,QC,QD,QE,QF,QG,QH,QI,QK];refine Ab.by (hp _ (E1 h)) (by rfl) (by rfl) (by simp) ?_;cases hx:p (l.getD i XY)
  ·simp(disch:=(try simp only[Ad]);omega)only[↓Ac,Ae,↓reduceIte,↓reduceDIte,↓Qe,Qu,Qv,Qw,Qx,Qy,Qz,QA,QB,QC,QD,QE,QF,QG,QH,QI,QK];first
   | exact ⟨i+1,⟨h,rfl⟩,by simp only;omega,⟨[some 0],rfl,by simp,by simp[sA,kZ,SW,AW],by simp[HW,BW,SW,AW]⟩⟩
  simp(disch:=(try simp only[Ad]);omega)only[↓Ac,Ae,↓reduceIte,↓reduceDIte,↓Qe,Qu,Qv,Qw,Qx,Qy,Qz,QA,QB,QC,QD,QE,QF,QG,QH,QI,QK];first
  | exact ⟨[some 0],rfl,by simp,by simp[HW,BW,SW,AW],.inl (by simp[AW,SW])⟩
 rw[Adz h,show ixF p [] (i:Int)=-1 from rfl];simp(disch:=(try simp only[Ad]);omega)only[↓Ac,Ae,↓reduceIte,↓reduceDIte,↓Qe,Qu,Qv,Qw,Qx,Qy,Qz,QA,QB,QC,QD,QE,QF,QG,QH,QI,QK];first
 | exact ⟨[some 0],rfl,by simp,by simp[HW,BW,SW,AW],.inl (by simp[AW,SW])⟩
def IK (g:FuncId) (p:Col->Bool) (l:List Col) (full:Bool) (x y z:D) (hl:l.length<=1000000000) (hp:∀ c∈l,Ctr TP G g [.d (.agg (Zg c)),.ptr 0 0] [.box [.d x,.d y,.d z]] (.d (.bool (p c))) [.box [.d x,.d y,.d z]]) :
  Ctr TP G 124 [.d (Th l full),.fn (.func g) [] [.ptr 0 0]] [.box [.d x,.d y,.d z]] (.d (.bool (l.any p))) [.box [.d x,.d y,.d z]]:=by
 refine Ctr.body (M:=M0) Al Tryz.func124 rfl AcT ?_;simp(disch:=(try simp only[Ad]);omega)only[Tryz.f124,↓Ac,Ae,↓reduceIte,↓reduceDIte,↓Qe,Qu,Qv,Qw,Qx,Qy,Qz,QA,QB,QC,QD,QE,QF,QG,QH,QI,QK];refine Ab.by (Ld g p l false _ x y z rfl hl hp) (by rfl) (by rfl) (by simp) ?_;have hi:=HR (p:=p) l 0 (Aed _);generalize ixF p l 0=q at *;rcases (by omega:0<=q\/q<0) with h | h
 ·rw[hi.1 h];simp(disch:=(try simp only[Ad]);omega)only[↓Ac,Ae,↓reduceIte,↓reduceDIte,↓Qe,Qu,Qv,Qw,Qx,Qy,Qz,QA,QB,QC,QD,QE,QF,QG,QH,QI,QK];exact ⟨[some 0],rfl,by simp,by simp[HW,BW,SW,AW],.inl (by simp[AW,SW])⟩
 have:l.any p=false:=by cases hx:l.any p with
  | false=>rfl
  | true=>have:=hi.2 hx;omega
 rw[this];simp(disch:=(try simp only[Ad]);omega)only[↓Ac,Ae,↓reduceIte,↓reduceDIte,↓Qe,Qu,Qv,Qw,Qx,Qy,Qz,QA,QB,QC,QD,QE,QF,QG,QH,QI,QK];exact ⟨[some 0],rfl,by simp,by simp[HW,BW,SW,AW],.inl (by simp[AW,SW])⟩
def XQ (t:Tab):Oa t=(XS t.id t.name && (decide (t.cols.length<=64) && (decide (Ed t<=4096) && !t.cols.any (Gk (Ed t))))):=by
 unfold Oa;cases XS t.id t.name;·rfl
 rw[AbO,AbO];cases decide (t.cols.length<=64);·rfl
 rw[AbO,AbO];obtain ⟨id,name,cols⟩:=t;cases cols with
 | nil=>simp[Ed]
 | cons c r =>
  have e1:Ed ⟨id,name,c::r⟩=c.cells.length:=rfl;simp only[e1];generalize hn:c.cells.length=n;by_cases h:n<=4096
  ·rw[decide_eq_true h,AbO,Bool.eq_iff_iff];simp only[List.all_eq_true,AdF,Ad3];constructor;·intro q x hx;have:=q x hx;unfold R5 at this;unfold Gk;simp only[Bool.and_eq_true,decide_eq_true_eq] at this;obtain ⟨q1,q2,q3,q4⟩:=this;rw[q1,q4,decide_eq_false (fun z=>z q3)];decide
   intro q x hx;have:=q x hx;unfold Gk at this;unfold R5;simp only[AdP,AdF,decide_eq_true_eq,not_or,Bool.not_eq_false,Classical.not_not] at this;obtain ⟨q1,q3,q4⟩:=this;rw[q1,q4,decide_eq_true q3,decide_eq_true (by omega)];rfl
  rw[decide_eq_false h,AbP,AdV];have:R5 n c=false:=by unfold R5;rw[decide_eq_false (by omega:¬c.cells.length<=4096)];simp
  rw[this,AbP]
def I2 (hT:HT G) (t:Tab) (full:Bool) (ht:Abf t) (i1:-9223372036854775808<=t.id) (i2:t.id<=9223372036854775807) :
  Ctr TP G 95 [.d (WP t full)] [] (.d (.bool (Oa t))) []:=by
 obtain ⟨h1,h2,h3⟩:=id ht;rw[XQ];obtain ⟨r,hr⟩:∃ r,r=(XS t.id t.name && (decide (t.cols.length<=64) && (decide (Ed t<=4096) && !t.cols.any (Gk (Ed t))))):=⟨_,rfl⟩;rw[<-hr];unfold XS at hr;refine Ctr.pure (M:=M0) Al Tryz.func95 rfl go95 ?_;have rs:=N0 (G:=G) t false (by omega) (fun c hc=>by have:=(h3 c hc).2.1;omega);have rn:Ed t<=1000000:=by
  unfold Ed;split;·omega
  rename_i c' r' he;exact (h3 c' (by rw[he];simp)).2.1
 have cf:=IK (G:=G) 125 (Gk (Ed t)) t.cols false (.int .i64 t.id) (S t.name) (Th t.cols full) (by omega) (fun c hc=>Ry hT t full ht c hc);generalize Ed t=n at *;obtain ⟨id,name,cols⟩:=t;simp only at *;have cl:=BO cols;rcases (by omega:id<0\/1073741824<id\/(0<=id/\id<=1073741824)) with h | h | h
 ·rw[decide_eq_false (by omega),AbP,AbP] at hr;subst hr;simp(disch:=(try simp only[Ad]);omega)only[Ag,cl,Tryz.f95,↓Ac,Ae,↓reduceIte,↓reduceDIte,↓Qe,Qu,Qv,Qw,Qx,Qy,Qz,QA,QB,QC,QD,QE,QF,QG,QH,QI,QK];first | done | rfl | exact ⟨by rfl,by rfl⟩
 ·rw[decide_eq_false (by omega),AbP,AbP] at hr;subst hr;simp(disch:=(try simp only[Ad]);omega)only[Ag,cl,Tryz.f95,↓Ac,Ae,↓reduceIte,↓reduceDIte,↓Qe,Qu,Qv,Qw,Qx,Qy,Qz,QA,QB,QC,QD,QE,QF,QG,QH,QI,QK];first | done | rfl | exact ⟨by rfl,by rfl⟩
 rw[decide_eq_true h,AbO] at hr;simp(disch:=(try simp only[Ad]);omega)only[Ag,cl,Tryz.f95,↓Ac,Ae,↓reduceIte,↓reduceDIte,↓Qe,Qu,Qv,Qw,Qx,Qy,Qz,QA,QB,QC,QD,QE,QF,QG,QH,QI,QK];refine Ab.pure (Kf hT name h1) ?_;cases hf:Js name;·rw[hf,AbP] at hr;subst hr;simp(disch:=(try simp only[Ad]);omega)only[Ag,cl,↓Ac,Ae,↓reduceIte,↓reduceDIte,↓Qe,Qu,Qv,Qw,Qx,Qy,Qz,QA,QB,QC,QD,QE,QF,QG,QH,QI,QK];first | done | rfl | exact ⟨by rfl,by rfl⟩
 rw[hf,AbO] at hr;by_cases h64:cols.length<=64
 ·rw[decide_eq_true h64,AbO] at hr;simp(disch:=(try simp only[Ad]);omega)only[Ag,cl,↓Ac,Ae,↓reduceIte,↓reduceDIte,↓Qe,Qu,Qv,Qw,Qx,Qy,Qz,QA,QB,QC,QD,QE,QF,QG,QH,QI,QK];refine Ab.of rs (by rfl) ?_;by_cases hn:n<=4096
  ·rw[decide_eq_true hn,AbO] at hr;simp(disch:=(try simp only[Ad]);omega)only[Ag,cl,↓Ac,Ae,↓reduceIte,↓reduceDIte,↓Qe,Qu,Qv,Qw,Qx,Qy,Qz,QA,QB,QC,QD,QE,QF,QG,QH,QI,QK];refine Ab.by cf (by rfl) (by rfl) (by simp) ?_;generalize cols.any (Gk n)=b at *;subst hr;cases b;·simp(disch:=(try simp only[Ad]);omega)only[Ag,cl,↓Ac,Ae,↓reduceIte,↓reduceDIte,↓Qe,Qu,Qv,Qw,Qx,Qy,Qz,QA,QB,QC,QD,QE,QF,QG,QH,QI,QK];first | done | rfl | exact ⟨by rfl,by rfl⟩
   simp(disch:=(try simp only[Ad]);omega)only[Ag,cl,↓Ac,Ae,↓reduceIte,↓reduceDIte,↓Qe,Qu,Qv,Qw,Qx,Qy,Qz,QA,QB,QC,QD,QE,QF,QG,QH,QI,QK];first | done | rfl | exact ⟨by rfl,by rfl⟩
  rw[decide_eq_false hn,AbP] at hr;subst hr;simp(disch:=(try simp only[Ad]);omega)only[Ag,cl,↓Ac,Ae,↓reduceIte,↓reduceDIte,↓Qe,Qu,Qv,Qw,Qx,Qy,Qz,QA,QB,QC,QD,QE,QF,QG,QH,QI,QK];first | done | rfl | exact ⟨by rfl,by rfl⟩
 rw[decide_eq_false h64,AbP] at hr;subst hr;simp(disch:=(try simp only[Ad]);omega)only[Ag,cl,↓Ac,Ae,↓reduceIte,↓reduceDIte,↓Qe,Qu,Qv,Qw,Qx,Qy,Qz,QA,QB,QC,QD,QE,QF,QG,QH,QI,QK];first | done | rfl | exact ⟨by rfl,by rfl⟩
end
end Go.Proofs.YtmidaophnbdcdaaGreatDoor
