/-
  A world that lays the variables of nestedTables.
-/
import Derived.Test.YtmidaophnbdcdaaGreatDoorMb2
import Derived.Lib.Strings
import Derived.Lib.Slices
import Derived.Lib.Walk
import Derived.Lib.Bytealg
set_option linter.all false
open Go.Abs renaming Bm->HW,DN->BW,CK->SW,Aw->AW,B5->sA,Ap->kZ
open Go.Proofs.Tryz renaming prog->TP
set_option maxHeartbeats 4000000
set_option maxRecDepth 100000
open Go.Abs renaming Ed->Qe
open Nat renaming reduceAdd->Qu,reduceSub->Qv,reduceMul->Qw,reducePow->Qx,reduceDiv->Qy,reduceMod->Qz,reduceEqDiff->QI,reduceBEq->QK
open Int renaming reduceAdd->QA,reduceSub->QB,reduceMul->QC,reducePow->QD,reduceNeg->QE,reduceToNat->QF,reduceLT->QG,reduceLE->QH
open List renaming getD_eq_getElem?_getD->AaZ,length_take->Adf,take_of_length_le->Adi,take_length->Adj,mem_of_mem_take->Ado,getElem?_eq_getElem->Adq,length_cons->AeJ,length_append->Ae8,getElem?_eq_none->Afc,dropWhile_cons->Afe,map_cons->Aff,append_nil->Afg,getElem?_take->Afh,take_zero->Afj,all_eq_true->Afk,mem_cons->Afm,length_nil->Afn,nil_append->Afo,replicate->Afr,not_mem_nil->Afy,getElem?_cons_zero->AfA,drop_length->AfB,all_reverse->AfC,length_drop->AfD,drop_eq_nil_of_le->AfF,mem_append->AfJ,length_set->AfK,mem_cons_of_mem->AfM,mem_singleton->AfR,mem_cons_self->AfS,getElem?_map->AfV,drop_zero->Af3,take_take->Af4,drop->Agi
open Nat renaming reduceMod->Aa0,reduceDiv->Ac7,lt_or_ge->Ada,lt_of_lt_of_le->Adk,pow_le_pow_right->Adl,le_refl->Adm,zero_le->Adn,mod_two_eq_zero_or_one->Adp,gcd->Aet,pow_lt_pow_right->AeI,mod_lt->AeK,pow_succ->AeL,div_div_eq_div_mul->AeQ,dvd_of_mod_eq_zero->AeR,lt_of_le_of_lt->AeT,mul_assoc->AeU,lt_succ_self->Ae7,mul_comm->Afd,div_eq_of_lt->Afl,mod_add_div->Afp,zero_add->Afq,pos_of_ne_zero->Afu,add_mul_mod_self_left->Afv,pow_pos->Afw,pow_succ'->Afx,mod_eq_of_lt->AfE,gcd_comm->AfG,mod_eq_zero_of_dvd->AfH,gcd_sub_self_right->AfI,div_le_self->AfL,pow_mul->AfN,add_mul_div_left->AfO,lt_irrefl->AfQ,and_one_is_mod->AfT,le_trans->AfW,mul_left_comm->AfX,gcd_dvd_left->AfY,mul_add->AfZ,pow_add->Af0,div_add_mod->Af2,dvd_trans->Aga,mul_zero->Agc,add_zero->Agd,one_mul->Age,or_comm->Agf,mul_one->Agg,sub_le->Agh
open Bool renaming and_eq_true->Ae6,true_and->AfP,false_eq_true->AfU,false_and->Af5,not_false->Af6,or_false->Af7,not_true->Af8,false_or->Af9,true_or->Agb
open Int renaming natAbs_natCast->Afi,tdiv_eq_ediv_of_nonneg->Afs,tmod_eq_emod_of_nonneg->Aft
open Option renaming getD_some->Afz,map_some->Af1
namespace Go.Proofs.YtmidaophnbdcdaaGreatDoor
section
open Go Go.Proofs Go.Abs Go.RowKit Go.ChangeShapes Go.WideShapes Go.ChangeAt
noncomputable def CT (os:Os):World :=
 {World.holding TP os ⟨#[.cells #[.int .u32 1] 187],#[],[]⟩ with heap:=(((((((World.holding TP os ⟨#[.cells #[.int .u32 1] 187],#[],[]⟩).heap.modify 5 fun
   | .cells _ t frozen=>.cells #[.int .u8 0,.int .u8 1,.int .u8 28,.int .u8 2,.int .u8 29,.int .u8 14,.int .u8 24,.int .u8 3,.int .u8 30,.int .u8 22,.int .u8 20,.int .u8 15,.int .u8 25,.int .u8 17,.int .u8 4,.int .u8 8,.int .u8 31,.int .u8 27,.int .u8 13,.int .u8 23,.int .u8 21,.int .u8 19,.int .u8 16,.int .u8 7,.int .u8 26,.int .u8 12,.int .u8 18,.int .u8 6,.int .u8 11,.int .u8 5,.int .u8 10,.int .u8 9] t frozen
   | o=>o).modify 6 fun
   | .cells _ t frozen=>.cells #[.int .u8 0,.int .u8 1,.int .u8 56,.int .u8 2,.int .u8 57,.int .u8 49,.int .u8 28,.int .u8 3,.int .u8 61,.int .u8 58,.int .u8 42,.int .u8 50,.int .u8 38,.int .u8 29,.int .u8 17,.int .u8 4,.int .u8 62,.int .u8 47,.int .u8 59,.int .u8 36,.int .u8 45,.int .u8 43,.int .u8 51,.int .u8 22,.int .u8 53,.int .u8 39,.int .u8 33,.int .u8 30,.int .u8 24,.int .u8 18,.int .u8 12,.int .u8 5,.int .u8 63,.int .u8 55,.int .u8 48,.int .u8 27,.int .u8 60,.int .u8 41,.int .u8 37,.int .u8 16,.int .u8 46,.int .u8 35,.int .u8 44,.int .u8 21,.int .u8 52,.int .u8 32,.int .u8 23,.int .u8 11,.int .u8 54,.int .u8 26,.int .u8 40,.int .u8 15,.int .u8 34,.int .u8 20,.int .u8 31,.int .u8 10,.int .u8 25,.int .u8 14,.int .u8 19,.int .u8 9,.int .u8 13,.int .u8 8,.int .u8 7,.int .u8 6] t frozen
   | o=>o).modify 3 fun
   | .cells _ t frozen=>.cells #[.int .u64 1,.int .u64 10,.int .u64 100,.int .u64 1000,.int .u64 10000,.int .u64 100000,.int .u64 1000000,.int .u64 10000000,.int .u64 100000000,.int .u64 1000000000,.int .u64 10000000000,.int .u64 100000000000,.int .u64 1000000000000,.int .u64 10000000000000,.int .u64 100000000000000,.int .u64 1000000000000000,.int .u64 10000000000000000,.int .u64 100000000000000000,.int .u64 1000000000000000000,.int .u64 10000000000000000000] t frozen
   | o=>o).modify 1 fun
   | .cells _ t frozen=>.cells #[.int .u8 128,.int .u8 191,.int .u8 160,.int .u8 191,.int .u8 128,.int .u8 159,.int .u8 144,.int .u8 191,.int .u8 128,.int .u8 143,.int .u8 0,.int .u8 0,.int .u8 0,.int .u8 0,.int .u8 0,.int .u8 0,.int .u8 0,.int .u8 0,.int .u8 0,.int .u8 0,.int .u8 0,.int .u8 0,.int .u8 0,.int .u8 0,.int .u8 0,.int .u8 0,.int .u8 0,.int .u8 0,.int .u8 0,.int .u8 0,.int .u8 0,.int .u8 0] t frozen
   | o=>o).modify 2 fun
   | .cells _ t frozen=>.cells #[.slice (some ⟨(World.settled TP os).heap.size,0,none⟩) 1 1] t frozen
   | o=>o).modify 0 fun
   | .cells _ t frozen=>.cells (Go.Pinned.utf8FirstZ.map fun (n:Nat)=>Value.int .u8 (n:Int)).toArray t frozen
   | o=>o)}
def HJ (os:Os) (args:Array Value):laidMet TP [("math/bits.deBruijn32tab",Rows.laid_math_bits_deBruijn32tab),("math/bits.deBruijn64tab",Rows.laid_math_bits_deBruijn64tab),("internal/strconv.uint64pow10",Rows.laid_internal_strconv_uint64pow10),("unicode/utf8.acceptRanges",Rows.laid_unicode_utf8_acceptRanges),("tablefinder/fraction.one",Rows.laid_tablefinder_fraction_one),("unicode/utf8.first",Rows.laid_unicode_utf8_first)] ((CT os).forCall (fun _ _=>0) ⟨#[],args,[]⟩).memory :=
 laidMet_of_run' 8 (by kernel_rfl) (by kernel_rfl)
end
section
open Go Go.Proofs Go.Abs
variable {G:Ah}
def nots (q:List Bool):List Bool:=q.map not
end
section
open Go Go.Proofs Go.Abs
def D1:∀ s:List UInt8,(∀ c∈s,c.toNat<128)->Lib.validD s=true
 | [],_=>rfl
 | c::r,h=>by rw[Lib.validD_cons _ _ (h c (by simp))];exact D1 r fun x hx=>h x (by simp[hx])
def B9 (s:List UInt8):Prop:=∀ c∈s,c.toNat<128
def BV {a b:List UInt8} (ha:B9 a) (hb:B9 b):B9 (a++b):=fun c hc=>by
 rcases AfJ.1 hc with h | h
 ·exact ha c h
 exact hb c h
def EO {P:List UInt8->Prop} {l:List (List UInt8)} (h0:P []) (h:∀ s∈l,P s) (i:Nat):P (l.getD i []):=by
 rcases Ada i l.length with h1 | h1
 ·exact h _ (Cs h1)
 rw[AaZ,Afc h1];exact h0
def D6:B9 []:=fun c h=>by cases h
def JY {c:UInt8} {r:List UInt8} (hc:c.toNat<128) (hr:B9 r):B9 (c::r):=fun x hx=>by
 rcases Afm.1 hx with rfl | h
 ·exact hc
 exact hr x h
def Wb {n:Nat} (h:n<100):B9 (C1 n):=by
 unfold C1;split;·intro c hc;rw[AfR.1 hc];simp;omega
 intro c hc;rcases Afm.1 hc with rfl | hc
 ·simp;omega
 rw[AfR.1 hc];simp;omega
def Ry (t:List Int) (k:Nat):B9 (JH t k):=by
 have h1:B9 (Il t k):=by obtain ⟨b,hb,hb2⟩:=pk_nat t (k+1) 40 (by decide);unfold Il;rw[hb];exact BV (EO D6 (by unfold B9;decide) _) (Wb (by simp;omega))
 have h2:B9 (Kv t k):=by
  unfold Kv;split
  ·split;·exact h1
   exact JY (by decide) h1
  exact h1
 unfold JH;split;·exact BV h2 (JY (by decide) (EO D6 (by unfold B9;decide) _))
 exact h2
def OL (t:List Int) (k:Nat):B9 (Mj t k)/\(Mj t k).length<=10:=by
 have a1:B9 (Eu.getD (pk t k 6).toNat []):=EO D6 (by unfold B9;decide) _;have a2:B9 (Dr.getD (pk t (k+1) 5).toNat []):=EO D6 (by unfold B9;decide) _;have a3:B9 (GU.getD (pk t (k+2) 5).toNat []):=EO D6 (by unfold B9;decide) _;have l1:=Cq (l:=Eu) (m:=4) (by decide) (pk t k 6).toNat;have l2:=Cq (l:=Dr) (m:=2) (by decide) (pk t (k+1) 5).toNat;have l3:=Cq (l:=GU) (m:=2) (by decide) (pk t (k+2) 5).toNat;have one:∀ n:UInt8,n.toNat<128->B9 [n]:=fun n h=>JY h D6;unfold Mj;simp only;split;·exact ⟨BV (BV (BV (BV a1 (one _ (by decide))) a2) (one _ (by decide))) a3,by simp only[Ae8,AeJ,Afn];omega⟩
 split;·exact ⟨BV (BV (BV (BV a1 (one _ (by decide))) a2) (one _ (by decide))) a3,by simp only[Ae8,AeJ,Afn];omega⟩
 exact ⟨BV (BV (BV (BV a3 (one _ (by decide))) a2) (one _ (by decide))) a1,by simp only[Ae8,AeJ,Afn];omega⟩
def okT (s:List UInt8):Prop:=Lib.validD s=true/\s.length<=30
instance (s:List UInt8):Decidable (okT s):=by unfold okT;exact inferInstance
def MW:okT []:=by decide
def XY:∀ s∈wordsL,okT s:=by decide
def X0:∀ s∈IE,okT s:=by decide
def XZ:∀ s∈Im,okT s:=by decide
def ZA:∀ s∈Md,okT s:=by decide
def Yi (t:List Int) (k c:Nat):okT (FK t k c):=by
 unfold FK;repeat' split
 ·exact EO MW XY _
 ·exact ⟨D1 _ (Ry t k),by have:=(Ik t k).2;omega⟩
 ·exact ⟨D1 _ (OL t k).1,by have:=(OL t k).2;omega⟩
 ·exact EO MW X0 _
 ·have:=(Ik t k).2;have l2:=Cq (l:=Gq) (m:=4) (by decide) (pk t (O9 t k) 7).toNat;exact ⟨D1 _ (BV (Ry t k) (EO D6 (by unfold B9;decide) _)),by rw[Ae8];omega⟩
 ·exact EO MW XZ _
 exact EO MW ZA _
end
section
open Go Go.Proofs Go.Abs
variable {G:Ah}
def OkS (t:List Int):Prop:=∀ i,0<=t.getD i 0/\t.getD i 0<=255
def OkS.take {t:List Int} (h:OkS t):OkM (t.take 300):=by
 refine ⟨by rw[Adf];omega,fun i=>?_⟩;rcases Ada i 300 with h1 | h1
 ·have:=h i;rw[AaZ,Afh,if_pos h1,<-AaZ];exact this
 rw[AaZ,Afh,if_neg (by omega)];decide
end
namespace Num
open Go Go.Proofs Go.Abs
variable {G:Ah}
abbrev S (l:List UInt8):D:=.str (bs l)
def hasP (s p:List UInt8):Bool:=decide (s.take p.length=p)
def hasP_le {s p:List UInt8} (h:hasP s p=true):p.length<=s.length:=by have:=of_decide_eq_true h;have h2:=congrArg List.length this;simp at h2;omega
def hasPrefix_spec (s p:List UInt8):Ctr TP G 184 [.d (S s),.d (S p)] [] (.d (.bool (hasP s p))) []:=by refine Ctr.pure (M:=M0) Am Tryz.func184 rfl Acf ?_;simp(disch:=(try simp only[Ab]);omega)only[Af,Tryz.f184,↓Aa,Ac,↓reduceIte,↓Qe,Qu,Qv];refine ⟨fun _=>rfl,fun h=>(decide_eq_false fun e=>h ?_).symm⟩;have:=congrArg List.length e;simp at this;omega
def MH (s p:List UInt8):Ctr TP G 168 [.d (S s),.d (S p)] [] (.d (.tup [S (if hasP s p then s.drop p.length else s),.bool (hasP s p)])) []:=by
 refine Ctr.pure (M:=M0) Am Tryz.func168 rfl AdU ?_;simp only[Tryz.f168,↓Aa,Ac,↓reduceIte,Qu,Qv];refine Ad.pure (hasPrefix_spec s p) ?_;cases h:hasP s p;·simp only[↓Aa,Ac,↓reduceIte,↓Qe]
 have:=hasP_le h;simp(disch:=(try simp only[Ab]);omega)only[Af,↓Aa,Ac,↓reduceIte,↓Qe]
def cutPrefix_spec (s p:List UInt8):Ctr TP G 131 [.d (S s),.d (S p)] [] (.d (.tup [S (if hasP s p then s.drop p.length else s),.bool (hasP s p)])) []:=by refine Ctr.pure (M:=M0) Am Tryz.func131 rfl Aem ?_;simp only[Tryz.f131,↓Aa,Ac,↓reduceIte,Qu,Qv];refine Ad.pure (MH s p) ?_;simp(disch:=(try simp only[Ab]);omega)only[↓Aa,Ac,↓Qe,Qu]
def K9 (s p:List UInt8):Ctr TP G 169 [.d (S s),.d (S p)] [] (.d (S (if hasP s p then s.drop p.length else s))) []:=by
 refine Ctr.pure (M:=M0) Am Tryz.func169 rfl AdT ?_;simp only[Tryz.f169,↓Aa,Ac,↓reduceIte,Qu,Qv];refine Ad.pure (hasPrefix_spec s p) ?_;cases h:hasP s p;·simp only[↓Aa,Ac,↓reduceIte,↓Qe]
 have:=hasP_le h;simp(disch:=(try simp only[Ab]);omega)only[Af,↓Aa,Ac,↓reduceIte,↓Qe]
def Ms (s p:List UInt8):Ctr TP G 132 [.d (S s),.d (S p)] [] (.d (S (if hasP s p then s.drop p.length else s))) []:=by refine Ctr.pure (M:=M0) Am Tryz.func132 rfl Ael ?_;simp only[Tryz.f132,↓Aa,Ac,↓reduceIte,Qu,Qv];refine Ad.pure (K9 s p) ?_;simp only[↓Aa,Ac,↓Qe]
def indexByte_calls (s:ByteArray) (c:Int) (w:World) :
  Calls TP 211 #[.string s,.int .u8 c] w fun e w'=>e=.returned (.int .i64 (Lib.indexByte s.data.toList c.toNat.toUInt8))/\w'=w:=by
 go_enter Tryz.func211,Tryz.ntmps211;go_wp2;rw[run_callFunc_extern Tryz.func235 (by kernel_rfl) (by kernel_rfl) (by kernel_rfl) (e:=Extern.BytealgIndexByte.indexByte) (by kernel_rfl),Lib.run_indexByteString];simp only[Result.andThen];rw[Oper.upon_value];go_wp2;go_ret;exact ⟨rfl,rfl⟩
def indexByte_spec (s:List UInt8) (c:UInt8):Ctr TP G 211 [.d (S s),.d (.int .u8 c.toNat)] [] (.d (.int .i64 (Lib.indexByte s c))) []:=by
 refine Ctr.of_calls Acd fun h ρ w vs q r=>?_;obtain ⟨v,u,rfl,hv,hu⟩:=r.inv2;rw[hv.str_inv,hu.int_inv];refine (indexByte_calls (bs s) c.toNat w).mono ?_;rintro e w' ⟨rfl,rfl⟩;refine ⟨_,rfl,?_,.refl _ _⟩;have:((c.toNat:Int)).toNat.toUInt8=c:=by simp
 rw[this];exact .int _ _
def cutL (c:UInt8):List UInt8->List UInt8
 | []=>[]
 | b::l=>if b=c then [] else b::cutL c l
def cutR (c:UInt8):List UInt8->List UInt8
 | []=>[]
 | b::l=>if b=c then l else cutR c l
def cut_index (c:UInt8):∀ s:List UInt8,(c∈s->∃ k:Nat,Lib.indexByte s c=k/\k<s.length/\s.take k=cutL c s/\s.drop (k+1)=cutR c s)/\(c∉s->Lib.indexByte s c=-1/\cutL c s=s/\cutR c s=[])
 | []=>⟨fun h=>absurd h Afy,fun _=>⟨rfl,rfl,rfl⟩⟩
 | b::l=>by
   obtain ⟨i1,i2⟩:=cut_index c l;by_cases e:b=c;·subst e;refine ⟨fun _=>⟨0,?_,by simp,by simp[cutL],by simp[cutR]⟩,fun h=>absurd (AfS ..) h⟩;simp[Lib.indexByte]
   have e2:¬c=b:=fun h=>e h.symm;refine ⟨fun h=>?_,fun h=>?_⟩;·obtain ⟨k,h1,h2,h3,h4⟩:=i1 ((Afm.1 h).resolve_left e2);refine ⟨k+1,?_,by simpa using h2,by simp[cutL,e,h3],by simp[cutR,e,h4]⟩;simp only[Lib.indexByte,h1];rw[if_neg (by simpa using e),if_neg (by simp)];omega
   obtain ⟨h1,h2,h3⟩:=i2 (fun h2=>h (AfM _ h2));refine ⟨?_,by simp[cutL,e,h2],by simp[cutR,e,h3]⟩;simp only[Lib.indexByte,h1];rw[if_neg (by simpa using e),if_pos (by decide)]
def index1_spec (s:List UInt8) (c:UInt8) (hs:s.length<=9223372036854775807):Ctr TP G 201 [.d (S s),.d (S [c])] [] (.d (.int .i64 (Lib.indexByte s c))) []:=by
 refine Ctr.pure (M:=M0) Am Tryz.func201 rfl Ace ?_;simp(disch:=(try simp only[Ab]);omega)only[Af,Tryz.f201,↓Aa,Ac,↓reduceIte,↓Qe,Qu,Qv,QE];refine ⟨fun h=>?_,fun h=>?_⟩;·rw[<-h];simp[Lib.indexByte]
 refine Ad.pure (indexByte_spec s c) ?_;simp only[↓Aa,Ac,↓Qe,QE]
def cutS_spec (s:List UInt8) (c:UInt8) (hs:s.length<=9223372036854775807):Ctr TP G 170 [.d (S s),.d (S [c])] [] (.d (.tup [S (cutL c s),S (cutR c s),.bool (decide (c∈s))])) []:=by
 refine Ctr.pure (M:=M0) Am Tryz.func170 rfl Ach ?_;simp only[Tryz.f170,↓Aa,Ac,↓reduceIte,Qu,Qv];refine Ad.pure (index1_spec s c hs) ?_;obtain ⟨i1,i2⟩:=cut_index c s;by_cases h:c∈s;·obtain ⟨k,h1,h2,h3,h4⟩:=i1 h;rw[h1,decide_eq_true h,<-h3,<-h4];simp(disch:=(try simp only[Ab]);omega)only[Af,↓Aa,Ac,↓Qe];rfl
 obtain ⟨h1,h3,h4⟩:=i2 h;rw[h1,decide_eq_false h,h3,h4];simp(disch:=(try simp only[Ab]);omega)only[↓Aa,Ac,↓Qe,QE]
def cut_spec (s:List UInt8) (c:UInt8) (hs:s.length<=9223372036854775807):Ctr TP G 133 [.d (S s),.d (S [c])] [] (.d (.tup [S (cutL c s),S (cutR c s),.bool (decide (c∈s))])) []:=by refine Ctr.pure (M:=M0) Am Tryz.func133 rfl Aci ?_;simp only[Tryz.f133,↓Aa,Ac,↓reduceIte,Qu,Qv];refine Ad.pure (cutS_spec s c hs) ?_;simp(disch:=(try simp only[Ab]);omega)only[↓Aa,Ac,↓Qe,Qu]
def setD (l:List UInt8):List D:=(List.range 256).map fun i=>.bool (l.any fun b=>b.toNat == i)
def setB (l:List UInt8):List AV:=(setD l).map .d
def setB_length {l:List UInt8}:(setB l).length=256:=by simp[setB,setD]
def setD_length {l:List UInt8}:(setD l).length=256:=by simp[setD]
def setB_nil:setB []=Afr 256 (.d (.bool false)):=by rfl
def setD_get {l:List UInt8} {c:UInt8} {d:D}:(setD l).getD c.toNat d=.bool (l.contains c):=by
 have hc:=c.toNat_lt;simp only[setD,AaZ,AfV,List.getElem?_range (show c.toNat<256 by omega),Af1,Afz];rw[List.contains_eq_any_beq];refine congrArg (fun f=>D.bool (l.any f)) ?_;funext b;show (b.toNat == c.toNat)=_
 by_cases h:b=c;·subst h;simp
 have:¬b.toNat=c.toNat:=fun e=>h (UInt8.toNat_inj.1 e);have h':¬c=b:=fun e=>h e.symm;rw[beq_eq_false_iff_ne.2 this];exact (beq_eq_false_iff_ne.2 h').symm
def setB_get {l:List UInt8} {c:UInt8} {d:AV}:(setB l).getD c.toNat d=.d (.bool (l.contains c)):=by have hc:=c.toNat_lt;have:=@setD_get l c .nilp;rw[AaZ,Adq (by rw[setD_length];omega)] at this;rw[setB,AaZ,AfV,Adq (by rw[setD_length];omega)];simp only[Afz] at this;rw[Af1,Afz,this]
def setB_set {l:List UInt8} {c:UInt8}:(setB l).set c.toNat (.d (.bool true))=setB (l++[c]):=by
 have hc:=c.toNat_lt;apply List.ext_getElem;·rw[AfK,setB_length,setB_length]
 intro i h1 h2;rw[AfK,setB_length] at h1;rw[List.getElem_set];simp only[setB,setD,List.getElem_map,List.getElem_range,List.any_append,List.any_cons,List.any_nil,Af7];split;·rename_i e;subst e;simp
 rename_i e;have:(c.toNat == i)=false:=by simpa using e
 rw[this,Af7]
def SWeak_map {fl:List (Option Nat)}:∀ l:List D,SW fl (l.map .d) (l.map .d)
 | []=>by simp[SW]
 | x::l=>by simp only[Aff,SW];exact ⟨by simp[AW],SWeak_map l⟩
def setB_weak {fl:List (Option Nat)} {l:List UInt8}:SW fl (setB l) (setB l)=True:=eq_true (SWeak_map _)
def mem_getDU {α:Type} {l:List α} {i:Nat} {d:α} (h:i<l.length):l.getD i d∈l:=by rw[AaZ,Adq h];exact List.getElem_mem h
def setB_two (l:List UInt8):∃ a b cs,setB l=a::b::cs:=by
 have:=@setB_length l
 match h:setB l with
 | []=>rw[h] at this;cases this
 | [_]=>rw[h] at this;cases this
 | a::b::cs=>exact ⟨a,b,cs,rfl⟩
def setB_one {l:List UInt8}:(setB l).all AV.one=true:=by simp[setB,setD,AV.one,D.one]
def setB_seal {H:List Ae} {l:List UInt8}:sealL H (setB l)=some (setD l):=by
 have:∀ m:List D,sealL H (m.map .d)=some m:=fun m=>by
  induction m with
  | nil=>rfl
  | cons x m ih=>simp only[Aff,sealL,sealA,ih]
 exact this _
def setB_refs {l:List UInt8}:refsL (setB l)=[]:=by
 have:∀ m:List D,refsL (m.map .d)=[]:=fun m=>by
  induction m with
  | nil=>rfl
  | cons x m ih=>simp only[Aff,refsL,Ga,ih,Afg]
 exact this _
def setB_pass {H:List Ae} {L:List Nat} {l:List UInt8}:passL H L (setB l)=some (setB l):=by
 have:∀ m:List D,passL H L (m.map .d)=some (m.map .d):=fun m=>by
  induction m with
  | nil=>rfl
  | cons x m ih=>simp only[Aff,passL,passA,ih]
 exact this _
def setB_sids {H:List Ae} {L:List Nat} {l:List UInt8}:sidsL H L (setB l)=[]:=by
 have:∀ m:List D,sidsL H L (m.map .d)=[]:=fun m=>by
  induction m with
  | nil=>rfl
  | cons x m ih=>simp only[Aff,sidsL,sidsA,ih,Afg]
 exact this _
def setB_ren {f:Nat->Nat} {l:List UInt8}:renL f (setB l)=setB l:=by
 have:∀ m:List D,renL f (m.map .d)=m.map .d:=fun m=>by
  induction m with
  | nil=>rfl
  | cons x m ih=>simp only[Aff,renL,renA,ih]
 exact this _
def take_succ_getD {s:List UInt8} {i:Nat} (h:i<s.length):s.take i++[s.getD i 0]=s.take (i+1):=by rw[List.take_add_one,Adq h,AaZ,Adq h];rfl
def contains_spec (l:List UInt8) (c:UInt8):Ctr TP G 116 [.ptr 0 0,.d (.int .u8 c.toNat)] [.box (setB l)] (.d (.bool (l.contains c))) [.box (setB l)]:=by have hc:=c.toNat_lt;have hl:=@setB_length l;refine Ctr.body (M:=M0) Am Tryz.func116 rfl Ack ?_;simp(disch:=(try simp only[Ab]);omega)only[hl,setB_get,Tryz.f116,↓Aa,Ac,↓reduceIte,Qu,Qv];exact ⟨[some 0],rfl,by simp,by simp[HW,BW,setB_weak],.inl (by simp[AW])⟩
def makeSet_spec (l:List UInt8) (hl:l.length<2^62) (ha:∀ b∈l,b.toNat<128):Ctr TP G 85 [.d (S l)] [] (.d (.tup [.agg (setD l),.bool true])) []:=by
 refine Ctr.pure (M:=M0) Am Tryz.func85 rfl go85 ?_;simp only[Tryz.f85,↓Aa,Ac,↓reduceIte,Qv];refine Ak.fr 5 (α:=Nat) (fun i=>l.length-i) (fun i=>[(4,.d (.int .i64 i))]) (fun i=>[.box (setB (l.take i))]) (fun i=>i<=l.length) 0 (Adn _) ?_ ?_;·refine ⟨[some 0],rfl,by simp,by simp[sA,kZ,SW,AW],?_⟩;rw[Afj,setB_nil];simp only[HW,BW,AfA];refine ⟨SWeak_map (Afr 256 (.bool false)),trivial⟩
 intro i hi;have sl:=@setB_length (l.take i);simp only[Bi,Aa0,Ac7];rcases Ada i l.length with h1 | h1
 ·have hb:=ha _ (mem_getDU (d:=0) h1);have hs:=take_succ_getD h1;simp(disch:=(try simp only[Ab]);omega)only[Af,sl,↓Aa,Ac,↓reduceIte];exact ⟨i+1,h1,by simp only;omega,[some 0],rfl,by simp,by simp[SW,AW],by simp only[HW,BW,AfA];rw[setB_set,hs];exact ⟨by rw[setB_weak];trivial,trivial⟩⟩
 have sl:=@setB_length l;have tk:(setB l).take 256=setB l:=Adi (by omega);obtain ⟨a,b,cs,e⟩:=setB_two l;have lc:cs.length=254:=by rw[e] at sl;simpa using sl
 have tc:cs.take 254=cs:=Adi (by omega);have dc:cs.drop cs.length=[]:=AfB;simp(disch:=(try simp only[Ab]);omega)only[Af,sl,tk,↓Aa,Ac,↓reduceIte,↓Qe];refine ⟨setB_one,?_⟩;have pm:Dj (setB l) 0 (setB l)=setB l:=by rw[e];simp only[Dj,Dj,Afj,Afo,Afq,AeJ,List.drop_succ_cons,dc,Afg]
 first
 | rw[pm,sl,tk]
 | (simp only[Dj,Dj,Afj,Afo,Afq] at pm;rw[pm,sl,tk])
 simp only[Adm,if_true];rfl
def trimL (l s:List UInt8):List UInt8:=s.dropWhile l.contains
def trimR (l s:List UInt8):List UInt8:=(s.reverse.dropWhile l.contains).reverse
def VZ {s:List UInt8} {k:Nat} (h:k<s.length):s.drop k=s.getD k 0::s.drop (k+1):=by rw[List.drop_eq_getElem_cons h,AaZ,Adq h];rfl
def Yo {s:List UInt8} {k:Nat}:(s.drop k).getD 0 0=s.getD k 0:=by simp[AaZ]
def take_snoc {s:List UInt8} {k:Nat} (h:k<s.length):s.take (k+1)=s.take k++[s.getD k 0]:=(take_succ_getD h).symm
def trimR_snoc {l s:List UInt8} {c:UInt8}:trimR l (s++[c])=if l.contains c then trimR l s else s++[c]:=by simp only[trimR,List.reverse_append,List.reverse_cons,List.reverse_nil,Afo,List.singleton_append,Afe];split<;>simp
def LS (l s:List UInt8) (hs:s.length<=9223372036854775807):Ctr TP G 86 [.d (S s),.ptr 0 0] [.box (setB l)] (.d (S (trimL l s))) [.box (setB l)]:=by
 refine Ctr.body (M:=M0) Am Tryz.func86 rfl go86 ?_;simp only[Tryz.f86,↓Aa,Ac,Qu,Qv];refine Ak.fr 2 (α:=Nat) (fun k=>s.length-k) (fun k=>[(0,.d (S (s.drop k)))]) (fun _=>[.box (setB l)]) (fun k=>k<=s.length/\trimL l (s.drop k)=trimL l s) 0 ⟨Adn _,by rw[Af3]⟩ ?_ ?_;·exact ⟨[some 0],rfl,by simp,by simp[sA,kZ,SW,AW],by simp[HW,BW,setB_weak]⟩
 rintro k ⟨hk,ht⟩;simp only[Bi,Aa0,Ac7];rcases Ada k s.length with h1 | h1
 ·have hd:=VZ h1;simp(disch:=(try simp only[Ab]);omega)only[Af,setB_refs,setB_pass,setB_sids,Yo,↓Aa,Ac,↓reduceIte];refine Ad.by (contains_spec l (s.getD k 0)) (by rfl) (by rfl) (Adm _) ?_;cases hc:l.contains (s.getD k 0);·simp(disch:=(try simp only[Ab]);omega)only[setB_ren,↓Aa,Ac,↓reduceIte];rw[<-ht,trimL,hd,Afe,hc];exact ⟨[some 0],rfl,by simp,by simp[HW,BW,setB_weak],.inl (by simp[AW])⟩
  simp(disch:=(try simp only[Ab]);omega)only[Af,setB_ren,↓Aa,Ac,↓reduceIte,QF];exact ⟨k+1,⟨h1,by rw[<-ht,trimL,trimL,hd,Afe,hc];rfl⟩,by simp only;omega,[some 0],rfl,by simp,by simp[SW,AW],by simp[HW,BW,setB_weak]⟩
 simp(disch:=(try simp only[Ab]);omega)only[Af,↓Aa,Ac];have:s.drop k=[]:=AfF h1;rw[<-ht,this];exact ⟨[some 0],rfl,by simp,by simp[HW,BW,setB_weak],.inl (by simp[AW,trimL])⟩
def Td (l s:List UInt8) (hs:s.length<=9223372036854775807):Ctr TP G 87 [.d (S s),.ptr 0 0] [.box (setB l)] (.d (S (trimR l s))) [.box (setB l)]:=by
 refine Ctr.body (M:=M0) Am Tryz.func87 rfl go87 ?_;simp only[Tryz.f87,↓Aa,Ac,Qu,Qv];refine Ak.fr 2 (α:=Nat) (fun k=>k) (fun k=>[(0,.d (S (s.take k)))]) (fun _=>[.box (setB l)]) (fun k=>k<=s.length/\trimR l (s.take k)=trimR l s) s.length ⟨Adm _,by rw[Adj]⟩ ?_ ?_;·exact ⟨[some 0],rfl,by simp,by simp[sA,kZ,SW,AW],by simp[HW,BW,setB_weak]⟩
 rintro k ⟨hk,ht⟩;have lk:(s.take k).length=k:=by rw[Adf];omega
 simp only[Bi,Aa0,Ac7];rcases k with _ | k
 ·rw[Afj] at *;simp(disch:=(try simp only[Ab]);omega)only[Af,↓Aa,Ac];rw[<-ht];exact ⟨[some 0],rfl,by simp,by simp[HW,BW,setB_weak],.inl (by simp[AW,trimR])⟩
 have hd:=take_snoc (show k<s.length by omega);have hg:(s.take (k+1)).getD k 0=s.getD k 0:=by rw[AaZ,Afh,if_pos (by omega),<-AaZ]
 have hx:(s.take (k+1)).take k=s.take k:=by rw[Af4];congr 1;omega
 simp(disch:=(try simp only[Ab]);omega)only[Af,setB_refs,setB_pass,setB_sids,lk,hg,↓Aa,Ac,↓reduceIte];refine Ad.by (contains_spec l (s.getD k 0)) (by rfl) (by rfl) (Adm _) ?_;cases hc:l.contains (s.getD k 0);·simp(disch:=(try simp only[Ab]);omega)only[setB_ren,↓Aa,Ac,↓reduceIte];rw[<-ht,hd,trimR_snoc,hc];exact ⟨[some 0],rfl,by simp,by simp[HW,BW,setB_weak],.inl (by simp[AW])⟩
 simp(disch:=(try simp only[Ab]);omega)only[Af,setB_ren,lk,hx,↓Aa,Ac,↓reduceIte];exact ⟨k,⟨by omega,by rw[<-ht,hd,trimR_snoc,hc];rfl⟩,by simp only;omega,[some 0],rfl,by simp,by simp[SW,AW],by simp[HW,BW,setB_weak]⟩
def setB_fold {l:List UInt8}:(setD l).map AV.d=setB l:=rfl
def setB_putL {L:List AV} {l:List UInt8} (h:L.length=256):Dj L 0 ((setD l).map AV.d)=setB l:=by rw[setB_fold];obtain ⟨a,b,cs,e⟩:=setB_two l;have q:=@setB_length l;rw[e] at q ⊢;have hd:L.drop (0+(a::b::cs).length)=[]:=AfF (by omega);simp only[Dj,hd,Afj,Afo,Afg]
abbrev fb4 (l:List AV):List AV:=.d (.bool false)::.d (.bool false)::.d (.bool false)::.d (.bool false)::l
abbrev fb16 (l:List AV):List AV:=fb4 (fb4 (fb4 (fb4 l)))
abbrev fb64 (l:List AV):List AV:=fb16 (fb16 (fb16 (fb16 l)))
def setB_putL' {l:List UInt8}:Dj (fb64 (fb64 (fb64 (fb64 [])))) 0 (setB l)=setB l:=setB_putL rfl
def trim_spec (s l:List UInt8) (hs:s.length<=9223372036854775807) (hl:l.length<2^62) (h2:2<=l.length) (ha:∀ b∈l,b.toNat<128):Ctr TP G 48 [.d (S s),.d (S l)] [] (.d (S (trimL l (trimR l s)))) []:=by
 refine Ctr.pure (M:=M0) Am Tryz.func48 rfl go48 ?_;have q:=@setB_length l;have tr:(trimR l s).length<=s.length:=by simp only[trimR,List.length_reverse];exact AfW (List.dropWhile_sublist _).length_le (by simp)
 simp(disch:=(try simp only[Ab]);omega)only[Af,Tryz.f48,↓Aa,Ac,↓reduceIte,↓Qe,Qu,Qv];refine ⟨fun h=>⟨fun h3=>?_,fun h3=>?_⟩,fun h=>?_⟩;·subst h3;simp at h2
 ·refine Ad.pure (makeSet_spec l hl ha) ?_;have tk:(setD l).take 256=setD l:=Adi (by rw[setD_length];omega);simp(disch:=(try simp only[Ab]);omega)only[↓ setB_putL',setB_putL',setB_fold,q,setB_refs,setB_pass,setB_sids,↓Aa,Ac,↓reduceIte,Qu];refine ⟨setB_one,?_⟩;refine Ad.by (Td l s hs) (by rfl) (by rfl) (Adm _) ?_;simp(disch:=(try simp only[Ab]);omega)only[setB_refs,setB_pass,setB_sids,setB_ren,↓Aa,Ac,↓reduceIte];refine Ad.by (LS l (trimR l s) (by omega)) (by rfl) (by rfl) (Adm _) ?_;simp(disch:=(try simp only[Ab]);omega)only[setB_ren,↓Aa,Ac,↓reduceIte,↓Qe]
 subst h;rfl
def Gy {l:List UInt8} {p:UInt8->Bool}:l.dropWhile p=[]↔l.all p=true:=by
 induction l with
 | nil=>simp
 | cons b l ih =>rw[Afe,List.all_cons];cases h:p b<;>simp[ih]
def Tb {l s:List UInt8}:trimL l (trimR l s)=[]↔s.all l.contains=true:=by
 rw[trimL,Gy,trimR];rw[AfC];constructor
 ·intro h;by_cases e:s.reverse.dropWhile l.contains=[];·have:=Gy.1 e;rwa[AfC] at this
  exfalso;have h1:=List.head_dropWhile_not l.contains e;have h2:=Afk.1 h _ (List.head_mem e);rw[h1] at h2;cases h2
 intro h;have:s.reverse.dropWhile l.contains=[]:=Gy.2 (by rwa[AfC]);rw[this];rfl
abbrev IA:List UInt8:=[48,49,50,51,52,53,54,55,56,57]
def digB (s:List UInt8) (m:Int):Bool:=decide (1<=s.length/\(s.length:Int)<=m) && s.all IA.contains
def Gh (s:List UInt8) (m:Int) (hs:s.length<=9223372036854775807):Ctr TP G 134 [.d (S s),.d (.int .i64 m)] [] (.d (.bool (digB s m))) []:=by
 refine Ctr.pure (M:=M0) Am Tryz.func134 rfl Aek ?_;simp(disch:=(try simp only[Ab]);omega)only[Af,Tryz.f134,↓Aa,Ac,↓reduceIte,↓Qe,Qu,Qv];refine ⟨fun h1=>⟨fun h2=>?_,fun h2=>?_⟩,fun h1=>?_⟩
 ·refine Ad.pure (trim_spec s IA hs (by decide) (by decide) (by decide)) ?_;simp only[Af,↓Aa,Ac,↓reduceIte,↓Qe];rw[digB,decide_eq_true (show 1<=s.length/\(s.length:Int)<=m by omega),AfP];cases h:s.all IA.contains;·rw[decide_eq_false fun e=>by rw[Tb,h] at e;cases e]
  rw[decide_eq_true (Tb.2 h)]
 ·rw[digB,decide_eq_false (by omega)];rfl
 rw[digB,decide_eq_false (by omega)];rfl
def FM (s:List UInt8):Bool:=hasP s [45]
def decBody (s:List UInt8):List UInt8:=if hasP s [45] then s.drop 1 else if hasP s [43] then s.drop 1 else s
def decF (s:List UInt8):List UInt8:=cutL 46 (decBody s)
def decB (s:List UInt8):List UInt8:=cutR 46 (decBody s)
def decOk (s:List UInt8):Bool:=digB (decF s) 15 && (!decide (46∈decBody s) || digB (decB s) 9)
def Ar (l:List UInt8):Nat:=l.foldl (fun v b=>v*10+(b.toNat-48)) 0
def decVal (s:List UInt8):Rat:=Rat.divInt (if FM s then -(Ar (decF s++decB s):Int) else (Ar (decF s++decB s):Int)) ((10^(decB s).length:Nat):Int)
def E3 {l:List UInt8} {i:Nat} (h:i<l.length):Ar (l.take i)*10+((l.getD i 0).toNat-48)=Ar (l.take (i+1)):=by rw[take_snoc h,Ar,Ar,List.foldl_append];rfl
def Uv {c:UInt8}:∀ s:List UInt8,(cutL c s).length<=s.length
 | []=>Adm _
 | b::l=>by have:=Uv (c:=c) l;rw[cutL];split<;>simp;exact this
def Ra {c:UInt8} {s:List UInt8} (h:c∉s):cutR c s=[]:=((cut_index c s).2 h).2.2
def Ut {c:UInt8}:∀ s:List UInt8,(cutR c s).length<=s.length
 | []=>Adm _
 | b::l=>by have:=Ut (c:=c) l;rw[cutR];split<;>simp;omega
def dig_range {b:UInt8} (h:IA.contains b=true):48<=b.toNat/\b.toNat<=57:=by
 have:b∈IA:=by simpa using h
 simp only[IA,Afm,Afy,or_false] at this;rcases this with rfl | rfl | rfl | rfl | rfl | rfl | rfl | rfl | rfl | rfl<;>decide
def Db {l:List UInt8} (h:∀ b∈l,IA.contains b=true):Ar l<10^l.length:=by
 have key:∀ (l:List UInt8) (v:Nat),(∀ b∈l,IA.contains b=true)->l.foldl (fun v b=>v*10+(b.toNat-48)) v<(v+1)*10^l.length:=by
  intro l;induction l with
  | nil=>intro v _;simp
  | cons b l ih =>intro v hl;have hb:=dig_range (hl b (AfS ..));have:=ih (v*10+(b.toNat-48)) (fun c hc=>hl c (AfM _ hc));rw[List.foldl_cons,AeJ,AeL];refine Adk this ?_;rw[Afd (10^l.length) 10,<-AeU];exact Nat.mul_le_mul_right _ (by omega)
 have:=key l 0 h;rw[Afq,Age] at this;exact this
def cells_nums {l:List UInt8}:(l.map fun b=>D.int .u8 (b.toNat:Int))=AF .u8 (BO l):=by simp[AF,BO]
def E2 {s:List UInt8} (h:decOk s=true):(∀ b∈decF s++decB s,IA.contains b=true)/\(decF s++decB s).length<=24/\(decB s).length<=9:=by
 unfold decOk at h;rw[Ae6,Bool.or_eq_true] at h;obtain ⟨h1,h2⟩:=h;unfold digB at h1;rw[Ae6,decide_eq_true_eq] at h1;have hb:(decB s).length<=9/\∀ b∈decB s,IA.contains b=true:=by
  rcases h2 with h2 | h2
  ·have e:decB s=[]:=Ra (by simpa using h2);rw[e];exact ⟨by simp,fun b hb=>by cases hb⟩
  unfold digB at h2;rw[Ae6,decide_eq_true_eq] at h2;exact ⟨by omega,fun b hb=>Afk.1 h2.2 b hb⟩
 refine ⟨fun b hb'=>?_,by rw[Ae8];omega,hb.1⟩;rcases AfJ.1 hb' with h | h
 ·exact Afk.1 h1.2 b h
 exact hb.2 b h
def Dv:toW 10=[10]:=by rw[Fi (by decide),show 10 / B=0 from rfl,Bb];rfl
def BI {n k:Nat} (h:n<10^k):(toW n).length<=k:=CG (Adk h (Nat.pow_le_pow_left (by decide) _))
def Xb (c:UInt8):∀ s:List UInt8,(cutL c s).length+(cutR c s).length<=s.length
 | []=>by simp[cutL,cutR]
 | b::l=>by
   have ih:=Xb c l;rw[cutL,cutR];by_cases e:b=c;·rw[if_pos e,if_pos e,AeJ,Afn];omega
   rw[if_neg e,if_neg e,AeJ,AeJ];omega
def decimalF_spec (hG:HG G) (s:List UInt8) (hs:s.length<=9223372036854775807):Ctr TP G 102 [.d (S s)] [] (.d (.tup [if decOk s=true then Frac (decVal s) else Zf,.bool (decOk s)])) []:=by
 have hG':=hG;unfold HG at hG;refine Ctr.pure (M:=M0) Am Tryz.func102 rfl AeH ?_;simp only[Tryz.f102,↓Aa,Ac,↓reduceIte,Qv];refine Ad.pure (cutPrefix_spec s [45]) ?_;have hbody:(decBody s).length<=s.length:=by
  unfold decBody;split;·simp
  split<;>simp
 have lsum:=Xb 46 (decBody s);have l1:=Uv (c:=46) (decBody s);have l2:=Ut (c:=46) (decBody s);have hno:decide (46∈decBody s)=false->decB s=[]:=fun h=>Ra (of_decide_eq_false h);have hok:decOk s=(digB (decF s) 15 && (!decide (46∈decBody s) || digB (decB s) 9)):=rfl;have hdv:decVal s=Rat.divInt (if FM s then -(Ar (decF s++decB s):Int) else (Ar (decF s++decB s):Int)) ((10^(decB s).length:Nat):Int):=rfl;have f1:cutL 46 (decBody s)=decF s:=rfl;have f2:cutR 46 (decBody s)=decB s:=rfl;rw[f1] at l1;rw[f2] at l2;rw[f1,f2] at lsum;cases h45:hasP s [45]
 ·simp(disch:=(try simp only[Ab]);omega)only[↓Aa,Ac,↓reduceIte,Qu];refine Ad.pure (Ms s [43]) ?_;have eb:(if hasP s [43] then s.drop ([43]:List UInt8).length else s)=decBody s:=by rw[decBody,h45];rfl
  have en:FM s=false:=h45;rw[eb];rw[en] at hdv;simp only[↓Aa,Ac,↓reduceIte];refine Ad.pure (cut_spec (decBody s) 46 (by omega)) ?_;rw[f1,f2];simp(disch:=(try simp only[Ab]);omega)only[↓Aa,Ac,↓reduceIte,Qu];refine Ad.pure (Gh (decF s) 15 (by omega)) ?_;cases d1:digB (decF s) 15;·rw[hok,d1,Af5];simp(disch:=(try simp only[Ab]);omega)only[↓Aa,Ac,↓reduceIte,↓Qe,Qu];first | done | rfl
  rw[d1,AfP] at hok;cases dp:decide (46∈decBody s)
  ·rw[dp,Af6,Agb] at hok;obtain ⟨hall,hlen,hlb⟩:=E2 hok;have hsm:∀ i,i<=(decF s++decB s).length->(toW (Ar ((decF s++decB s).take i))).length<=30:=fun i hi=>by
    have h:=Db (l:=(decF s++decB s).take i) fun b hb=>hall b (Ado hb);exact BI (Adk h (Adl (by decide) (by rw[Adf];omega)))
   have hlt:∀ i,i<=(decF s++decB s).length->Ar ((decF s++decB s).take i)*10<10^30:=fun i hi=>by have h:=Db (l:=(decF s++decB s).take i) fun b hb=>hall b (Ado hb);have h2:10^((decF s++decB s).take i).length<=10^29:=Adl (by decide) (by rw[Adf];omega);have h3:(10:Nat)^30=10^29*10:=rfl;omega
   rw[if_pos hok,hok];generalize hL:decF s++decB s=L at *;simp(disch:=(try simp only[Ab]);omega)only[hG,↓Aa,Ac,↓reduceIte,Qu];refine Ad.of (FP [1] (by decide)) (by rfl) ?_;simp(disch:=(try simp only[Ab]);omega)only[Af,hL,cells_nums,↓Aa,Ac,↓reduceIte,Qu];refine Ak.fr 422212465069220 (α:=Nat) (fun i=>L.length-i) (fun i=>[(9,.d (W (toW (Ar (L.take i))))),(49,.d (.int .i64 i))])
    (fun _=>[.box [.d (.bool false),.d (.sl 0 true []),.d (.bool false),.d (.sl 0 true [])],.row true (A1 .u32 [10]),.row false (AF .u8 (BO L))]) (fun i=>i<=L.length) 0 (Adn _) ?_ ?_
   ·exact ⟨[some 0,some 1,some 2],rfl,by simp,by simp[sA,kZ,SW,AW,Ar,Bb,A1],by simp[HW,BW,SW,AW,A1]⟩
   intro i hi;have lt:=hsm i hi;have nl:=@BX L;simp only[Bi,Aa0,Ac7];rcases Ada i L.length with h1 | h1
   ·have hb:=dig_range (hall _ (mem_getDU (d:=0) h1));have hp:=E3 h1;have ls:=BI (n:=(L.getD i 0).toNat-48) (k:=2) (by omega);have e48:((L.getD i 0).toNat:Int)-48=(((L.getD i 0).toNat-48:Nat):Int):=(by omega)
    have lm:(toW (Ar (L.take i)*10)).length<=40:=BI (Adk (hlt i hi) (by decide));simp(disch:=(try simp only[Ab]);omega)only[Af,nl,↓Aa,Ac,↓reduceIte,Qu];refine Ad.frozenE (Dh (Ar (L.take i)) 10 (by omega) (by rw[Dv];decide)) (by rw[Dv];rfl) ?_;simp(disch:=(try simp only[Ab]);omega)only[e48,↓Aa,Ac,↓reduceIte,Qu];refine Ad.pure (Fp ((L.getD i 0).toNat-48) (by omega)) ?_;simp only[↓Aa,Ac,↓reduceIte,Qu];refine Ad.pure (I3 (Ar (L.take i)*10) ((L.getD i 0).toNat-48) (by omega) (by omega)) ?_;rw[hp];simp(disch:=(try simp only[Ab]);omega)only[↓Aa,Ac,Qu];exact ⟨i+1,h1,by simp only;omega,⟨[some 0,some 1,some 2],rfl,by simp,by simp[SW,AW],by simp[HW,BW,SW,AW]⟩⟩
   obtain rfl:i=L.length:=by omega
   rw[Adj] at *;simp(disch:=(try simp only[Ab]);omega)only[Af,↓Aa,Ac,Qu];refine Ak.fr 9223372036854777380 (α:=Nat) (fun j=>(decB s).length-j) (fun j=>[(11,.d (W (toW (10^j)))),(64,.d (.int .i64 j))])
    (fun _=>[.box [.d (.bool false),.d (.sl 0 true []),.d (.bool false),.d (.sl 0 true [])],.row true (A1 .u32 [10]),.row false (AF .u8 (BO L))]) (fun j=>j<=(decB s).length) 0 (Adn _) ?_ ?_
   ·exact ⟨[some 0,some 1,some 2],rfl,by simp,by simp[sA,kZ,SW,AW,IR],by simp[HW,BW,SW,AW,A1]⟩
   intro j hj;have lj:(toW (10^j)).length<=10:=BI (AeI (by decide) (by omega));simp only[Bi,Aa0,Ac7];rcases Ada j (decB s).length with h2 | h2
   ·simp(disch:=(try simp only[Ab]);omega)only[↓Aa,Ac,↓reduceIte,Qu];refine Ad.frozenE (Dh (10^j) 10 (by omega) (by rw[Dv];decide)) (by rw[Dv];rfl) ?_;rw[<-AeL];simp(disch:=(try simp only[Ab]);omega)only[↓Aa,Ac,↓reduceIte,Qu];exact ⟨j+1,h2,by simp only;omega,⟨[some 0,some 1,some 2],rfl,by simp,by simp[SW,AW],by simp[HW,BW,SW,AW]⟩⟩
   obtain rfl:j=(decB s).length:=by omega
   have hd0:((10^(decB s).length:Nat):Int)≠0:=(by have:0<10^(decB s).length:=Afw (by decide);omega);simp(disch:=(try simp only[Ab]);omega)only[↓Aa,Ac,↓reduceIte,Qu];refine Ad.pure (Cr false (Ar L) (by omega)) ?_;simp only[↓Aa,Ac,↓reduceIte,Qu];refine Ad.pure (Cr false (10^(decB s).length) (by omega)) ?_;simp(disch:=(try simp only[Ab]);omega)only[↓Aa,Ac,↓reduceIte,Qu];refine Ad.of (Fm (if false=true then -(Ar L:Int) else (Ar L:Int)) ((10^(decB s).length:Nat):Int) hd0 (by simp only[sz];split<;>simp<;>omega) (by simp only[sz,Afi];omega)) (by rfl) ?_;rw[<-hdv];simp(disch:=(try simp only[Ab]);omega)only[↓Aa,Ac,↓reduceIte,↓Qe,Qu];first | done | rfl
  rw[dp,Af8,Af9] at hok;simp only[↓Aa,Ac,↓reduceIte];refine Ad.pure (Gh (decB s) 9 (by omega)) ?_;cases d2:digB (decB s) 9;·rw[hok,d2];simp(disch:=(try simp only[Ab]);omega)only[↓Aa,Ac,↓reduceIte,↓Qe,Qu];first | done | rfl
  rw[d2] at hok;obtain ⟨hall,hlen,hlb⟩:=E2 hok;have hsm:∀ i,i<=(decF s++decB s).length->(toW (Ar ((decF s++decB s).take i))).length<=30:=fun i hi=>by have h:=Db (l:=(decF s++decB s).take i) fun b hb=>hall b (Ado hb);exact BI (Adk h (Adl (by decide) (by rw[Adf];omega)))
  have hlt:∀ i,i<=(decF s++decB s).length->Ar ((decF s++decB s).take i)*10<10^30:=fun i hi=>by have h:=Db (l:=(decF s++decB s).take i) fun b hb=>hall b (Ado hb);have h2:10^((decF s++decB s).take i).length<=10^29:=Adl (by decide) (by rw[Adf];omega);have h3:(10:Nat)^30=10^29*10:=rfl;omega
  rw[if_pos hok,hok];generalize hL:decF s++decB s=L at *;simp(disch:=(try simp only[Ab]);omega)only[hG,↓Aa,Ac,↓reduceIte,Qu];refine Ad.of (FP [1] (by decide)) (by rfl) ?_;simp(disch:=(try simp only[Ab]);omega)only[Af,hL,cells_nums,↓Aa,Ac,↓reduceIte,Qu];refine Ak.fr 422212465069220 (α:=Nat) (fun i=>L.length-i) (fun i=>[(9,.d (W (toW (Ar (L.take i))))),(49,.d (.int .i64 i))])
   (fun _=>[.box [.d (.bool false),.d (.sl 0 true []),.d (.bool false),.d (.sl 0 true [])],.row true (A1 .u32 [10]),.row false (AF .u8 (BO L))]) (fun i=>i<=L.length) 0 (Adn _) ?_ ?_
  ·exact ⟨[some 0,some 1,some 2],rfl,by simp,by simp[sA,kZ,SW,AW,Ar,Bb,A1],by simp[HW,BW,SW,AW,A1]⟩
  intro i hi;have lt:=hsm i hi;have nl:=@BX L;simp only[Bi,Aa0,Ac7];rcases Ada i L.length with h1 | h1
  ·have hb:=dig_range (hall _ (mem_getDU (d:=0) h1));have hp:=E3 h1;have ls:=BI (n:=(L.getD i 0).toNat-48) (k:=2) (by omega);have e48:((L.getD i 0).toNat:Int)-48=(((L.getD i 0).toNat-48:Nat):Int):=(by omega)
   have lm:(toW (Ar (L.take i)*10)).length<=40:=BI (Adk (hlt i hi) (by decide));simp(disch:=(try simp only[Ab]);omega)only[Af,nl,↓Aa,Ac,↓reduceIte,Qu];refine Ad.frozenE (Dh (Ar (L.take i)) 10 (by omega) (by rw[Dv];decide)) (by rw[Dv];rfl) ?_;simp(disch:=(try simp only[Ab]);omega)only[e48,↓Aa,Ac,↓reduceIte,Qu];refine Ad.pure (Fp ((L.getD i 0).toNat-48) (by omega)) ?_;simp only[↓Aa,Ac,↓reduceIte,Qu];refine Ad.pure (I3 (Ar (L.take i)*10) ((L.getD i 0).toNat-48) (by omega) (by omega)) ?_;rw[hp];simp(disch:=(try simp only[Ab]);omega)only[↓Aa,Ac,Qu];exact ⟨i+1,h1,by simp only;omega,⟨[some 0,some 1,some 2],rfl,by simp,by simp[SW,AW],by simp[HW,BW,SW,AW]⟩⟩
  obtain rfl:i=L.length:=by omega
  rw[Adj] at *;simp(disch:=(try simp only[Ab]);omega)only[Af,↓Aa,Ac,Qu];refine Ak.fr 9223372036854777380 (α:=Nat) (fun j=>(decB s).length-j) (fun j=>[(11,.d (W (toW (10^j)))),(64,.d (.int .i64 j))])
   (fun _=>[.box [.d (.bool false),.d (.sl 0 true []),.d (.bool false),.d (.sl 0 true [])],.row true (A1 .u32 [10]),.row false (AF .u8 (BO L))]) (fun j=>j<=(decB s).length) 0 (Adn _) ?_ ?_
  ·exact ⟨[some 0,some 1,some 2],rfl,by simp,by simp[sA,kZ,SW,AW,IR],by simp[HW,BW,SW,AW,A1]⟩
  intro j hj;have lj:(toW (10^j)).length<=10:=BI (AeI (by decide) (by omega));simp only[Bi,Aa0,Ac7];rcases Ada j (decB s).length with h2 | h2
  ·simp(disch:=(try simp only[Ab]);omega)only[↓Aa,Ac,↓reduceIte,Qu];refine Ad.frozenE (Dh (10^j) 10 (by omega) (by rw[Dv];decide)) (by rw[Dv];rfl) ?_;rw[<-AeL];simp(disch:=(try simp only[Ab]);omega)only[↓Aa,Ac,↓reduceIte,Qu];exact ⟨j+1,h2,by simp only;omega,⟨[some 0,some 1,some 2],rfl,by simp,by simp[SW,AW],by simp[HW,BW,SW,AW]⟩⟩
  obtain rfl:j=(decB s).length:=by omega
  have hd0:((10^(decB s).length:Nat):Int)≠0:=by have:0<10^(decB s).length:=Afw (by decide);omega
  simp(disch:=(try simp only[Ab]);omega)only[↓Aa,Ac,↓reduceIte,Qu];refine Ad.pure (Cr false (Ar L) (by omega)) ?_;simp only[↓Aa,Ac,↓reduceIte,Qu];refine Ad.pure (Cr false (10^(decB s).length) (by omega)) ?_;simp(disch:=(try simp only[Ab]);omega)only[↓Aa,Ac,↓reduceIte,Qu];refine Ad.of (Fm (if false=true then -(Ar L:Int) else (Ar L:Int)) ((10^(decB s).length:Nat):Int) hd0 (by simp only[sz];split<;>simp<;>omega) (by simp only[sz,Afi];omega)) (by rfl) ?_;rw[<-hdv];simp(disch:=(try simp only[Ab]);omega)only[↓Aa,Ac,↓reduceIte,↓Qe,Qu];first | done | rfl
 have eb:s.drop 1=decBody s:=by rw[decBody,h45];rfl
 have en:FM s=true:=h45;rw[en] at hdv;simp(disch:=(try simp only[Ab]);omega)only[eb,↓Aa,Ac,↓reduceIte,Qu];refine Ad.pure (cut_spec (decBody s) 46 (by omega)) ?_;rw[f1,f2];simp(disch:=(try simp only[Ab]);omega)only[↓Aa,Ac,↓reduceIte,Qu];refine Ad.pure (Gh (decF s) 15 (by omega)) ?_;cases d1:digB (decF s) 15;·rw[hok,d1,Af5];simp(disch:=(try simp only[Ab]);omega)only[↓Aa,Ac,↓reduceIte,↓Qe,Qu];first | done | rfl
 rw[d1,AfP] at hok;cases dp:decide (46∈decBody s)
 ·rw[dp,Af6,Agb] at hok;obtain ⟨hall,hlen,hlb⟩:=E2 hok;have hsm:∀ i,i<=(decF s++decB s).length->(toW (Ar ((decF s++decB s).take i))).length<=30:=fun i hi=>by
   have h:=Db (l:=(decF s++decB s).take i) fun b hb=>hall b (Ado hb);exact BI (Adk h (Adl (by decide) (by rw[Adf];omega)))
  have hlt:∀ i,i<=(decF s++decB s).length->Ar ((decF s++decB s).take i)*10<10^30:=fun i hi=>by have h:=Db (l:=(decF s++decB s).take i) fun b hb=>hall b (Ado hb);have h2:10^((decF s++decB s).take i).length<=10^29:=Adl (by decide) (by rw[Adf];omega);have h3:(10:Nat)^30=10^29*10:=rfl;omega
  rw[if_pos hok,hok];generalize hL:decF s++decB s=L at *;simp(disch:=(try simp only[Ab]);omega)only[hG,↓Aa,Ac,↓reduceIte,Qu];refine Ad.of (FP [1] (by decide)) (by rfl) ?_;simp(disch:=(try simp only[Ab]);omega)only[Af,hL,cells_nums,↓Aa,Ac,↓reduceIte,Qu];refine Ak.fr 422212465069220 (α:=Nat) (fun i=>L.length-i) (fun i=>[(9,.d (W (toW (Ar (L.take i))))),(49,.d (.int .i64 i))])
   (fun _=>[.box [.d (.bool false),.d (.sl 0 true []),.d (.bool false),.d (.sl 0 true [])],.row true (A1 .u32 [10]),.row false (AF .u8 (BO L))]) (fun i=>i<=L.length) 0 (Adn _) ?_ ?_
  ·exact ⟨[some 0,some 1,some 2],rfl,by simp,by simp[sA,kZ,SW,AW,Ar,Bb,A1],by simp[HW,BW,SW,AW,A1]⟩
  intro i hi;have lt:=hsm i hi;have nl:=@BX L;simp only[Bi,Aa0,Ac7];rcases Ada i L.length with h1 | h1
  ·have hb:=dig_range (hall _ (mem_getDU (d:=0) h1));have hp:=E3 h1;have ls:=BI (n:=(L.getD i 0).toNat-48) (k:=2) (by omega);have e48:((L.getD i 0).toNat:Int)-48=(((L.getD i 0).toNat-48:Nat):Int):=(by omega)
   have lm:(toW (Ar (L.take i)*10)).length<=40:=BI (Adk (hlt i hi) (by decide));simp(disch:=(try simp only[Ab]);omega)only[Af,nl,↓Aa,Ac,↓reduceIte,Qu];refine Ad.frozenE (Dh (Ar (L.take i)) 10 (by omega) (by rw[Dv];decide)) (by rw[Dv];rfl) ?_;simp(disch:=(try simp only[Ab]);omega)only[e48,↓Aa,Ac,↓reduceIte,Qu];refine Ad.pure (Fp ((L.getD i 0).toNat-48) (by omega)) ?_;simp only[↓Aa,Ac,↓reduceIte,Qu];refine Ad.pure (I3 (Ar (L.take i)*10) ((L.getD i 0).toNat-48) (by omega) (by omega)) ?_;rw[hp];simp(disch:=(try simp only[Ab]);omega)only[↓Aa,Ac,Qu];exact ⟨i+1,h1,by simp only;omega,⟨[some 0,some 1,some 2],rfl,by simp,by simp[SW,AW],by simp[HW,BW,SW,AW]⟩⟩
  obtain rfl:i=L.length:=by omega
  rw[Adj] at *;simp(disch:=(try simp only[Ab]);omega)only[Af,↓Aa,Ac,Qu];refine Ak.fr 9223372036854777380 (α:=Nat) (fun j=>(decB s).length-j) (fun j=>[(11,.d (W (toW (10^j)))),(64,.d (.int .i64 j))])
   (fun _=>[.box [.d (.bool false),.d (.sl 0 true []),.d (.bool false),.d (.sl 0 true [])],.row true (A1 .u32 [10]),.row false (AF .u8 (BO L))]) (fun j=>j<=(decB s).length) 0 (Adn _) ?_ ?_
  ·exact ⟨[some 0,some 1,some 2],rfl,by simp,by simp[sA,kZ,SW,AW,IR],by simp[HW,BW,SW,AW,A1]⟩
  intro j hj;have lj:(toW (10^j)).length<=10:=BI (AeI (by decide) (by omega));simp only[Bi,Aa0,Ac7];rcases Ada j (decB s).length with h2 | h2
  ·simp(disch:=(try simp only[Ab]);omega)only[↓Aa,Ac,↓reduceIte,Qu];refine Ad.frozenE (Dh (10^j) 10 (by omega) (by rw[Dv];decide)) (by rw[Dv];rfl) ?_;rw[<-AeL];simp(disch:=(try simp only[Ab]);omega)only[↓Aa,Ac,↓reduceIte,Qu];exact ⟨j+1,h2,by simp only;omega,⟨[some 0,some 1,some 2],rfl,by simp,by simp[SW,AW],by simp[HW,BW,SW,AW]⟩⟩
  obtain rfl:j=(decB s).length:=by omega
  have hd0:((10^(decB s).length:Nat):Int)≠0:=by have:0<10^(decB s).length:=Afw (by decide);omega
  simp(disch:=(try simp only[Ab]);omega)only[↓Aa,Ac,↓reduceIte,Qu];refine Ad.pure (Cr true (Ar L) (by omega)) ?_;simp only[↓Aa,Ac,↓reduceIte,Qu];refine Ad.pure (Cr false (10^(decB s).length) (by omega)) ?_;simp only[↓Aa,Ac,↓reduceIte,Qu];refine Ad.of (Fm (if true=true then -(Ar L:Int) else (Ar L:Int)) ((10^(decB s).length:Nat):Int) hd0 (by simp only[sz];split<;>simp<;>omega) (by simp only[sz,Afi];omega)) (by rfl) ?_;rw[<-hdv];simp(disch:=(try simp only[Ab]);omega)only[↓Aa,Ac,↓reduceIte,↓Qe,Qu];first | done | rfl
 rw[dp,Af8,Af9] at hok;simp only[↓Aa,Ac,↓reduceIte];refine Ad.pure (Gh (decB s) 9 (by omega)) ?_;cases d2:digB (decB s) 9;·rw[hok,d2];simp(disch:=(try simp only[Ab]);omega)only[↓Aa,Ac,↓reduceIte,↓Qe,Qu];first | done | rfl
 rw[d2] at hok;obtain ⟨hall,hlen,hlb⟩:=E2 hok;have hsm:∀ i,i<=(decF s++decB s).length->(toW (Ar ((decF s++decB s).take i))).length<=30:=fun i hi=>by have h:=Db (l:=(decF s++decB s).take i) fun b hb=>hall b (Ado hb);exact BI (Adk h (Adl (by decide) (by rw[Adf];omega)))
 have hlt:∀ i,i<=(decF s++decB s).length->Ar ((decF s++decB s).take i)*10<10^30:=fun i hi=>by have h:=Db (l:=(decF s++decB s).take i) fun b hb=>hall b (Ado hb);have h2:10^((decF s++decB s).take i).length<=10^29:=Adl (by decide) (by rw[Adf];omega);have h3:(10:Nat)^30=10^29*10:=rfl;omega
 rw[if_pos hok,hok];generalize hL:decF s++decB s=L at *;simp(disch:=(try simp only[Ab]);omega)only[hG,↓Aa,Ac,↓reduceIte,Qu];refine Ad.of (FP [1] (by decide)) (by rfl) ?_;simp(disch:=(try simp only[Ab]);omega)only[Af,hL,cells_nums,↓Aa,Ac,↓reduceIte,Qu];refine Ak.fr 422212465069220 (α:=Nat) (fun i=>L.length-i) (fun i=>[(9,.d (W (toW (Ar (L.take i))))),(49,.d (.int .i64 i))])
  (fun _=>[.box [.d (.bool false),.d (.sl 0 true []),.d (.bool false),.d (.sl 0 true [])],.row true (A1 .u32 [10]),.row false (AF .u8 (BO L))]) (fun i=>i<=L.length) 0 (Adn _) ?_ ?_
 ·exact ⟨[some 0,some 1,some 2],rfl,by simp,by simp[sA,kZ,SW,AW,Ar,Bb,A1],by simp[HW,BW,SW,AW,A1]⟩
 intro i hi;have lt:=hsm i hi;have nl:=@BX L;simp only[Bi,Aa0,Ac7];rcases Ada i L.length with h1 | h1
 ·have hb:=dig_range (hall _ (mem_getDU (d:=0) h1));have hp:=E3 h1;have ls:=BI (n:=(L.getD i 0).toNat-48) (k:=2) (by omega);have e48:((L.getD i 0).toNat:Int)-48=(((L.getD i 0).toNat-48:Nat):Int):=by omega
  have lm:(toW (Ar (L.take i)*10)).length<=40:=BI (Adk (hlt i hi) (by decide));simp(disch:=(try simp only[Ab]);omega)only[Af,nl,↓Aa,Ac,↓reduceIte,Qu];refine Ad.frozenE (Dh (Ar (L.take i)) 10 (by omega) (by rw[Dv];decide)) (by rw[Dv];rfl) ?_;simp(disch:=(try simp only[Ab]);omega)only[e48,↓Aa,Ac,↓reduceIte,Qu];refine Ad.pure (Fp ((L.getD i 0).toNat-48) (by omega)) ?_;simp only[↓Aa,Ac,↓reduceIte,Qu];refine Ad.pure (I3 (Ar (L.take i)*10) ((L.getD i 0).toNat-48) (by omega) (by omega)) ?_;rw[hp];simp(disch:=(try simp only[Ab]);omega)only[↓Aa,Ac,Qu];exact ⟨i+1,h1,by simp only;omega,⟨[some 0,some 1,some 2],rfl,by simp,by simp[SW,AW],by simp[HW,BW,SW,AW]⟩⟩
 obtain rfl:i=L.length:=by omega
 rw[Adj] at *;simp(disch:=(try simp only[Ab]);omega)only[Af,↓Aa,Ac,Qu];refine Ak.fr 9223372036854777380 (α:=Nat) (fun j=>(decB s).length-j) (fun j=>[(11,.d (W (toW (10^j)))),(64,.d (.int .i64 j))])
  (fun _=>[.box [.d (.bool false),.d (.sl 0 true []),.d (.bool false),.d (.sl 0 true [])],.row true (A1 .u32 [10]),.row false (AF .u8 (BO L))]) (fun j=>j<=(decB s).length) 0 (Adn _) ?_ ?_
 ·exact ⟨[some 0,some 1,some 2],rfl,by simp,by simp[sA,kZ,SW,AW,IR],by simp[HW,BW,SW,AW,A1]⟩
 intro j hj;have lj:(toW (10^j)).length<=10:=BI (AeI (by decide) (by omega));simp only[Bi,Aa0,Ac7];rcases Ada j (decB s).length with h2 | h2
 ·simp(disch:=(try simp only[Ab]);omega)only[↓Aa,Ac,↓reduceIte,Qu];refine Ad.frozenE (Dh (10^j) 10 (by omega) (by rw[Dv];decide)) (by rw[Dv];rfl) ?_;rw[<-AeL];simp(disch:=(try simp only[Ab]);omega)only[↓Aa,Ac,↓reduceIte,Qu];exact ⟨j+1,h2,by simp only;omega,⟨[some 0,some 1,some 2],rfl,by simp,by simp[SW,AW],by simp[HW,BW,SW,AW]⟩⟩
 obtain rfl:j=(decB s).length:=by omega
 have hd0:((10^(decB s).length:Nat):Int)≠0:=by have:0<10^(decB s).length:=Afw (by decide);omega
 simp(disch:=(try simp only[Ab]);omega)only[↓Aa,Ac,↓reduceIte,Qu];refine Ad.pure (Cr true (Ar L) (by omega)) ?_;simp only[↓Aa,Ac,↓reduceIte,Qu];refine Ad.pure (Cr false (10^(decB s).length) (by omega)) ?_;simp only[↓Aa,Ac,↓reduceIte,Qu];refine Ad.of (Fm (if true=true then -(Ar L:Int) else (Ar L:Int)) ((10^(decB s).length:Nat):Int) hd0 (by simp only[sz];split<;>simp<;>omega) (by simp only[sz,Afi];omega)) (by rfl) ?_;rw[<-hdv];simp(disch:=(try simp only[Ab]);omega)only[↓Aa,Ac,↓reduceIte,↓Qe,Qu];first | done | rfl
def isD (c:UInt8):Prop:=48<=c.toNat/\c.toNat<=57
def M4 {c:UInt8}:IA.contains c=true↔isD c:=by
 constructor;·exact dig_range
 intro h;have hc:c=UInt8.ofNat c.toNat:=by simp
 rw[hc];obtain ⟨h1,h2⟩:=h;generalize c.toNat=n at *;rcases (by omega:n=48\/n=49\/n=50\/n=51\/n=52\/n=53\/n=54\/n=55\/n=56\/n=57) with rfl | rfl | rfl | rfl | rfl | rfl | rfl | rfl | rfl | rfl<;>rfl
def digB_iff {l:List UInt8} {m:Int}:digB l m=true↔1<=l.length/\(l.length:Int)<=m/\∀ c∈l,isD c:=by
 unfold digB;rw[Ae6,decide_eq_true_eq,Afk,and_assoc];constructor;·rintro ⟨h1,h2,h3⟩;exact ⟨h1,h2,fun c hc=>M4.1 (h3 c hc)⟩
 rintro ⟨h1,h2,h3⟩;exact ⟨h1,h2,fun c hc=>M4.2 (h3 c hc)⟩
def LF {c:UInt8}:∀ {b:List UInt8} {k:Nat},(∀ d∈b.take k,d≠c)->k<b.length->b.getD k 0=c->c∈b/\cutL c b=b.take k/\cutR c b=b.drop (k+1)
 | [],k,_,h,_=>by cases h
 | d::l,0,_,_,e=>by
   obtain rfl:d=c:=by simpa using e
   simp[cutL,cutR]
 | d::l,k+1,h,hk,e=>by have hd:d≠c:=h d (by simp);obtain ⟨h1,h2,h3⟩:=LF (b:=l) (k:=k) (fun x hx=>h x (by simp[hx])) (by simpa using hk) (by simpa using e);simp[cutL,cutR,hd,h1,h2,h3]
def Hc {c:UInt8} (h:isD c):c≠46:=fun e=>by subst e;obtain ⟨h1,_⟩:=h;exact absurd h1 (by decide)
def cut_all:∀ {b:List UInt8},(∀ d∈b,isD d)->(46:UInt8)∉b/\cutL 46 b=b/\cutR 46 b=[]
 | b,h=>by have hm:(46:UInt8)∉b:=fun hm=>Hc (h _ hm) rfl;exact ⟨hm,((cut_index 46 b).2 hm).2⟩
def SB:∀ {b:List UInt8} {k:Nat},(∀ d∈b.take k,isD d)->k<b.length->¬isD (b.getD k 0)->b.getD k 0≠46->∃ c∈cutL 46 b,¬isD c
 | [],k,_,h,_,_=>by cases h
 | d::l,0,_,_,e,e2=>by have e2:d≠46:=(by simpa using e2);exact ⟨d,by simp[cutL,e2],by simpa using e⟩
 | d::l,k+1,h,hk,e,e2=>by have hd:d≠46:=Hc (h d (by simp));obtain ⟨c,h1,h2⟩:=SB (b:=l) (k:=k) (fun x hx=>h x (by simp[hx])) (by simpa using hk) (by simpa using e) (by simpa using e2);exact ⟨c,by simp[cutL,hd,h1],h2⟩
def okB (b:List UInt8):Bool:=digB (cutL 46 b) 15 && (!decide (46∈b) || digB (cutR 46 b) 9)
def NW {b:List UInt8} {k:Nat} (hk:k<=b.length) (h1:∀ c∈b.take k,isD c) (h2:k<b.length->¬isD (b.getD k 0)) (h:k<1\/15<k):okB b=false:=by
 cases e:okB b with
 | false=>rfl
 | true =>
  exfalso;unfold okB at e;rw[Ae6] at e;obtain ⟨q1,q2,q3⟩:=digB_iff.1 e.1;rcases Ada k b.length with hl | hl
  ·by_cases h46:b.getD k 0=46;·obtain ⟨_,e1,_⟩:=LF (c:=46) (fun d hd=>Hc (h1 d hd)) hl h46;rw[e1,Adf] at q1 q2;omega
   obtain ⟨c,c1,c2⟩:=SB h1 hl (h2 hl) h46;exact c2 (q3 c c1)
  obtain rfl:k=b.length:=by omega
  rw[Adj] at h1;obtain ⟨_,e1,_⟩:=cut_all h1;rw[e1] at q1 q2;omega
def NU {b:List UInt8} (h1:∀ c∈b,isD c) (h3:1<=b.length) (h4:b.length<=15):okB b=true/\cutL 46 b=b/\cutR 46 b=[]:=by obtain ⟨e1,e2,e3⟩:=cut_all h1;refine ⟨?_,e2,e3⟩;unfold okB;rw[e2,digB_iff.2 ⟨h3,by omega,h1⟩,decide_eq_false e1];rfl
def Vv {b:List UInt8} {k:Nat} (h1:∀ c∈b.take k,isD c) (hl:k<b.length) (h2:¬isD (b.getD k 0)) (h46:b.getD k 0≠46):okB b=false:=by
 cases e:okB b with
 | false=>rfl
 | true =>unfold okB at e;rw[Ae6] at e;obtain ⟨c,c1,c2⟩:=SB h1 hl h2 h46;exact absurd ((digB_iff.1 e.1).2.2 c c1) c2
def NV {b:List UInt8} {k:Nat} (h1:∀ c∈b.take k,isD c) (hl:k<b.length) (h46:b.getD k 0=46) (h3:1<=k) (h4:k<=15) :
  okB b=digB (b.drop (k+1)) 9/\cutL 46 b=b.take k/\cutR 46 b=b.drop (k+1):=by
 obtain ⟨e0,e1,e2⟩:=LF (c:=46) (fun d hd=>Hc (h1 d hd)) hl h46;refine ⟨?_,e1,e2⟩;unfold okB;rw[e1,e2,digB_iff.2 ⟨by rw[Adf];omega,by rw[Adf];omega,h1⟩,decide_eq_true e0];simp
def Ft {b:List UInt8} {k:Nat} {p:UInt8->Prop} (h:∀ c∈b.take k,p c) (hk:k<b.length) (hp:p (b.getD k 0)):∀ c∈b.take (k+1),p c:=by
 rw[take_snoc hk];intro c hc;rcases AfJ.1 hc with h' | h'
 ·exact h c h'
 simp at h';subst h';simpa using hp
def Bz (neg:Bool) (b:List UInt8):D:=.tup [.bool (okB b && neg),S (if okB b=true then cutL 46 b else []),S (if okB b=true then cutR 46 b else []),.bool (okB b)]
def rparts_spec (s:List UInt8) (hs:s.length<=9223372036854775807):Ctr TP G 107 [.d (S s)] [] (.d (Bz (FM s) (decBody s))) []:=by
 refine Ctr.pure (M:=M0) Am Tryz.func107 rfl AeC ?_;have hb:(decBody s).length<=s.length:=by
  unfold decBody;split;·simp
  split<;>simp
 have hcase:(s=[]/\decBody s=s/\FM s=false)\/(0<s.length/\(s.getD 0 0).toNat=45/\decBody s=s.drop 1/\FM s=true)\/(0<s.length/\(s.getD 0 0).toNat=43/\decBody s=s.drop 1/\FM s=false)\/(0<s.length/\(s.getD 0 0).toNat≠45/\(s.getD 0 0).toNat≠43/\decBody s=s/\FM s=false):=by
  rcases s with _ | ⟨c,r⟩
  ·exact .inl ⟨rfl,rfl,rfl⟩
  by_cases e1:c=45;·subst e1;exact .inr (.inl ⟨by simp,rfl,rfl,rfl⟩)
  by_cases e2:c=43;·subst e2;exact .inr (.inr (.inl ⟨by simp,rfl,rfl,rfl⟩))
  have n1:hasP (c::r) [45]=false:=by simp[hasP,e1]
  have n2:hasP (c::r) [43]=false:=by simp[hasP,e2]
  refine .inr (.inr (.inr ⟨by simp,fun h=>e1 (UInt8.toNat_inj.1 h),fun h=>e2 (UInt8.toNat_inj.1 h),by simp[decBody,n1,n2],n1⟩))
 rcases hcase with ⟨c1,c2,c3⟩ | ⟨c0,c1,c2,c3⟩ | ⟨c0,c1,c2,c3⟩ | ⟨c0,c1,c1',c2,c3⟩
 ·subst c1;simp(disch:=(try simp only[Ab]);omega)only[Af,Tryz.f107,↓Aa,Ac,↓reduceIte,Qv];have hb:([]:List UInt8).length<=0:=Adm _;rw[c2,c3];refine Ak.fr 4642343326489650161095016453 (α:=Nat) (fun k=>0-k) (fun k=>[(6,.d (.int .i64 k))]) (fun _=>[]) (fun k=>k=0) 0 rfl ?_ ?_;·exact ⟨[],rfl,by simp,by simp[sA,kZ,SW,AW],by simp[HW]⟩
  rintro k rfl;simp only[Bi,Aa0,Ac7];have e0:okB []=false:=rfl;unfold Bz;rw[e0];simp(disch:=(try simp only[Ab]);omega)only[Af,↓Aa,Ac,↓reduceIte,↓Qe];first | done | rfl
 ·simp(disch:=(try simp only[Ab]);omega)only[Af,Tryz.f107,↓Aa,Ac,↓reduceIte,Qv,QF];refine ⟨by rfl,?_⟩;rw[c2] at hb;generalize hB:Agi 1 s=b at *;rw[c2,c3];refine Ak.fr 4642343326489650161095016453 (α:=Nat) (fun k=>b.length-k) (fun k=>[(6,.d (.int .i64 k))]) (fun _=>[]) (fun k=>k<=b.length/\∀ c∈b.take k,isD c) 0 ⟨Adn _,by simp⟩ ?_ ?_;·exact ⟨[],rfl,by simp,by simp[sA,kZ,SW,AW],by simp[HW]⟩
  rintro k ⟨hk,hd⟩;simp only[Bi,Aa0,Ac7]
  have fin:(k<b.length->¬isD (b.getD k 0))->∀ K:Prop,((k<1\/15<k->okB b=false->K)/\(1<=k->k<=15->k=b.length->okB b=true/\cutL 46 b=b/\cutR 46 b=[]->K)/\(1<=k->k<=15->k<b.length->(b.getD k 0).toNat≠46->okB b=false->K) /\
    (1<=k->k<=15->k<b.length->(b.getD k 0).toNat=46->okB b=digB (b.drop (k+1)) 9->cutL 46 b=b.take k->cutR 46 b=b.drop (k+1)->K))->K:=by
   rintro hn K ⟨k1,k2,k3,k4⟩;by_cases q:k<1\/15<k;·exact k1 q (NW hk hd hn q)
   rcases Ada k b.length with hl | hl
   ·by_cases h46:b.getD k 0=46;·obtain ⟨x1,x2,x3⟩:=NV hd hl h46 (by omega) (by omega);exact k4 (by omega) (by omega) hl (by rw[h46];rfl) x1 x2 x3
    exact k3 (by omega) (by omega) hl (fun e=>h46 (UInt8.toNat_inj.1 e)) (Vv hd hl (hn hl) h46)
   obtain rfl:k=b.length:=by omega
   rw[Adj] at hd;exact k2 (by omega) (by omega) rfl (NU hd (by omega) (by omega))
  rcases Ada k b.length with hl | hl
  ·by_cases hg:isD (b.getD k 0);·have hg1:=hg.1;have hg2:=hg.2;simp(disch:=(try simp only[Ab]);omega)only[Af,↓Aa,Ac,↓reduceIte];exact ⟨k+1,⟨hl,Ft hd hl hg⟩,by simp only;omega,⟨[],rfl,by simp,by simp[SW,AW],by simp[HW]⟩⟩
   have hg':(b.getD k 0).toNat<48\/57<(b.getD k 0).toNat:=(by unfold isD at hg;omega);rcases hg' with hg' | hg'
   ·refine fin (fun _=>hg) _ ⟨fun q1 q2=>?_,fun q1 q2 q3=>by omega,fun q1 q2 q3 q4 q5=>?_,fun q1 q2 q3 q4 q5 q6 q7=>?_⟩
    ·rcases q1 with q1 | q1
     ·unfold Bz;rw[q2];simp(disch:=(try simp only[Ab]);omega)only[Af,↓Aa,Ac,↓reduceIte,↓Qe];first | done | rfl
     unfold Bz;rw[q2];simp(disch:=(try simp only[Ab]);omega)only[Af,↓Aa,Ac,↓reduceIte,↓Qe];first | done | rfl
    ·unfold Bz;rw[q5];simp(disch:=(try simp only[Ab]);omega)only[Af,↓Aa,Ac,↓reduceIte,↓Qe];first | done | rfl
    skip
    have hp3:(b.drop (k+1)).length=b.length-(k+1):=AfD ..;have hlk:(b.take k).length=k:=(by rw[Adf];omega)
    unfold Bz;rw[q5,q6,q7];generalize hP:b.drop (k+1)=p at *;by_cases hp1:p.length<1
    ·have e0:digB p 9=false:=by
      cases e:digB p 9 with
      | false=>rfl
      | true=>have:=(digB_iff.1 e).1;omega
     rw[e0];simp(disch:=(try simp only[Ab]);omega)only[Af,hP,↓Aa,Ac,↓reduceIte,↓Qe];first | done | rfl
    by_cases hp2:9<p.length
    ·have e0:digB p 9=false:=by
      cases e:digB p 9 with
      | false=>rfl
      | true=>have:=(digB_iff.1 e).2.1;omega
     rw[e0];simp(disch:=(try simp only[Ab]);omega)only[Af,hP,↓Aa,Ac,↓reduceIte,↓Qe];first | done | rfl
    simp(disch:=(try simp only[Ab]);omega)only[Af,hP,↓Aa,Ac,↓reduceIte];refine Ak.fr 0 (α:=Nat) (fun i=>p.length-i) (fun i=>[(2,.d (.bool true)),(3,.d (S (b.take k))),(4,.d (S p)),(7,.d (.int .i64 i))]) (fun _=>[]) (fun i=>i<=p.length/\∀ c∈p.take i,isD c) 0 ⟨Adn _,by simp⟩ ?_ ?_;·exact ⟨[],rfl,by simp,by simp[sA,kZ,SW,AW],by simp[HW]⟩
    rintro i ⟨hi,hdi⟩;simp only[Bi,Ac7];rcases Ada i p.length with hil | hil
    ·by_cases hgi:isD (p.getD i 0);·have hg1:=hgi.1;have hg2:=hgi.2;simp(disch:=(try simp only[Ab]);omega)only[Af,↓Aa,Ac,↓reduceIte];exact ⟨i+1,⟨hil,Ft hdi hil hgi⟩,by simp only;omega,⟨[],rfl,by simp,by simp[SW,AW],by simp[HW]⟩⟩
     have e0:digB p 9=false:=by
      cases e:digB p 9 with
      | false=>rfl
      | true=>exact absurd ((digB_iff.1 e).2.2 _ (mem_getDU hil)) hgi
     have hg':(p.getD i 0).toNat<48\/57<(p.getD i 0).toNat:=(by unfold isD at hgi;omega);rw[e0];rcases hg' with hg' | hg'
     ·simp(disch:=(try simp only[Ab]);omega)only[Af,↓Aa,Ac,↓reduceIte,↓Qe];first | done | rfl
     simp(disch:=(try simp only[Ab]);omega)only[Af,↓Aa,Ac,↓reduceIte,↓Qe];first | done | rfl
    obtain rfl:i=p.length:=by omega
    rw[Adj] at hdi;have e0:digB p 9=true:=digB_iff.2 ⟨by omega,by omega,hdi⟩;rw[e0];simp(disch:=(try simp only[Ab]);omega)only[Af,↓Aa,Ac,↓reduceIte,↓Qe];first | done | rfl
   refine fin (fun _=>hg) _ ⟨fun q1 q2=>?_,fun q1 q2 q3=>by omega,fun q1 q2 q3 q4 q5=>?_,fun q1 q2 q3 q4 q5 q6 q7=>?_⟩
   ·rcases q1 with q1 | q1
    ·unfold Bz;rw[q2];simp(disch:=(try simp only[Ab]);omega)only[Af,↓Aa,Ac,↓reduceIte,↓Qe];first | done | rfl
    unfold Bz;rw[q2];simp(disch:=(try simp only[Ab]);omega)only[Af,↓Aa,Ac,↓reduceIte,↓Qe];first | done | rfl
   ·unfold Bz;rw[q5];simp(disch:=(try simp only[Ab]);omega)only[Af,↓Aa,Ac,↓reduceIte,↓Qe];first | done | rfl
   omega
  obtain rfl:k=b.length:=by omega
  refine fin (fun h=>absurd h (AfQ _)) _ ⟨fun q1 q2=>?_,fun q1 q2 q3 q4=>?_,fun q1 q2 q3=>by omega,fun q1 q2 q3=>by omega⟩
  ·rcases q1 with q1 | q1
   ·unfold Bz;rw[q2];simp(disch:=(try simp only[Ab]);omega)only[Af,↓Aa,Ac,↓reduceIte,↓Qe];first | done | rfl
   unfold Bz;rw[q2];simp(disch:=(try simp only[Ab]);omega)only[Af,↓Aa,Ac,↓reduceIte,↓Qe];first | done | rfl
  obtain ⟨x1,x2,x3⟩:=q4;unfold Bz;rw[x1,x2,x3];simp(disch:=(try simp only[Ab]);omega)only[Af,↓Aa,Ac,↓reduceIte,↓Qe];first | done | rfl
 ·simp(disch:=(try simp only[Ab]);omega)only[Af,Tryz.f107,↓Aa,Ac,↓reduceIte,Qv,QF];refine ⟨by rfl,?_⟩;rw[c2] at hb;generalize hB:Agi 1 s=b at *;rw[c2,c3];refine Ak.fr 4642343326489650161095016453 (α:=Nat) (fun k=>b.length-k) (fun k=>[(6,.d (.int .i64 k))]) (fun _=>[]) (fun k=>k<=b.length/\∀ c∈b.take k,isD c) 0 ⟨Adn _,by simp⟩ ?_ ?_;·exact ⟨[],rfl,by simp,by simp[sA,kZ,SW,AW],by simp[HW]⟩
  rintro k ⟨hk,hd⟩;simp only[Bi,Aa0,Ac7]
  have fin:(k<b.length->¬isD (b.getD k 0))->∀ K:Prop,((k<1\/15<k->okB b=false->K)/\(1<=k->k<=15->k=b.length->okB b=true/\cutL 46 b=b/\cutR 46 b=[]->K)/\(1<=k->k<=15->k<b.length->(b.getD k 0).toNat≠46->okB b=false->K) /\
    (1<=k->k<=15->k<b.length->(b.getD k 0).toNat=46->okB b=digB (b.drop (k+1)) 9->cutL 46 b=b.take k->cutR 46 b=b.drop (k+1)->K))->K:=by
   rintro hn K ⟨k1,k2,k3,k4⟩;by_cases q:k<1\/15<k;·exact k1 q (NW hk hd hn q)
   rcases Ada k b.length with hl | hl
   ·by_cases h46:b.getD k 0=46;·obtain ⟨x1,x2,x3⟩:=NV hd hl h46 (by omega) (by omega);exact k4 (by omega) (by omega) hl (by rw[h46];rfl) x1 x2 x3
    exact k3 (by omega) (by omega) hl (fun e=>h46 (UInt8.toNat_inj.1 e)) (Vv hd hl (hn hl) h46)
   obtain rfl:k=b.length:=by omega
   rw[Adj] at hd;exact k2 (by omega) (by omega) rfl (NU hd (by omega) (by omega))
  rcases Ada k b.length with hl | hl
  ·by_cases hg:isD (b.getD k 0);·have hg1:=hg.1;have hg2:=hg.2;simp(disch:=(try simp only[Ab]);omega)only[Af,↓Aa,Ac,↓reduceIte];exact ⟨k+1,⟨hl,Ft hd hl hg⟩,by simp only;omega,⟨[],rfl,by simp,by simp[SW,AW],by simp[HW]⟩⟩
   have hg':(b.getD k 0).toNat<48\/57<(b.getD k 0).toNat:=(by unfold isD at hg;omega);rcases hg' with hg' | hg'
   ·refine fin (fun _=>hg) _ ⟨fun q1 q2=>?_,fun q1 q2 q3=>by omega,fun q1 q2 q3 q4 q5=>?_,fun q1 q2 q3 q4 q5 q6 q7=>?_⟩
    ·rcases q1 with q1 | q1
     ·unfold Bz;rw[q2];simp(disch:=(try simp only[Ab]);omega)only[Af,↓Aa,Ac,↓reduceIte,↓Qe];first | done | rfl
     unfold Bz;rw[q2];simp(disch:=(try simp only[Ab]);omega)only[Af,↓Aa,Ac,↓reduceIte,↓Qe];first | done | rfl
    ·unfold Bz;rw[q5];simp(disch:=(try simp only[Ab]);omega)only[Af,↓Aa,Ac,↓reduceIte,↓Qe];first | done | rfl
    skip
    have hp3:(b.drop (k+1)).length=b.length-(k+1):=AfD ..;have hlk:(b.take k).length=k:=(by rw[Adf];omega)
    unfold Bz;rw[q5,q6,q7];generalize hP:b.drop (k+1)=p at *;by_cases hp1:p.length<1
    ·have e0:digB p 9=false:=by
      cases e:digB p 9 with
      | false=>rfl
      | true=>have:=(digB_iff.1 e).1;omega
     rw[e0];simp(disch:=(try simp only[Ab]);omega)only[Af,hP,↓Aa,Ac,↓reduceIte,↓Qe];first | done | rfl
    by_cases hp2:9<p.length
    ·have e0:digB p 9=false:=by
      cases e:digB p 9 with
      | false=>rfl
      | true=>have:=(digB_iff.1 e).2.1;omega
     rw[e0];simp(disch:=(try simp only[Ab]);omega)only[Af,hP,↓Aa,Ac,↓reduceIte,↓Qe];first | done | rfl
    simp(disch:=(try simp only[Ab]);omega)only[Af,hP,↓Aa,Ac,↓reduceIte];refine Ak.fr 0 (α:=Nat) (fun i=>p.length-i) (fun i=>[(2,.d (.bool false)),(3,.d (S (b.take k))),(4,.d (S p)),(7,.d (.int .i64 i))]) (fun _=>[]) (fun i=>i<=p.length/\∀ c∈p.take i,isD c) 0 ⟨Adn _,by simp⟩ ?_ ?_;·exact ⟨[],rfl,by simp,by simp[sA,kZ,SW,AW],by simp[HW]⟩
    rintro i ⟨hi,hdi⟩;simp only[Bi,Ac7];rcases Ada i p.length with hil | hil
    ·by_cases hgi:isD (p.getD i 0);·have hg1:=hgi.1;have hg2:=hgi.2;simp(disch:=(try simp only[Ab]);omega)only[Af,↓Aa,Ac,↓reduceIte];exact ⟨i+1,⟨hil,Ft hdi hil hgi⟩,by simp only;omega,⟨[],rfl,by simp,by simp[SW,AW],by simp[HW]⟩⟩
     have e0:digB p 9=false:=by
      cases e:digB p 9 with
      | false=>rfl
      | true=>exact absurd ((digB_iff.1 e).2.2 _ (mem_getDU hil)) hgi
     have hg':(p.getD i 0).toNat<48\/57<(p.getD i 0).toNat:=(by unfold isD at hgi;omega);rw[e0];rcases hg' with hg' | hg'
     ·simp(disch:=(try simp only[Ab]);omega)only[Af,↓Aa,Ac,↓reduceIte,↓Qe];first | done | rfl
     simp(disch:=(try simp only[Ab]);omega)only[Af,↓Aa,Ac,↓reduceIte,↓Qe];first | done | rfl
    obtain rfl:i=p.length:=by omega
    rw[Adj] at hdi;have e0:digB p 9=true:=digB_iff.2 ⟨by omega,by omega,hdi⟩;rw[e0];simp(disch:=(try simp only[Ab]);omega)only[Af,↓Aa,Ac,↓reduceIte,↓Qe];first | done | rfl
   refine fin (fun _=>hg) _ ⟨fun q1 q2=>?_,fun q1 q2 q3=>by omega,fun q1 q2 q3 q4 q5=>?_,fun q1 q2 q3 q4 q5 q6 q7=>?_⟩
   ·rcases q1 with q1 | q1
    ·unfold Bz;rw[q2];simp(disch:=(try simp only[Ab]);omega)only[Af,↓Aa,Ac,↓reduceIte,↓Qe];first | done | rfl
    unfold Bz;rw[q2];simp(disch:=(try simp only[Ab]);omega)only[Af,↓Aa,Ac,↓reduceIte,↓Qe];first | done | rfl
   ·unfold Bz;rw[q5];simp(disch:=(try simp only[Ab]);omega)only[Af,↓Aa,Ac,↓reduceIte,↓Qe];first | done | rfl
   omega
  obtain rfl:k=b.length:=by omega
  refine fin (fun h=>absurd h (AfQ _)) _ ⟨fun q1 q2=>?_,fun q1 q2 q3 q4=>?_,fun q1 q2 q3=>by omega,fun q1 q2 q3=>by omega⟩
  ·rcases q1 with q1 | q1
   ·unfold Bz;rw[q2];simp(disch:=(try simp only[Ab]);omega)only[Af,↓Aa,Ac,↓reduceIte,↓Qe];first | done | rfl
   unfold Bz;rw[q2];simp(disch:=(try simp only[Ab]);omega)only[Af,↓Aa,Ac,↓reduceIte,↓Qe];first | done | rfl
  obtain ⟨x1,x2,x3⟩:=q4;unfold Bz;rw[x1,x2,x3];simp(disch:=(try simp only[Ab]);omega)only[Af,↓Aa,Ac,↓reduceIte,↓Qe];first | done | rfl
 simp(disch:=(try simp only[Ab]);omega)only[Af,Tryz.f107,↓Aa,Ac,↓reduceIte,Qv];rw[c2,c3];refine Ak.fr 4642343326489650161095016453 (α:=Nat) (fun k=>s.length-k) (fun k=>[(6,.d (.int .i64 k))]) (fun _=>[]) (fun k=>k<=s.length/\∀ c∈s.take k,isD c) 0 ⟨Adn _,by simp⟩ ?_ ?_;·exact ⟨[],rfl,by simp,by simp[sA,kZ,SW,AW],by simp[HW]⟩
 rintro k ⟨hk,hd⟩;simp only[Bi,Aa0,Ac7]
 have fin:(k<s.length->¬isD (s.getD k 0))->∀ K:Prop,((k<1\/15<k->okB s=false->K)/\(1<=k->k<=15->k=s.length->okB s=true/\cutL 46 s=s/\cutR 46 s=[]->K)/\(1<=k->k<=15->k<s.length->(s.getD k 0).toNat≠46->okB s=false->K) /\
   (1<=k->k<=15->k<s.length->(s.getD k 0).toNat=46->okB s=digB (s.drop (k+1)) 9->cutL 46 s=s.take k->cutR 46 s=s.drop (k+1)->K))->K:=by
  rintro hn K ⟨k1,k2,k3,k4⟩;by_cases q:k<1\/15<k;·exact k1 q (NW hk hd hn q)
  rcases Ada k s.length with hl | hl
  ·by_cases h46:s.getD k 0=46;·obtain ⟨x1,x2,x3⟩:=NV hd hl h46 (by omega) (by omega);exact k4 (by omega) (by omega) hl (by rw[h46];rfl) x1 x2 x3
   exact k3 (by omega) (by omega) hl (fun e=>h46 (UInt8.toNat_inj.1 e)) (Vv hd hl (hn hl) h46)
  obtain rfl:k=s.length:=by omega
  rw[Adj] at hd;exact k2 (by omega) (by omega) rfl (NU hd (by omega) (by omega))
 rcases Ada k s.length with hl | hl
 ·by_cases hg:isD (s.getD k 0);·have hg1:=hg.1;have hg2:=hg.2;simp(disch:=(try simp only[Ab]);omega)only[Af,↓Aa,Ac,↓reduceIte];exact ⟨k+1,⟨hl,Ft hd hl hg⟩,by simp only;omega,⟨[],rfl,by simp,by simp[SW,AW],by simp[HW]⟩⟩
  have hg':(s.getD k 0).toNat<48\/57<(s.getD k 0).toNat:=by unfold isD at hg;omega
  rcases hg' with hg' | hg'
  ·refine fin (fun _=>hg) _ ⟨fun q1 q2=>?_,fun q1 q2 q3=>by omega,fun q1 q2 q3 q4 q5=>?_,fun q1 q2 q3 q4 q5 q6 q7=>?_⟩
   ·rcases q1 with q1 | q1
    ·unfold Bz;rw[q2];simp(disch:=(try simp only[Ab]);omega)only[Af,↓Aa,Ac,↓reduceIte,↓Qe];first | done | rfl
    unfold Bz;rw[q2];simp(disch:=(try simp only[Ab]);omega)only[Af,↓Aa,Ac,↓reduceIte,↓Qe];first | done | rfl
   ·unfold Bz;rw[q5];simp(disch:=(try simp only[Ab]);omega)only[Af,↓Aa,Ac,↓reduceIte,↓Qe];first | done | rfl
   skip
   have hp3:(s.drop (k+1)).length=s.length-(k+1):=AfD ..;have hlk:(s.take k).length=k:=(by rw[Adf];omega)
   unfold Bz;rw[q5,q6,q7];generalize hP:s.drop (k+1)=p at *;by_cases hp1:p.length<1
   ·have e0:digB p 9=false:=by
     cases e:digB p 9 with
     | false=>rfl
     | true=>have:=(digB_iff.1 e).1;omega
    rw[e0];simp(disch:=(try simp only[Ab]);omega)only[Af,hP,↓Aa,Ac,↓reduceIte,↓Qe];first | done | rfl
   by_cases hp2:9<p.length
   ·have e0:digB p 9=false:=by
     cases e:digB p 9 with
     | false=>rfl
     | true=>have:=(digB_iff.1 e).2.1;omega
    rw[e0];simp(disch:=(try simp only[Ab]);omega)only[Af,hP,↓Aa,Ac,↓reduceIte,↓Qe];first | done | rfl
   simp(disch:=(try simp only[Ab]);omega)only[Af,hP,↓Aa,Ac,↓reduceIte];refine Ak.fr 0 (α:=Nat) (fun i=>p.length-i) (fun i=>[(2,.d (.bool false)),(3,.d (S (s.take k))),(4,.d (S p)),(7,.d (.int .i64 i))]) (fun _=>[]) (fun i=>i<=p.length/\∀ c∈p.take i,isD c) 0 ⟨Adn _,by simp⟩ ?_ ?_;·exact ⟨[],rfl,by simp,by simp[sA,kZ,SW,AW],by simp[HW]⟩
   rintro i ⟨hi,hdi⟩;simp only[Bi,Ac7];rcases Ada i p.length with hil | hil
   ·by_cases hgi:isD (p.getD i 0);·have hg1:=hgi.1;have hg2:=hgi.2;simp(disch:=(try simp only[Ab]);omega)only[Af,↓Aa,Ac,↓reduceIte];exact ⟨i+1,⟨hil,Ft hdi hil hgi⟩,by simp only;omega,⟨[],rfl,by simp,by simp[SW,AW],by simp[HW]⟩⟩
    have e0:digB p 9=false:=by
     cases e:digB p 9 with
     | false=>rfl
     | true=>exact absurd ((digB_iff.1 e).2.2 _ (mem_getDU hil)) hgi
    have hg':(p.getD i 0).toNat<48\/57<(p.getD i 0).toNat:=(by unfold isD at hgi;omega);rw[e0];rcases hg' with hg' | hg'
    ·simp(disch:=(try simp only[Ab]);omega)only[Af,↓Aa,Ac,↓reduceIte,↓Qe];first | done | rfl
    simp(disch:=(try simp only[Ab]);omega)only[Af,↓Aa,Ac,↓reduceIte,↓Qe];first | done | rfl
   obtain rfl:i=p.length:=by omega
   rw[Adj] at hdi;have e0:digB p 9=true:=digB_iff.2 ⟨by omega,by omega,hdi⟩;rw[e0];simp(disch:=(try simp only[Ab]);omega)only[Af,↓Aa,Ac,↓reduceIte,↓Qe];first | done | rfl
  refine fin (fun _=>hg) _ ⟨fun q1 q2=>?_,fun q1 q2 q3=>by omega,fun q1 q2 q3 q4 q5=>?_,fun q1 q2 q3 q4 q5 q6 q7=>?_⟩
  ·rcases q1 with q1 | q1
   ·unfold Bz;rw[q2];simp(disch:=(try simp only[Ab]);omega)only[Af,↓Aa,Ac,↓reduceIte,↓Qe];first | done | rfl
   unfold Bz;rw[q2];simp(disch:=(try simp only[Ab]);omega)only[Af,↓Aa,Ac,↓reduceIte,↓Qe];first | done | rfl
  ·unfold Bz;rw[q5];simp(disch:=(try simp only[Ab]);omega)only[Af,↓Aa,Ac,↓reduceIte,↓Qe];first | done | rfl
  omega
 obtain rfl:k=s.length:=by omega
 refine fin (fun h=>absurd h (AfQ _)) _ ⟨fun q1 q2=>?_,fun q1 q2 q3 q4=>?_,fun q1 q2 q3=>by omega,fun q1 q2 q3=>by omega⟩
 ·rcases q1 with q1 | q1
  ·exfalso;omega
  unfold Bz;rw[q2];simp(disch:=(try simp only[Ab]);omega)only[Af,↓Aa,Ac,↓reduceIte,↓Qe];first | done | rfl
 obtain ⟨x1,x2,x3⟩:=q4;unfold Bz;rw[x1,x2,x3];simp(disch:=(try simp only[Ab]);omega)only[Af,↓Aa,Ac,↓reduceIte,↓Qe];first | done | rfl
def Ey (l:List Nat) (hd:Dig l) (hl:l.length<2^60):Ctr TP G 180 [.d (W l)] [] (.d (W (toW (val l)))) []:=by
 refine Ctr.pure (M:=M0) Am Tryz.func180 rfl AdK ?_;simp only[Tryz.f180,↓Aa,Ac,Qv];refine Ak.fr 0 (α:=Nat) (fun k=>k) (fun k=>[(0,.d (.sl k false (A1 .u32 (l.take k))))]) (fun _=>[]) (fun k=>k<=l.length/\val (l.take k)=val l) l.length ⟨Adm _,by simp⟩ ?_ ?_;·exact ⟨[],rfl,by simp,by simp[sA,kZ,SW,AW],by simp[HW]⟩
 rintro k ⟨hk,hv⟩;simp only[Bi,Ac7];rcases k with _ | k
 ·simp(disch:=(try simp only[Ab]);omega)only[↓Aa,Ac,↓reduceIte,↓Qe];have:toW (val l)=[]:=by rw[<-hv];exact Bb
  rw[this];rfl
 have eg:(l.take (k+1)).getD k 0=l.getD k 0:=by rw[AaZ,Afh,if_pos (by omega),<-AaZ]
 have et:(l.take (k+1)).take k=l.take k:=by rw[Af4];congr 1;omega
 simp(disch:=(try simp only[Ab]);omega)only[eg,et,↓Aa,Ac,↓reduceIte,↓Qe];refine ⟨fun h=>⟨k,⟨by omega,?_⟩,Ae7 _,⟨[],rfl,by simp,by simp[SW,AW],by simp[HW]⟩⟩,fun h=>?_⟩;·rw[<-hv,Bw l k,show l.getD k 0=0 by omega];simp
 have:=Te hd (k:=k+1) (by omega) (.inr (by simpa using h));rw[hv] at this;rw[this];simp[W];omega
def Dq (neg:Bool) (l:List Nat) (hd:Dig l) (hl:l.length<2^40):Ctr TP G 147 [.d (.bool neg),.d (W l)] [] (.d (Big (if neg then -(val l:Int) else val l))) []:=by
 refine Ctr.pure (M:=M0) Am Tryz.func147 rfl Ad7 ?_;have hlt:=Ke hd;simp only[Tryz.f147,↓Aa,Ac,↓reduceIte,Qu,Qv];refine Ad.pure (Ey l hd (by omega)) ?_;have:=@H9 (val l);cases neg
 ·simp(disch:=(try simp only[Ab]);omega)only[↓Aa,Ac,↓reduceIte,↓Qe,Qu];simp[Big,SP,W]
 simp(disch:=(try simp only[Ab]);omega)only[↓Aa,Ac,↓reduceIte,↓Qe,Qu];simp[Big,SP,W];omega
def Lj (a b:Nat) (ha:(toW a).length<2^40) (hb:(toW b).length<2^40) :
  Ctr TP G 149 [.d (W (toW a)),.d (W (toW b))] [] (.d (.int .i64 (cmpI a b))) []:=by
 have da:=Bp a;have db:=Bp b;have va:=Bo a;have vb:=Bo b;have la:=@Ev a b;have lb:=@Ev b a;generalize toW a=l at *;generalize toW b=m at *;refine Ctr.pure (M:=M0) Am Tryz.func149 rfl Ad5 ?_;simp(disch:=(try simp only[Ab]);omega)only[Tryz.f149,↓Aa,Ac,↓Qe,Qu,Qv,QE];refine ⟨fun h=>⟨fun h'=>?_,fun h'=>?_⟩,fun h=>?_⟩;·exact (Gk (by have:=la (by omega);omega)).symm
 ·exact (Gl (by have:=lb (by omega);omega)).symm
 have e:l.length=m.length:=by omega
 refine Ak.fr 3 (α:=Nat) (fun k=>k) (fun k=>[(5,.d (.int .i64 ((k:Int)-1)))]) (fun _=>[]) (fun k=>k<=l.length/\l.drop k=m.drop k) l.length ⟨Adm _,by rw[AfB,e,AfB]⟩ ?_ ?_;·exact ⟨[],rfl,by simp,by simp[sA,kZ,SW,AW,e],by simp[HW]⟩
 rintro k ⟨hk,hv⟩;simp only[Bi,Aa0,Ac7];rcases k with _ | k
 ·simp(disch:=(try simp only[Ab]);omega)only[↓Aa,Ac,↓Qe,QB,QE];simp only[Af3] at hv;rw[<-va,<-vb,hv];exact (Fr rfl).symm
 simp(disch:=(try simp only[Ab]);omega)only[↓Aa,Ac,↓reduceIte,↓Qe,QE];refine ⟨by rfl,fun h1=>?_,fun h1=>⟨by rfl,fun h2=>?_,fun h2=>?_⟩⟩;·have:=IP (k:=k) da (by omega) (by omega) hv (by omega);rw[<-va,<-vb];exact (Gk (by omega)).symm
 ·have:=IP (k:=k) db (by omega) (by omega) hv.symm (by omega);rw[<-va,<-vb];exact (Gl (by omega)).symm
 exact ⟨k,⟨by omega,W9 (by omega) (by omega) hv (by omega)⟩,Ae7 _,⟨[],rfl,by simp,by simp[SW,AW],by simp[HW]⟩⟩
def XN (a b:Nat) (ha:(toW a).length<2^40) (hb:(toW b).length<2^40) :
  Ctr TP G 151 [.d (W (toW a)),.d (W (toW b))] [] (.d (W (toW (a*b)))) []:=by
 have da:=Bp a;have db:=Bp b;have va:=Bo a;have vb:=Bo b;generalize toW a=l at *;generalize toW b=m at *;refine Ctr.pure (M:=M0) Am Tryz.func151 rfl Ad3 ?_;simp(disch:=(try simp only[Ab]);omega)only[Tryz.f151,↓Aa,Ac,↓reduceIte,Qu,Qv];refine Ak.fr 35 (α:=Nat × List Nat) (fun x=>l.length-x.1) (fun x=>[(6,.d (.int .i64 x.1))])
  (fun x=>[.row false (A1 .u32 x.2)]) (fun x=>x.1<=l.length/\x.2.length=l.length+m.length/\Dig x.2/\val x.2=val (l.take x.1)*b/\∀ p,x.1+m.length<=p->x.2.getD p 0=0) (0,Afr (l.length+m.length) 0)
  ⟨by simp,by simp,Dig.zeros _,by simp[K8,val],fun p _=>by simp only[AaZ,List.getElem?_replicate];split<;>rfl⟩ ?_ ?_
 ·exact ⟨[some 0],rfl,by simp,by simp[sA,kZ,SW,AW],by simp[HW,BW]⟩
 rintro ⟨i,o⟩ ⟨hi,ho,hd,hv,hz⟩;simp only at hi ho hd hv hz;simp only[Bi,Aa0,Ac7];simp(disch:=(try simp only[Ab]);omega)only[↓Aa,Ac,↓reduceIte];refine ⟨fun h=>?_,fun h=>?_⟩
 ·refine Ak.fr 99 (α:=Nat × List Nat × Nat) (fun x=>m.length-x.1) (fun x=>[(7,.d (.int .u64 x.2.2)),(8,.d (.int .i64 x.1))])
   (fun x=>[.row false (A1 .u32 x.2.1)]) (fun x=>x.1<=m.length/\x.2.1.length=l.length+m.length/\Dig x.2.1/\x.2.2<B/\val x.2.1+B^(i+x.1)*x.2.2=val o+B^i*(l.getD i 0*val (m.take x.1))/\∀ p,i+m.length<=p->x.2.1.getD p 0=0) (0,o,0)
   ⟨by simp,ho,hd,by simp[B],by simp[val],hz⟩ ?_ ?_
  ·exact ⟨[some 0],rfl,by simp,by simp[sA,kZ,SW,AW],by simp[HW,BW]⟩
  rintro ⟨j,q,c⟩ ⟨hj,hq,hdq,hc,hvq,hzq⟩;simp only at hj hq hdq hc hvq hzq;simp only[Bi,Aa0,Ac7];replace hv:=Hid.mk hv;replace hvq:=Hid.mk hvq;have p1:=I7 (da.getD i) (db.getD j);have p2:=hdq.getD (i+j);have p3:c<4294967296:=hc;have p4:q.getD (i+j) 0<4294967296:=p2;have p5:l.getD i 0<4294967296:=da.getD i;have p6:m.getD j 0<4294967296:=db.getD j;simp(disch:=(try simp only[Ab]);omega)only[↓Aa,Ac,↓reduceIte,QD,QF];refine ⟨fun h1=>⟨by rfl,?_⟩,fun h1=>?_⟩
  ·simp only[D0,nats_set];have hsl:c+(l.getD i 0*m.getD j 0+q.getD (i+j) 0)<B*B:=(by simp only[B];omega)
   generalize hg:c+(l.getD i 0*m.getD j 0+q.getD (i+j) 0)=s at hsl ⊢;refine ⟨(j+1,q.set (i+j) (s % B),s / B),⟨by simp only;omega,by simp[hq],hdq.set (AeK _ (by decide)),(Nat.div_lt_iff_lt_mul (by decide)).2 hsl,Nm (by omega) hg.symm hvq.out,fun p hp=>?_⟩,
    by simp only;omega,[some 0],rfl,by simp,by simp[SW,AW,B],by simp[HW,BW,B]⟩
   rw[Gf (by omega)];exact hzq p hp
  have ej:j=m.length:=by omega
  have hvq:=hvq.out;rw[ej,Adi (Adm _),vb] at hvq;refine ⟨(i+1,q.set (i+m.length) c),⟨by simp only;omega,by simp[hq],hdq.set hc,Pm (by omega) (hzq _ (Adm _)) hvq hv.out,fun p hp=>?_⟩,
   by simp only;omega,[some 0],rfl,by simp,by simp[SW,AW],by simp[HW,BW]⟩
  rw[Gf (by omega)];exact hzq p (by omega)
 have e:(D.sl (l.length+m.length) false (A1 .u32 o))=W o:=by simp[W,ho]
 have ei:i=l.length:=by omega
 rw[e];refine Ad.frozen (Ey _ hd ?_) ?_;·omega
 rw[hv,ei,Adi (Adm _),va];simp(disch:=(try simp only[Ab]);omega)only[↓Aa,Ac,↓reduceIte,↓Qe]
def Cb (n:Int) (h1:-9223372036854775808<=n) (h2:n<=9223372036854775807):Ctr TP G 108 [.d (.int .i64 n)] [] (.d (Big n)) []:=by
 refine Ctr.pure (M:=M0) Am Tryz.func108 rfl AeB ?_;have hN:n.natAbs<18446744073709551616:=by omega
 have dg:Dig [n.natAbs % B,n.natAbs / B]:=by
  intro x hx;simp only[Afm,Afy,or_false] at hx;rcases hx with rfl | rfl
  ·exact AeK _ (by decide)
  simp only[B];omega
 have vv:val [n.natAbs % B,n.natAbs / B]=n.natAbs:=by simp only[val,Agc,Agd];exact Afp _ B
 by_cases hn:n<0
 ·have e:IntKind.u64.wrap (0-IntKind.u64.wrap n)=((n.natAbs:Nat):Int):=by simp[IntKind.wrap,IntKind.bits,IntKind.signed];omega
  simp(disch:=(try simp only[Ab]);omega)only[Tryz.f108,e,D0,↓Aa,Ac,↓reduceIte,Qu,Qv,Qz,QD,QF];refine Ad.frozenE (Dq true [n.natAbs % B,n.natAbs / B] dg (by simp)) (by rfl) ?_;rw[vv,if_pos rfl,show -((n.natAbs:Nat):Int)=n by omega];simp(disch:=(try simp only[Ab]);omega)only[↓Aa,Ac,↓reduceIte,↓Qe,Qu];simp[hn]
 have e:IntKind.u64.wrap n=((n.natAbs:Nat):Int):=by simp[IntKind.wrap,IntKind.bits,IntKind.signed];omega
 have e2:n=((n.natAbs:Nat):Int):=by omega
 simp(disch:=(try simp only[Ab]);omega)only[Tryz.f108,e,D0,↓Aa,Ac,↓reduceIte,Qu,Qv,Qz,QD,QF];refine Ad.frozenE (Dq false [n.natAbs % B,n.natAbs / B] dg (by simp)) ?_ ?_;·rfl
 rw[vv,if_neg (by decide),<-e2];simp(disch:=(try simp only[Ab]);omega)only[↓Aa,Ac,↓reduceIte,↓Qe,Qu];simp[hn]
def XR (a b:Nat) (ha:(toW a).length<2^40) (hb:(toW b).length<2^40) :
  Ctr TP G 148 [.d (W (toW a)),.d (W (toW b))] [] (.d (W (Bl (max (toW a).length (toW b).length+1) (a+b)))) []:=by
 have da:=Bp a;have db:=Bp b;have va:=Bo a;have vb:=Bo b;generalize toW a=l at *;generalize toW b=m at *;refine Ctr.pure (M:=M0) Am Tryz.func148 rfl Ad6 ?_;simp only[Tryz.f148,↓Aa,Ac,Qu,Qv];refine Ak.fr 3 (α:=Nat × List Nat × Nat) (fun x=>max l.length m.length-x.1) (fun x=>[(5,.lsl 0 1 0 x.1),(6,.d (.int .u64 x.2.2)),(7,.d (.int .i64 x.1))])
  (fun x=>[.row false (A1 .u32 x.2.1)]) (fun x=>x.1<=max l.length m.length/\x.2.1.length=x.1/\Dig x.2.1/\x.2.2<=1/\val x.2.1+B^x.1*x.2.2=val (l.take x.1)+val (m.take x.1)) (0,[],0) ⟨by simp,rfl,by simp[Dig],by simp,by simp[val]⟩ ?_ ?_
 ·exact ⟨[none],rfl,by simp,by simp[sA,kZ,SW,AW],by simp[HW,A1]⟩
 rintro ⟨k,out,c⟩ ⟨hk,ho,hd,hc,hv⟩;simp only at hk ho hd hc hv;simp only[Bi,Aa0,Ac7];have p1:l.getD k 0<4294967296:=da.getD k;have p2:m.getD k 0<4294967296:=db.getD k;replace hv:=Hid.mk hv;have fin:∀ s,s=l.getD k 0+m.getD k 0+c->k<max l.length m.length->k+1<=max l.length m.length/\(out++[s % B]).length=k+1/\Dig (out++[s % B])/\s / B<=1/\val (out++[s % B])+B^(k+1)*(s / B)=val (l.take (k+1))+val (m.take (k+1)):=fun s hs hk2 =>⟨hk2,by simp[ho],hd.append (by intro x hx;simp at hx;subst hx;exact AeK _ (by decide)),by simp only[B];omega,Xj ho hs hv.out⟩
 have z1:l.length<=k->l.getD k 0=0:=fun h=>by rw[AaZ,Afc h];rfl
 have z2:m.length<=k->m.getD k 0=0:=fun h=>by rw[AaZ,Afc h];rfl
 rcases Ada k l.length with h1 | h1<;>rcases Ada k m.length with h2 | h2
 ·simp(disch:=(try simp only[Ab]);omega)only[D0,↓Aa,Ac,↓reduceIte,Qu,QD,QF];refine ⟨(k+1,out++[(c+l.getD k 0+m.getD k 0) % B],(c+l.getD k 0+m.getD k 0) / B),fin _ (by omega) (by omega),by simp only;omega,[some 2],rfl,by simp,by simp[SW,AW,B],by simp[HW,BW,B]⟩
 ·have:=z2 h2;simp(disch:=(try simp only[Ab]);omega)only[D0,↓Aa,Ac,↓reduceIte,Qu,QD,QF];refine ⟨(k+1,out++[(c+l.getD k 0) % B],(c+l.getD k 0) / B),fin _ (by omega) (by omega),by simp only;omega,[some 2],rfl,by simp,by simp[SW,AW,B],by simp[HW,BW,B]⟩
 ·have:=z1 h1;simp(disch:=(try simp only[Ab]);omega)only[D0,↓Aa,Ac,↓reduceIte,Qu,QD,QF];refine ⟨(k+1,out++[(c+m.getD k 0) % B],(c+m.getD k 0) / B),fin _ (by omega) (by omega),by simp only;omega,[some 2],rfl,by simp,by simp[SW,AW,B],by simp[HW,BW,B]⟩
 simp(disch:=(try simp only[Ab]);omega)only[↓Aa,Ac,↓reduceIte,↓Qe,Qu];have hk':k=max l.length m.length:=by omega
 have hv:=hv.out;rw[Adi (l:=l) (by omega),Adi (l:=m) (by omega),va,vb] at hv;rw[<-Ho (l:=out++[c]) (hd.append (by intro x hx;simp at hx;subst hx;simp only[B];omega)) (by simp;omega) (by rw[B7,ho];simpa[val] using hv)];simp[W,ho]
def Ac8 {x y b:Nat} (hx:x<4294967296) (hy:y<4294967296) (hb:b<=1):IntKind.u32.wrap (-(b:Int)+(x:Int)-(y:Int))=(((x+B-y-b) % B:Nat):Int):=by simp[IntKind.wrap,IntKind.bits,IntKind.signed,B];omega
def Ac9 {x y b:Nat} (hx:x<4294967296) (hy:y<4294967296) (hb:b<=1):(-(b:Int)+(x:Int)-(y:Int)) / 4294967296=-((if x<y+b then 1 else 0:Nat):Int):=by split<;>omega
def GF (a b:Nat) (hab:b<=a) (ha:(toW a).length<2^40) :
  Ctr TP G 150 [.d (W (toW a)),.d (W (toW b))] [] (.d (W (toW (a-b)))) []:=by
 have da:=Bp a;have db:=Bp b;have va:=Bo a;have vb:=Bo b;have hlen:=BD hab;generalize toW a=l at *;generalize toW b=m at *;refine Ctr.pure (M:=M0) Am Tryz.func150 rfl Ad4 ?_;simp only[Tryz.f150,↓Aa,Ac,Qu,Qv];refine Ak.fr 3 (α:=Nat × List Nat × Nat) (fun x=>l.length-x.1) (fun x=>[(5,.lsl 0 1 0 x.1),(6,.d (.int .i64 (-(x.2.2:Int)))),(7,.d (.int .i64 x.1))])
  (fun x=>[.row false (A1 .u32 x.2.1)]) (fun x=>x.1<=l.length/\x.2.1.length=x.1/\Dig x.2.1/\x.2.2<=1/\val x.2.1+val (m.take x.1)=val (l.take x.1)+B^x.1*x.2.2) (0,[],0) ⟨by simp,rfl,by simp[Dig],by simp,by simp[val]⟩ ?_ ?_
 ·exact ⟨[none],rfl,by simp,by simp[sA,kZ,SW,AW],by simp[HW,A1]⟩
 rintro ⟨k,out,c⟩ ⟨hk,ho,hd,hc,hv⟩;simp only at hk ho hd hc hv;simp only[Bi,Aa0,Ac7];have p1:l.getD k 0<4294967296:=da.getD k;have p2:m.getD k 0<4294967296:=db.getD k;have sw:=Ac8 p1 p2 hc;have sc:=Ac9 p1 p2 hc;replace hv:=Hid.mk hv;have fin:∀ s q,s=(l.getD k 0+B-m.getD k 0-c) % B->q=(if l.getD k 0<m.getD k 0+c then 1 else 0)->k<l.length->k+1<=l.length/\(out++[s]).length=k+1/\Dig (out++[s])/\q<=1/\val (out++[s])+val (m.take (k+1))=val (l.take (k+1))+B^(k+1)*q:=fun s q hs hq hk2 =>⟨hk2,by simp[ho],hd.append (by intro x hx;simp at hx;subst hx;rw[hs];exact AeK _ (by decide)),by rw[hq];split<;>omega,VB ho hv.out (by rw[hs,hq];exact IV (da.getD k) (db.getD k) hc)⟩
 have z2:m.length<=k->m.getD k 0=0:=fun h=>by rw[AaZ,Afc h];rfl
 rcases Ada k l.length with h1 | h1
 ·rcases Ada k m.length with h2 | h2
  ·simp(disch:=(try simp only[Ab]);omega)only[sw,sc,↓Aa,Ac,↓reduceIte,Qu,QD,QF];exact ⟨(k+1,out++[(l.getD k 0+B-m.getD k 0-c) % B],if l.getD k 0<m.getD k 0+c then 1 else 0),fin _ _ rfl rfl h1,by simp only;omega,[some 2],rfl,by simp,by simp[SW,AW],by simp[HW,BW]⟩
  have hz:=z2 h2;have sw2:IntKind.u32.wrap (-(c:Int)+(l.getD k 0:Int))=(((l.getD k 0+B-m.getD k 0-c) % B:Nat):Int):=by rw[<-sw,hz];congr 1;omega
  have sc2:(-(c:Int)+(l.getD k 0:Int)) / 4294967296=-((if l.getD k 0<m.getD k 0+c then 1 else 0:Nat):Int):=by rw[<-sc,hz];congr 1;omega
  simp(disch:=(try simp only[Ab]);omega)only[sw2,sc2,↓Aa,Ac,↓reduceIte,Qu,QD,QF];exact ⟨(k+1,out++[(l.getD k 0+B-m.getD k 0-c) % B],if l.getD k 0<m.getD k 0+c then 1 else 0),fin _ _ rfl rfl h1,by simp only;omega,[some 2],rfl,by simp,by simp[SW,AW],by simp[HW,BW]⟩
 simp(disch:=(try simp only[Ab]);omega)only[↓Aa,Ac,↓reduceIte];have ek:k=l.length:=by omega
 have hv:=hv.out;rw[ek,Adi (Adm _),Adi hlen,va,vb] at hv;have h3:=G3 hd;rw[ho,ek] at h3;have hv':val out=a-b:=X6 hv h3 hab hc;refine Ad.frozenE (Ey out hd (by omega)) (by simp[W,ho]) ?_;rw[hv'];simp(disch:=(try simp only[Ab]);omega)only[↓Aa,Ac,↓reduceIte,↓Qe]
def Aa5 {out l:List Nat} {k c x d0:Nat} (ho:out.length=k) (hx:l.getD k 0=x) (hv:val out+B^k*c=2*val (l.take k)+d0) :
  val (out++[(2*x+c) % B])+B^(k+1)*((2*x+c) / B)=2*val (l.take (k+1))+d0:=by
 rw[B7,ho,Bw l k,hx];simp only[val,Agc,Agd];have h1:=Afp (2*x+c) B;have e1:B^(k+1)*((2*x+c) / B)=B^k*(B*((2*x+c) / B)):=by rw[AeL,AeU]
 have e3:B^k*((2*x+c) % B+B*((2*x+c) / B))=B^k*(2*x+c):=by rw[h1]
 rw[e1];simp only[AfZ] at e3 ⊢;have e4:B^k*(2*x)=2*(B^k*x):=AfX ..;omega
def Ac5 {x c:Nat} (hx:x<4294967296) (hc:c<=1):CR .or .u32 (IntKind.u32.wrap ((x:Int)*2)) (c:Int)=(((2*x+c) % B:Nat):Int):=by
 have e1:IntKind.u32.wrap ((x:Int)*2)=((x*2^1 % 4294967296:Nat):Int):=by rw[<-D0];congr 1
 rw[e1,Sn (by decide),DM (by omega) (by omega),Agf,Sb (by omega)];simp only[B];omega
def Nk (a d:Nat) (hd1:d<=1) (ha:(toW a).length<2^40) :
  Ctr TP G 182 [.d (W (toW a)),.d (.int .u32 d)] [] (.d (W (toW (2*a+d)))) []:=by
 have da:=Bp a;have va:=Bo a;generalize toW a=l at *;refine Ctr.pure (M:=M0) Am Tryz.func182 rfl AdI ?_;simp only[Tryz.f182,↓Aa,Ac,Qu,Qv];refine Ak.fr 1 (α:=Nat × List Nat × Nat) (fun x=>l.length-x.1) (fun x=>[(1,.d (.int .u32 x.2.2)),(5,.lsl 0 1 0 x.1),(6,.d (.int .i64 x.1))])
  (fun x=>[.row false (A1 .u32 x.2.1)]) (fun x=>x.1<=l.length/\x.2.1.length=x.1/\Dig x.2.1/\x.2.2<=1/\val x.2.1+B^x.1*x.2.2=2*val (l.take x.1)+d) (0,[],d) ⟨by simp,rfl,by simp[Dig],hd1,by simp[val]⟩ ?_ ?_
 ·exact ⟨[none],rfl,by simp,by simp[sA,kZ,SW,AW],by simp[HW,A1]⟩
 rintro ⟨k,out,c⟩ ⟨hk,ho,hd,hc,hv⟩;simp only at hk ho hd hc hv;simp only[Bi,Aa0,Ac7];have p1:l.getD k 0<4294967296:=da.getD k;replace hv:=Hid.mk hv;rcases Ada k l.length with h1 | h1
 ·have hor:=Ac5 p1 hc;simp(disch:=(try simp only[Ab]);omega)only[hor,↓Aa,Ac,↓reduceIte,Qu,QD,QF];refine ⟨(k+1,out++[(2*l.getD k 0+c) % B],(2*l.getD k 0+c) / B),⟨by simp only;omega,by simp[ho],hd.append (by intro x hx;simp at hx;subst hx;exact AeK _ (by decide)),by simp only[B];omega,Aa5 ho rfl hv.out⟩,by simp only;omega,[some 2],rfl,by simp,?_,by simp[HW,BW]⟩;have e:((l.getD k 0:Nat):Int) / 2147483648=(((2*l.getD k 0+c) / B:Nat):Int):=by simp only[B];omega
  rw[e];simp[SW,AW]
 simp(disch:=(try simp only[Ab]);omega)only[↓Aa,Ac,↓reduceIte,Qu];have hk':k=l.length:=by omega
 have hv:=hv.out;rw[Adi (by omega),va] at hv;have hv':val (out++[c])=2*a+d:=by rw[B7,ho];simpa[val] using hv
 refine Ad.frozenE (Ey (out++[c]) (hd.append (by intro x hx;simp at hx;subst hx;simp only[B];omega)) (by simp;omega)) (by simp[W,ho]) ?_;rw[hv'];simp(disch:=(try simp only[Ab]);omega)only[↓Aa,Ac,↓reduceIte,↓Qe,Qu]
def Aaz (l:List Nat) (i:Nat) (hi:i<32*l.length) (hl:l.length<2^40) (hd:Dig l) :
  Ctr TP G 183 [.d (W l),.d (.int .i64 i)] [] (.d (.int .u32 (l.getD (i / 32) 0 / 2^(i % 32) % 2:Nat))) []:=by
 refine Ctr.pure (M:=M0) Am Tryz.func183 rfl AdH ?_;have p1:l.getD (i / 32) 0<4294967296:=hd.getD (i / 32);have e1:Int.tdiv (i:Int) 32=((i / 32:Nat):Int):=by rw[Afs (by omega)];omega
 have e2:Int.tmod (i:Int) 32=((i % 32:Nat):Int):=by rw[Aft (by omega)];omega
 have e3:min (i % 32) 32=i % 32:=by omega
 have hm:(2:Int)^(i % 32)=((2^(i % 32):Nat):Int):=by simp
 have hle:=AfL (l.getD (i / 32) 0) (2^(i % 32));have e4:CR .and .u32 ((l.getD (i / 32) 0 / 2^(i % 32):Nat):Int) 1=((l.getD (i / 32) 0 / 2^(i % 32) % 2:Nat):Int):=by have:=Em (a:=l.getD (i / 32) 0 / 2^(i % 32)) (b:=1) (by omega) (by omega);rw[AfT] at this;exact this
 simp(disch:=(try simp only[Ab]);omega)only[Tryz.f183,e1,e2,e3,hm,Um,e4,↓Aa,Ac,↓reduceIte,↓Qe,Qu,Qv]
def Abi {l:List Nat} {i v:Nat} (h:i<l.length):(l.set i v).getD i 0=v:=by rw[AaZ,List.getElem?_set_self h];rfl
def Adh {x y:Nat} (hx:x<4294967296):CR .or .u32 ((x / 2:Nat):Int) (IntKind.u32.wrap ((y:Int)*2147483648))=(((y*B+x) / 2^1 % B:Nat):Int):=by
 have e1:IntKind.u32.wrap ((y:Int)*2147483648)=((y*2^31 % 4294967296:Nat):Int):=by rw[<-D0];congr 1
 rw[e1,Sn (by decide),DM (by omega) (by omega),Sb (by omega)];simp only[B];omega
def Ja (a:Nat) (ha:(toW a).length<2^38) :
  Ctr TP G 181 [.d (W (toW a))] [] (.d (W (toW (a / 2)))) []:=by
 have da:=Bp a;have va:=Bo a;have la:=C9 a;have ea:=Nl a;generalize toW a=l at *;refine Ctr.pure (M:=M0) Am Tryz.func181 rfl AdJ ?_;simp(disch:=(try simp only[Ab]);omega)only[Tryz.f181,↓Aa,Ac,↓reduceIte,Qu,Qv];refine Ak.fr 513 (α:=Nat) (fun i=>l.length-i) (fun i=>[(3,.lsl 0 1 0 l.length),(10,.d (.int .i64 i))])
  (fun i=>[.row false (A1 .u32 (BE l.length 1 a i))]) (fun i=>i<=l.length) 0 (Adn _) ?_ ?_
 ·exact ⟨[some 1],rfl,by simp,by simp[sA,kZ,SW,AW],by simp[HW,BW,KR,<-ea]⟩
 intro i hi;simp only[Bi,Aa0,Ac7];have b1:=Dn (s:=1) (r:=a) hi;rcases Ada i l.length with h1 | h1
 ·have b3:=KT (s:=1) (r:=a) h1;have hun:=Wo (r:=a) (i:=i) (show 1<32 by decide);have bs:=Ml (s:=1) (r:=a) h1;have bg:∀ v,((BE l.length 1 a i).set i v).getD i 0=v:=fun v=>Abi (by rw[b1];exact h1);have p1:a / B^i % B<4294967296:=AeK _ (by decide);have p2:l.getD (i+1) 0<4294967296:=da.getD _;rcases Ada (i+1) l.length with h2 | h2
  ·have hy:l.getD (i+1) 0=a / B^(i+1) % B:=by
    have:=GT (k:=l.length) (n:=a) h2;rwa[<-ea] at this
   have hor:=Adh (x:=a / B^i % B) (y:=l.getD (i+1) 0) p1;have ed:((a / B^i % B:Nat):Int) / 2=((a / B^i % B / 2:Nat):Int):=rfl;rw[hy] at hor;have hun':(a / B^(i+1) % B*B+a / B^i % B) / 2^1 % B=a / 2^1 / B^i % B:=hun;rw[hun'] at hor;simp(disch:=(try simp only[Ab]);omega)only[b1,b3,bg,ed,hy,hor,List.set_set,↓Aa,Ac,↓reduceIte,Qx,QD,QF];refine ⟨by rfl,i+1,h1,by simp only;omega,[some 0],rfl,by simp,by simp[SW,AW],?_⟩;simp only[bs];simp[HW,BW]
  have hy:a / B^(i+1)=0:=Afl (Adk la (Adl (by decide) h2));have ed:((a / B^i % B:Nat):Int) / 2=((a / 2^1 / B^i % B:Nat):Int):=by rw[<-hun,hy];simp only[B] at p1 ⊢;omega
  simp(disch:=(try simp only[Ab]);omega)only[b1,b3,ed,↓Aa,Ac,↓reduceIte,Qx,QD,QF];refine ⟨i+1,h1,by simp only;omega,[some 0],rfl,by simp,by simp[SW,AW],?_⟩;simp only[bs];simp[HW,BW]
 simp(disch:=(try simp only[Ab]);omega)only[↓Aa,Ac,↓reduceIte];have ei:i=l.length:=by omega
 subst ei;have er:BE l.length 1 a l.length=Bl l.length (a / 2):=by rw[BE,List.drop_of_length_le (by rw[AK];omega),Afg]
 refine Ad.frozenE (Ey (BE l.length 1 a l.length) Mi (by rw[b1];omega)) (by simp[W,b1]) ?_;rw[er,D7 (by omega)];simp(disch:=(try simp only[Ab]);omega)only[↓Aa,Ac,↓reduceIte,↓Qe]
def JR {k n i:Nat} (h:i<k):(Bl k n).getD i 0=n / B^i % B:=by
 induction k generalizing n i with
 | zero=>omega
 | succ k ih =>
  cases i with
  | zero=>simp[Bl]
  | succ i =>have:=@ih (n / B) i (by omega);simp only[Bl,List.getD_cons_succ,this];rw[AeQ,<-Afx]
def U2:B=2^32:=rfl
def Abj {n X j:Nat} (hj:j / 32<n) (hX:X<B^n) (hd:2^(j+1) ∣ X) :
  (Bl n X).set (j / 32) (X / B^(j / 32) % B ||| 2^(j % 32))=Bl n (X+2^j)/\X / B^(j / 32) % B ||| 2^(j % 32)<4294967296:=by
 have hs:j % 32<32:=AeK _ (by decide);have hw:X / B^(j / 32) % B<4294967296:=AeK _ (by decide);have hlt:X / B^(j / 32) % B ||| 2^(j % 32)<2^32:=Nat.or_lt_two_pow (by omega) (AeI (by decide) hs);have hp:B^(j / 32)*2^(j % 32)=2^j:=by rw[U2,<-AfN,<-Af0,Af2]
 have hm:2^(j % 32+1) ∣ X / B^(j / 32) % B:=by
  have h1:2^(j % 32+1) ∣ B:=by rw[U2];exact Nat.pow_dvd_pow 2 hs
  have h2:2^(j % 32+1) ∣ X / B^(j / 32):=by
   obtain ⟨c,hc⟩:=hd;have:X=B^(j / 32)*(2^(j % 32+1)*c):=by rw[hc,AeL,<-hp,AeL,AeU,AeU,AeU]
   rw[this,Nat.mul_div_cancel_left _ (Afw (by decide))];exact ⟨c,rfl⟩
  exact (Nat.dvd_mod_iff h1).2 h2
 obtain ⟨c,hc⟩:=hm;have hor:X / B^(j / 32) % B ||| 2^(j % 32)=X / B^(j / 32) % B+2^(j % 32):=by rw[Agf,Nat.add_comm,hc,Afd];exact Sb (AeI (by decide) (Ae7 _))
 refine ⟨?_,hlt⟩;refine Ho ((DL _ _).set hlt) (by rw[AfK,AK]) ?_;have h1:=RQ (l:=Bl n X) (p:=j / 32) (d:=X / B^(j / 32) % B ||| 2^(j % 32)) (by rw[AK];exact hj);rw[JR hj,D7 hX,hor,AfZ,hp] at h1;rw[hor];omega
def AbN {a b j:Nat} (hb:0<b):∃ bit r',bit=a / 2^j % 2/\r'=2*(a / 2^(j+1) % b)+bit /\
  (b<=r'->a / 2^j % b=r'-b/\a / 2^j / b*2^j=a / 2^(j+1) / b*2^(j+1)+2^j) /\
  (r'<b->a / 2^j % b=r'/\a / 2^j / b*2^j=a / 2^(j+1) / b*2^(j+1)):=by
 refine ⟨_,_,rfl,rfl,?_⟩;have e1:a / 2^(j+1)=a / 2^j / 2:=by rw[AeL,AeQ]
 have e2:∀ q,q*2^(j+1)=2*q*2^j:=fun q=>by rw[AeL];rw[Afd 2 q,AeU,Afd 2]
 rw[e1];generalize a / 2^j=x;have h1:=Afp x 2;have h2:=Afp (x / 2) b;have h3:=AeK (x / 2) hb;generalize x / 2 / b=q at *;generalize x / 2 % b=r at *;have hx:x=b*(2*q)+(2*r+x % 2):=by have:b*(2*q)=2*(b*q):=AfX ..;omega
 generalize x % 2=c at *;have hc:c<=1\/True:=.inr trivial;refine ⟨fun h=>?_,fun h=>?_⟩
 ·have hq:x / b=2*q+1/\x % b=2*r+c-b:=by
   have hlt:2*r+c-b<b:=(by omega);have:x=(2*r+c-b)+b*(2*q+1):=by rw[AfZ,Agg];omega
   rw[this];exact ⟨by rw[AfO _ _ hb,Afl hlt,Afq],by rw[Afv,AfE hlt]⟩
  rw[hq.1,hq.2,e2,Nat.add_mul,Age];exact ⟨rfl,rfl⟩
 have hq:x / b=2*q/\x % b=2*r+c:=by
  have:x=(2*r+c)+b*(2*q):=by omega
  rw[this];exact ⟨by rw[AfO _ _ hb,Afl h,Afq],by rw[Afv,AfE h]⟩
 rw[hq.1,hq.2,e2];exact ⟨rfl,rfl⟩
def AcV {a j:Nat} (hj:j / 32<(toW a).length):(toW a).getD (j / 32) 0 / 2^(j % 32) % 2=a / 2^j % 2:=by
 have h1:(toW a).getD (j / 32) 0=a / B^(j / 32) % B:=by have:=JR (k:=(toW a).length) (n:=a) hj;rwa[<-Nl a] at this
 rw[h1];have hp:B^(j / 32)*2^(j % 32)=2^j:=by rw[U2,<-AfN,<-Af0,Af2]
 rw[<-hp,<-AeQ];generalize a / B^(j / 32)=y;have hs:j % 32<32:=AeK _ (by decide);have:B=2^(j % 32)*(2*2^(31-j % 32)):=by rw[<-Afx,<-Af0,U2];congr 1;omega
 rw[this,Nat.mod_mul_right_div_self,Nat.mod_mul_right_mod]
def Uq (a b:Nat) (hb:b≠0) (ha:(toW a).length<2^38) (hb':(toW b).length<2^38) :
  Ctr TP G 153 [.d (W (toW a)),.d (W (toW b))] [] (.d (.tup [W (toW (a / b)),W (toW (a % b))])) []:=by
 have da:=Bp a;have la:=C9 a;have hbp:0<b:=Afu hb;have hbit:∀ j,j / 32<(toW a).length->_:=fun j hj=>AcV (a:=a) (j:=j) hj;refine Ctr.pure (M:=M0) Am Tryz.func153 rfl Ad1 ?_;generalize hl:(toW a).length=n at *;have e0:a / 2^(32*n)=0:=Afl (by rw[AfN];exact la);simp(disch:=(try simp only[Ab]);omega)only[Tryz.f153,hl,↓Aa,Ac,↓reduceIte,Qu,Qv];refine Ak.fx 19 (α:=Nat) (β:=Unit) (fun k=>k) (fun k=>[(5,.d (W (toW (a / 2^k % b)))),(6,.d (.int .i64 ((k:Int)-1)))])
  (fun k=>[.row false (A1 .u32 (Bl n (a / 2^k / b*2^k)))]) (fun k=>k<=32*n)
  16 (fun _=>[(5,.d (W (toW (a % b))))]) (fun _=>[.row false (A1 .u32 (Bl n (a / b)))]) (fun _=>True) (32*n) (Adm _) ?_ ?_ ?_
 ·rw[e0,Nat.zero_mod,Nat.zero_div,Nat.zero_mul];have hz:Bl n 0=Afr n 0:=(Ho (Dig.zeros n) (by simp) (K8 n)).symm;refine ⟨[some 0],rfl,by simp,?_,?_⟩;·simp[sA,kZ,SW,AW,Bb,A1]
  simp[HW,BW,hz]
 ·intro k hk;simp only[Bi,Aa0,Ac7];rcases k with _ | j
  ·simp(disch:=(try simp only[Ab]);omega)only[↓Aa,Ac,Qx,QB,QE];refine ⟨(),trivial,[some 0],rfl,by simp,?_,?_⟩;·simp[SW,AW]
   simp[HW,BW]
  have hj:j / 32<n:=by omega
  obtain ⟨bit,r',hbit1,hr',hge,hlt⟩:=AbN (a:=a) (b:=b) (j:=j) hbp;have hb1:bit<=1:=by omega
  have hmod:=AeK (a / 2^(j+1)) hbp;have hrl:(toW (a / 2^(j+1) % b)).length<=(toW b).length:=BD (Nat.le_of_lt hmod);have hrl2:(toW r').length<=(toW b).length+1:=by have h1:=BD (show r'<=b+b by omega);have h2:=@TH b b;omega
  have e2:Int.tdiv (j:Int) 32=((j / 32:Nat):Int):=by rw[Afs (by omega)];omega
  have e3:Int.tmod (j:Int) 32=((j % 32:Nat):Int):=by rw[Aft (by omega)];omega
  have e4:min (j % 32) 32=j % 32:=by omega
  have dl:=AK n (a / 2^(j+1) / b*2^(j+1));simp(disch:=(try simp only[Ab]);omega)only[hl,↓Aa,Ac,↓reduceIte];refine Ad.of (Aaz (toW a) j (by rw[hl];omega) (by omega) da) (by rw[W,hl]) ?_;rw[hbit j hj,<-hbit1];simp only[↓Aa,Ac,↓reduceIte];refine Ad.pure (Nk _ bit hb1 (by omega)) ?_;rw[<-hr'];simp only[↓Aa,Ac,↓reduceIte];refine Ad.pure (Lj r' b (by omega) (by omega)) ?_;by_cases hc:b<=r'
  ·have hge':=hge hc;have hci:(0:Int)<=cmpI (r':Int) b:=(by unfold cmpI;split<;>first | omega | (split<;>omega))
   simp(disch:=(try simp only[Ab]);omega)only[↓Aa,Ac,↓reduceIte];refine Ad.pure (GF r' b hc (by omega)) ?_;have hX:a / 2^(j+1) / b*2^(j+1)<B^n:=(by refine AeT ?_ la;rw[AeQ,Afd (2^(j+1)),<-AeQ];exact AfW (Nat.div_mul_le_self _ _) (AfL _ _))
   obtain ⟨s1,s2⟩:=Abj (n:=n) hj hX ⟨_,Afd _ _⟩;have g1:=JR (k:=n) (n:=a / 2^(j+1) / b*2^(j+1)) hj;have hw1:(2^(j % 32):Int)=((2^(j % 32):Nat):Int):=(by simp)
   have hpl:2^(j % 32)<4294967296:=AeI (m:=j % 32) (n:=32) (by decide) (by omega);have hwr:IntKind.u32.wrap ((2^(j % 32):Nat):Int)=((2^(j % 32):Nat):Int):=(by rw[D0,AfE hpl])
   have hor:=DM (a:=a / 2^(j+1) / b*2^(j+1) / B^(j / 32) % B) (b:=2^(j % 32)) (AeK _ (by decide)) hpl;simp(disch:=(try simp only[Ab]);omega)only[e2,e3,e4,dl,g1,hw1,hwr,hor,Int.one_mul,↓Aa,Ac,↓reduceIte];refine ⟨j,by omega,Ae7 _,[some 0],rfl,by simp,?_,?_⟩;·simp[SW,AW,hge'.1]
   simp[HW,BW,hge'.2,s1]
  have hlt':=hlt (by omega);have hci:cmpI (r':Int) b<0:=by rw[Gk (by omega)];decide
  simp(disch:=(try simp only[Ab]);omega)only[↓Aa,Ac];refine ⟨j,by omega,Ae7 _,[some 0],rfl,by simp,?_,?_⟩;·simp[SW,AW,hlt'.1]
  simp[HW,BW,hlt'.2]
 rintro ⟨⟩ -;simp only[Bi,Aa0,Ac7];simp only[↓Aa,Ac,↓reduceIte];have hq:a / b<B^n:=AeT (AfL _ _) la;refine Ad.frozenE (Ey (Bl n (a / b)) (DL _ _) (by rw[AK];omega)) (by rw[W,AK,Adi (by rw[AK];omega)]) ?_;rw[D7 hq];simp(disch:=(try simp only[Ab]);omega)only[↓Aa,Ac,↓reduceIte,↓Qe]
def Ac6 {a:Nat} (h:a≠0):(toW a).getD 0 0=a % B:=by rw[Fi h];rfl
def and1 {x:Nat} (h:x<4294967296):CR .and .u32 (x:Int) 1=((x % 2:Nat):Int):=by have:=Em (a:=x) (b:=1) h (by decide);rw[AfT] at this;exact this
def MZ {a:Nat} (h:a≠0):CR .and .u32 (((toW a).getD 0 0:Nat):Int) 1=((a % 2:Nat):Int):=by rw[Ac6 h,and1 (show a % B<4294967296 from AeK _ (by decide)),Nat.mod_mod_of_dvd _ (by decide)]
def Uj {a b g:Nat} (h:Aet a b=g) (ha:a % 2=0) (hg:g % 2=1):Aet (a / 2) b=g:=by
 have hb:b % 2=1:=by
  rcases Adp b with hb | hb
  ·have:2 ∣ g:=h▸Nat.dvd_gcd (AeR ha) (AeR hb);omega
  exact hb
 have hc:Nat.Coprime 2 b:=by rw[Nat.Coprime,Nat.gcd_rec,hb];rfl
 have:=Nat.Coprime.gcd_mul_left_cancel (a / 2) hc;rw[<-this,Nat.mul_div_cancel' (AeR ha),h]
def Ye {a b g:Nat} (h:Aet a b=g) (hb:b % 2=0) (hg:g % 2=1):Aet a (b / 2)=g:=by rw[AfG] at h ⊢;exact Uj h hb hg
def AbH {a b:Nat} (h:¬(a % 2=0/\b % 2=0)):Aet a b % 2=1:=by
 rcases Adp (Aet a b) with hg | hg
 ·have hd:=AeR hg;have h1:=Aga hd (AfY a b);have h2:=Aga hd (Nat.gcd_dvd_right a b);exact absurd ⟨AfH h1,AfH h2⟩ h
 exact hg
def Pl {a k n:Nat} (h:a*2^k=n) (ha:a≠0):k<32*(toW n).length:=by
 have h1:=C9 n;rw[U2,<-AfN] at h1;have h2:2^k<=n:=by rw[<-h];exact Nat.le_mul_of_pos_left _ (Afu ha)
 exact (Nat.pow_lt_pow_iff_right (by decide)).1 (AeT h2 h1)
def Ug {a k n:Nat} (h:a*2^k=n) (ha:a % 2=0):a / 2*2^(k+1)=n:=by rw[Afx,<-AeU,Nat.div_mul_cancel (AeR ha)];exact h
def GP {a k n:Nat} (h:a*2^k=n):a<=n:=by rw[<-h];exact Nat.le_mul_of_pos_right _ (Nat.two_pow_pos k)
def Z6 (a0 b0:Nat) (ha0:a0≠0) (hb0:b0≠0) (hla:(toW a0).length<2^37) (hlb:(toW b0).length<2^37) :
  Ctr TP G 152 [.d (W (toW a0)),.d (W (toW b0))] [] (.d (W (toW (Aet a0 b0)))) []:=by
 have le1:∀ {x},x<=a0->(toW x).length<2^37:=fun h=>AeT (BD h) hla;have le2:∀ {x},x<=max a0 b0->(toW x).length<2^37:=fun {x} h=>by
  rcases Nat.le_total a0 b0 with h2 | h2
  ·exact AeT (BD (by omega:x<=b0)) hlb
  exact AeT (BD (by omega:x<=a0)) hla
 refine Ctr.pure (M:=M0) Am Tryz.func152 rfl Ad2 ?_;simp only[Tryz.f152,↓Aa,Ac,Qu,Qv];refine Ak.fx 0 (α:=Nat × Nat × Nat) (β:=Nat × Nat × Nat) (fun x=>x.1) (fun x=>[(0,.d (W (toW x.1))),(1,.d (W (toW x.2.1))),(5,.d (.int .i64 x.2.2))])
  (fun _=>[]) (fun x=>x.1≠0/\x.2.1≠0/\x.1*2^x.2.2=a0/\x.2.1*2^x.2.2=b0)
  0 (fun x=>[(0,.d (W (toW x.1))),(1,.d (W (toW x.2.1))),(5,.d (.int .i64 x.2.2))]) (fun _=>[]) (fun x=>(x.1≠0/\x.2.1≠0/\x.1*2^x.2.2=a0/\x.2.1*2^x.2.2=b0)/\¬(x.1 % 2=0/\x.2.1 % 2=0))
  (a0,b0,0) ⟨ha0,hb0,by simp,by simp⟩ ?_ ?_ ?_
 ·exact ⟨[],rfl,by simp,by simp[sA,kZ,SW,AW],by simp[HW]⟩
 ·rintro ⟨a,b,k⟩ hR;have hR':=hR;obtain ⟨ha,hb,hak,hbk⟩:=hR';simp only at ha hb hak hbk;simp only[Bi,Ac7];have l1:=MZ ha;have l2:=MZ hb;have p1:=H9.2 ha;have p2:=H9.2 hb;have q1:=le1 (GP hak);have q2:=le2 (show b<=max a0 b0 by have:=GP hbk;omega);have q3:=Pl hak ha;have m1:=Adp a;have m2:=Adp b;by_cases e1:a % 2=0
  ·by_cases e2:b % 2=0;·simp(disch:=(try simp only[Ab]);omega)only[l1,l2,e1,e2,↓Aa,Ac,↓reduceIte];refine Ad.pure (Ja a (by omega)) ?_;simp only[↓Aa,Ac,↓reduceIte];refine Ad.pure (Ja b (by omega)) ?_;simp(disch:=(try simp only[Ab]);omega)only[↓Aa,Ac];exact ⟨(a / 2,b / 2,k+1),⟨by simp only;omega,by simp only;omega,Ug hak e1,Ug hbk e2⟩,by simp only;omega,⟨[],rfl,by simp,by simp[SW,AW],by simp[HW]⟩⟩
   simp(disch:=(try simp only[Ab]);omega)only[l1,l2,e1,↓Aa,Ac,↓reduceIte];exact ⟨(a,b,k),⟨hR,fun h=>e2 h.2⟩,⟨[],rfl,by simp,by simp[SW,AW],by simp[HW]⟩⟩
  simp(disch:=(try simp only[Ab]);omega)only[l1,↓Aa,Ac,↓reduceIte];exact ⟨(a,b,k),⟨hR,fun h=>e1 h.1⟩,⟨[],rfl,by simp,by simp[SW,AW],by simp[HW]⟩⟩
 rintro ⟨a1,b1,K⟩ ⟨⟨ha1,hb1,hak1,hbk1⟩,hodd⟩;simp only at ha1 hb1 hak1 hbk1 hodd;simp only[Bi,Ac7];have hgo:=AbH hodd;have hgg:Aet a0 b0=Aet a1 b1*2^K:=by rw[<-hak1,<-hbk1,Nat.gcd_mul_right]
 have hg0:Aet a1 b1≠0:=by omega
 have hKb:=Pl hak1 ha1;rw[hgg];have hgl:Aet a1 b1*2^K<=a0:=by rw[<-hgg];exact Nat.gcd_le_left _ (Afu ha0)
 generalize Aet a0 b0=gg at *;generalize hg:Aet a1 b1=g at *;have ma1:a1<=max a0 b0:=by have:=GP hak1;omega
 have mb1:b1<=max a0 b0:=by have:=GP hbk1;omega
 simp only[↓Aa];refine Ak.fx 32 (α:=Nat × Nat) (β:=Unit) (fun x=>x.1+x.2) (fun x=>[(0,.d (W (toW x.1))),(1,.d (W (toW x.2)))])
  (fun _=>[]) (fun x=>x.1≠0/\x.1<=max a0 b0/\x.2<=max a0 b0/\Aet x.1 x.2=g)
  32 (fun _=>[(0,.d (W (toW g)))]) (fun _=>[]) (fun _=>True) (a1,b1) ⟨ha1,ma1,mb1,hg⟩ ?_ ?_ ?_
 ·exact ⟨[],rfl,by simp,by simp[sA,kZ,SW,AW],by simp[HW]⟩
 ·rintro ⟨a,b⟩ ⟨ha,hma,hmb,hgab⟩;simp only at ha hma hmb hgab;simp only[Bi,Aa0,Ac7];by_cases hb:b=0;·subst hb;rw[Nat.gcd_zero_right] at hgab;subst hgab;have e:toW 0=[]:=Bb;rw[e];simp(disch:=(try simp only[Ab]);omega)only[↓Aa,Ac];exact ⟨(),trivial,⟨[],rfl,by simp,by simp[SW,AW],by simp[HW]⟩⟩
  have p2:=H9.2 hb;simp(disch:=(try simp only[Ab]);omega)only[↓Aa,Ac];refine Ak.fx 34 (α:=Nat) (β:=Nat) (fun x=>x) (fun x=>[(0,.d (W (toW x)))])
   (fun _=>[]) (fun x=>x≠0/\x<=a/\Aet x b=g)
   34 (fun x=>[(0,.d (W (toW x)))]) (fun _=>[]) (fun x=>x≠0/\x<=a/\Aet x b=g/\x % 2=1) a ⟨ha,Adm _,hgab⟩ ?_ ?_ ?_
  ·exact ⟨[],rfl,by simp,by simp[sA,kZ,SW,AW],by simp[HW]⟩
  ·rintro x ⟨hx,hxa,hxg⟩;simp only[Bi,Aa0,Ac7];have l1:=MZ hx;have p1:=H9.2 hx;have q1:=le2 (show x<=max a0 b0 by omega);have m1:=Adp x;by_cases e1:x % 2=0
   ·simp(disch:=(try simp only[Ab]);omega)only[l1,e1,↓Aa,Ac,↓reduceIte];refine Ad.pure (Ja x (by omega)) ?_;simp only[↓Aa,Ac];exact ⟨x / 2,⟨by omega,by omega,Uj hxg e1 hgo⟩,by simp only;omega,⟨[],rfl,by simp,by simp[SW,AW],by simp[HW]⟩⟩
   simp(disch:=(try simp only[Ab]);omega)only[l1,↓Aa,Ac,↓reduceIte];exact ⟨x,⟨hx,hxa,hxg,by omega⟩,⟨[],rfl,by simp,by simp[SW,AW],by simp[HW]⟩⟩
  rintro a' ⟨ha',haa',hga',hoa⟩;simp only[Bi,Aa0,Ac7];simp only[↓Aa];refine Ak.fx 33 (α:=Nat) (β:=Nat) (fun x=>x) (fun x=>[(1,.d (W (toW x)))])
   (fun _=>[]) (fun x=>x≠0/\x<=b/\Aet a' x=g)
   33 (fun x=>[(1,.d (W (toW x)))]) (fun _=>[]) (fun x=>x≠0/\x<=b/\Aet a' x=g) b ⟨hb,Adm _,hga'⟩ ?_ ?_ ?_
  ·exact ⟨[],rfl,by simp,by simp[sA,kZ,SW,AW],by simp[HW]⟩
  ·rintro x ⟨hx,hxa,hxg⟩;simp only[Bi,Aa0,Ac7];have l1:=MZ hx;have p1:=H9.2 hx;have q1:=le2 (show x<=max a0 b0 by omega);have m1:=Adp x;by_cases e1:x % 2=0
   ·simp(disch:=(try simp only[Ab]);omega)only[l1,e1,↓Aa,Ac,↓reduceIte];refine Ad.pure (Ja x (by omega)) ?_;simp only[↓Aa,Ac];exact ⟨x / 2,⟨by omega,by omega,Ye hxg e1 hgo⟩,by simp only;omega,⟨[],rfl,by simp,by simp[SW,AW],by simp[HW]⟩⟩
   simp(disch:=(try simp only[Ab]);omega)only[l1,↓Aa,Ac,↓reduceIte];exact ⟨x,⟨hx,hxa,hxg⟩,⟨[],rfl,by simp,by simp[SW,AW],by simp[HW]⟩⟩
  rintro b' ⟨hb',hbb',hgb'⟩;simp only[Bi,Aa0,Ac7];have q1:=le2 (show a'<=max a0 b0 by omega);have q2:=le2 (show b'<=max a0 b0 by omega);simp only[↓Aa,Ac,↓reduceIte];refine Ad.pure (Lj a' b' (by omega) (by omega)) ?_;by_cases hc:b'<a'
  ·have hci:cmpI (a':Int) b'=1:=Gl (by omega);simp(disch:=(try simp only[Ab]);omega)only[hci,↓Aa,Ac,↓reduceIte];refine Ad.pure (GF a' b' (by omega) (by omega)) ?_;simp only[↓Aa,Ac];exact ⟨(b',a'-b'),⟨hb',by simp only;omega,by simp only;omega,by simp only;rw[AfI (by omega),AfG];exact hgb'⟩,by simp only;omega,⟨[],rfl,by simp,by simp[SW,AW],by simp[HW]⟩⟩
  have hci:¬cmpI (a':Int) b' > 0:=by unfold cmpI;split<;>first | omega | (split<;>omega)
  simp only[hci,↓Aa,Ac,↓reduceIte];refine Ad.pure (GF b' a' (by omega) (by omega)) ?_;simp only[↓Aa,Ac];exact ⟨(a',b'-a'),⟨ha',by simp only;omega,by simp only;omega,by simp only;rw[AfI (by omega)];exact hgb'⟩,by simp only;omega,⟨[],rfl,by simp,by simp[SW,AW],by simp[HW]⟩⟩
 rintro ⟨⟩ -;simp only[Bi,Aa0,Ac7];simp only[↓Aa];refine Ak.fx 0 (α:=Nat × Nat) (β:=Unit) (fun x=>x.2) (fun x=>[(0,.d (W (toW x.1))),(5,.d (.int .i64 x.2))])
  (fun _=>[]) (fun x=>x.1*2^x.2=g*2^K/\x.2<=K) 0 (fun _=>[(0,.d (W (toW (g*2^K))))]) (fun _=>[]) (fun _=>True) (g,K) ⟨rfl,Adm _⟩ ?_ ?_ ?_
 ·exact ⟨[],rfl,by simp,by simp[sA,kZ,SW,AW],by simp[HW]⟩
 ·rintro ⟨x,k⟩ ⟨hx,hk⟩;simp only at hx hk;simp only[Bi,Ac7];rcases k with _ | k
  ·rw[Nat.pow_zero,Agg] at hx;subst hx;simp(disch:=(try simp only[Ab]);omega)only[↓Aa,Ac];exact ⟨(),trivial,⟨[],rfl,by simp,by simp[SW,AW],by simp[HW]⟩⟩
  have q1:=le1 (AfW (GP hx) hgl);simp(disch:=(try simp only[Ab]);omega)only[↓Aa,Ac,↓reduceIte];refine Ad.pure (Nk x 0 (by decide) (by omega)) ?_;simp(disch:=(try simp only[Ab]);omega)only[↓Aa,Ac];refine ⟨(2*x,k),⟨?_,by simp only;omega⟩,Ae7 _,⟨[],rfl,by simp,by simp[SW,AW],by simp[HW]⟩⟩;rw[<-hx,Afx];simp only;rw[Afd 2 x,AeU]
 rintro ⟨⟩ -;simp only[Bi,Ac7];simp only[↓Aa,Ac,↓Qe]
def L4 (n:Int) (hn:sz n<2^36):Ctr TP G 111 [.d (Big n)] [] (.d (Big (-n))) []:=by
 refine Ctr.pure (M:=M0) Am Tryz.func111 rfl Aey ?_;simp only[sz] at hn;simp(disch:=(try simp only[Ab]);omega)only[Tryz.f111,↓Aa,Ac,↓reduceIte,Qu,Qv];refine Ad.pure (Dq _ _ (Bp _) (by omega)) ?_;rw[Bo];have e:(if decide (¬n<0)=true then -((n.natAbs:Nat):Int) else ((n.natAbs:Nat):Int))=-n:=by
  by_cases h:n<0;·simp[h];omega
  simp[h];omega
 rw[e];simp(disch:=(try simp only[Ab]);omega)only[↓Aa,Ac,↓reduceIte,↓Qe,Qu]
def F4 (a b:Int) (ha:sz a<2^36) (hb:sz b<2^36):Ctr TP G 110 [.d (Big a),.d (Big b)] [] (.d (Big (a*b))) []:=by
 refine Ctr.pure (M:=M0) Am Tryz.func110 rfl Aez ?_;simp only[sz] at ha hb;have hl:=@Xy a.natAbs b.natAbs;simp(disch:=(try simp only[Ab]);omega)only[Tryz.f110,↓Aa,Ac,↓reduceIte,Qu,Qv];refine Ad.pure (XN _ _ (by omega) (by omega)) ?_;simp only[↓Aa,Ac,↓reduceIte,Qu];refine Ad.pure (Dq _ _ (Bp _) (by omega)) ?_;rw[Bo];have e:(if decide (¬decide (a<0)=decide (b<0))=true then -((a.natAbs*b.natAbs:Nat):Int) else ((a.natAbs*b.natAbs:Nat):Int))=a*b:=by
  have ea:((a.natAbs:Nat):Int)=if a<0 then -a else a:=by split<;>omega
  have eb:((b.natAbs:Nat):Int)=if b<0 then -b else b:=by split<;>omega
  rw[Int.natCast_mul,ea,eb];by_cases ha':a<0<;>by_cases hb':b<0<;>simp[ha',hb',Int.neg_mul,Int.mul_neg]
 rw[e];simp(disch:=(try simp only[Ab]);omega)only[↓Aa,Ac,↓reduceIte,↓Qe,Qu];try rfl
def NC (a b:Int) (ha:sz a<2^36) (hb:sz b<2^36):Ctr TP G 109 [.d (Big a),.d (Big b)] [] (.d (Big (a+b))) []:=by
 have hpl:=@TH a.natAbs b.natAbs;have ka:((a.natAbs:Nat):Int)=if a<0 then -a else a:=by split<;>omega
 have kb:((b.natAbs:Nat):Int)=if b<0 then -b else b:=by split<;>omega
 have hcmp:0<=cmpI (a.natAbs:Int) b.natAbs↔b.natAbs<=a.natAbs:=by
  unfold cmpI;split;·omega
  split<;>omega
 refine Ctr.pure (M:=M0) Am Tryz.func109 rfl AeA ?_;simp only[sz] at ha hb;have hdl:=AK (max (toW a.natAbs).length (toW b.natAbs).length+1) (a.natAbs+b.natAbs);have hdv:val (Bl (max (toW a.natAbs).length (toW b.natAbs).length+1) (a.natAbs+b.natAbs))=a.natAbs+b.natAbs:=D7 (Adk (C9 _) (Adl (by decide) hpl));have hsub1:=BD (Agh a.natAbs b.natAbs);have hsub2:=BD (Agh b.natAbs a.natAbs);by_cases hs:decide (a<0)=decide (b<0)
 ·simp(disch:=(try simp only[Ab]);omega)only[Tryz.f109,hs,↓Aa,Ac,↓reduceIte,Qu,Qv];refine Ad.pure (XR _ _ (by omega) (by omega)) ?_;simp only[↓Aa,Ac,↓reduceIte,Qu];refine Ad.pure (Dq _ _ (DL _ _) (by omega)) ?_;rw[hdv];have e:(if decide (b<0)=true then -((a.natAbs+b.natAbs:Nat):Int) else ((a.natAbs+b.natAbs:Nat):Int))=a+b:=by
   have hs':=decide_eq_decide.1 hs;rw[Int.natCast_add,ka,kb];by_cases hb':b<0<;>simp[hs',hb']<;>omega
  rw[e];simp(disch:=(try simp only[Ab]);omega)only[↓Aa,Ac,↓reduceIte,↓Qe,Qu];try rfl
 simp(disch:=(try simp only[Ab]);omega)only[Tryz.f109,hs,↓Aa,Ac,↓reduceIte,Qu,Qv];refine Ad.pure (Lj _ _ (by omega) (by omega)) ?_;have hsg:¬(a<0)\/¬(b<0):=by
  by_cases h1:a<0;·right;intro h2;exact hs (by simp[h1,h2])
  left;exact h1
 have hsg2:a<0\/b<0:=by
  by_cases h1:a<0;·left;exact h1
  right;by_cases h2:b<0;·exact h2
  exact absurd (by simp[h1,h2]) hs
 by_cases h:b.natAbs<=a.natAbs
 ·have h':=hcmp.2 h;simp(disch:=(try simp only[Ab]);omega)only[h',↓Aa,Ac,↓reduceIte,Qu];refine Ad.pure (GF _ _ h (by omega)) ?_;simp only[↓Aa,Ac,↓reduceIte,Qu];refine Ad.pure (Dq _ _ (Bp _) (by omega)) ?_;rw[Bo];have e:(if decide (a<0)=true then -((a.natAbs-b.natAbs:Nat):Int) else ((a.natAbs-b.natAbs:Nat):Int))=a+b:=by
   by_cases h1:a<0;·simp only[h1,decide_true,if_true];omega
   simp only[h1,decide_false,AfU,if_false];omega
  rw[e];simp(disch:=(try simp only[Ab]);omega)only[↓Aa,Ac,↓reduceIte,↓Qe,Qu];try rfl
 have h':¬0<=cmpI (a.natAbs:Int) b.natAbs:=fun h2=>h (hcmp.1 h2);simp(disch:=(try simp only[Ab]);omega)only[h',↓Aa,Ac,↓reduceIte,Qu];refine Ad.pure (GF _ _ (by omega) (by omega)) ?_;simp only[↓Aa,Ac,↓reduceIte,Qu];refine Ad.pure (Dq _ _ (Bp _) (by omega)) ?_;rw[Bo];have e:(if decide (b<0)=true then -((b.natAbs-a.natAbs:Nat):Int) else ((b.natAbs-a.natAbs:Nat):Int))=a+b:=by
  by_cases h1:b<0;·simp only[h1,decide_true,if_true];omega
  simp only[h1,decide_false,AfU,if_false];omega
 rw[e];simp(disch:=(try simp only[Ab]);omega)only[↓Aa,Ac,↓reduceIte,↓Qe,Qu];try rfl
def Fl (n d:Int) (hd:d≠0) (hn:sz n<2^36) (hds:sz d<2^36):Ctr TP G 112 [.d (Big n),.d (Big d)] [] (.d (Frac (Rat.divInt n d))) []:=by
 simp only[sz] at hn hds;have hg0:Aet n.natAbs d.natAbs≠0:=by intro h;exact hd (Int.natAbs_eq_zero.1 (Nat.gcd_eq_zero_iff.1 h).2)
 have hgl:(toW (Aet n.natAbs d.natAbs)).length<=(toW d.natAbs).length:=BD (Nat.gcd_le_right _ (by omega));have hx:=@M7 n.natAbs (Aet n.natAbs d.natAbs);have hy:=@M7 d.natAbs (Aet n.natAbs d.natAbs);have e1:(Rat.divInt n d).num=if ¬decide (n<0)=decide (d<0) then -((n.natAbs / Aet n.natAbs d.natAbs:Nat):Int) else ((n.natAbs / Aet n.natAbs d.natAbs:Nat):Int):=by
  rw[Rat.num_divInt,Tq hd,Int.gcd,AfG d.natAbs];split;·exact W0 (AfY _ _)
  rfl
 have e2:(Rat.divInt n d).den=d.natAbs / Aet n.natAbs d.natAbs:=by rw[Rat.den_divInt,if_neg hd,Int.gcd,AfG d.natAbs]
 refine Ctr.pure (M:=M0) Am Tryz.func112 rfl Aex ?_;by_cases h0:n=0
 ·subst h0;have hF:Frac (Rat.divInt 0 d)=Frac 0:=by rw[Rat.zero_divInt]
  have e:toW (0:Int).natAbs=[]:=Bb;rw[hF];simp only[Big,SP,e];simp(disch:=(try simp only[Ab]);omega)only[Tryz.f112,↓Aa,Ac,↓reduceIte,Qu,Qv];refine Ad.pure (Cb 1 (by decide) (by decide)) ?_;have e1:(0:Rat).num=0:=rfl;have e2:(0:Rat).den=1:=rfl;have e3:(0:Int).natAbs=0:=rfl;have e4:(1:Int).natAbs=1:=rfl;simp(disch:=(try simp only[Ab]);omega)only[e4,IR,↓Aa,Ac,↓reduceIte,↓Qe,Qu];simp only[Frac,W,e1,e2,e3,Bb,IR];rfl
 have hnz:n.natAbs≠0:=by omega
 have e0:=H9.2 hnz;simp(disch:=(try simp only[Ab]);omega)only[Tryz.f112,↓Aa,Ac,↓reduceIte,Qu,Qv];refine Ad.pure (Z6 _ _ hnz (by omega) (by omega) (by omega)) ?_;generalize Aet n.natAbs d.natAbs=g at *;simp(disch:=(try simp only[Ab]);omega)only[↓Aa,Ac,↓reduceIte,Qu];refine Ad.pure (Uq _ g hg0 (by omega) (by omega)) ?_;simp(disch:=(try simp only[Ab]);omega)only[↓Aa,Ac,↓reduceIte,Qu];refine Ad.pure (Uq _ g hg0 (by omega) (by omega)) ?_;simp(disch:=(try simp only[Ab]);omega)only[↓Aa,Ac,↓reduceIte,Qu];refine Ad.pure (Dq _ _ (Bp _) (by omega)) ?_;simp only[↓Aa,Ac,↓reduceIte,Qu];refine Ad.pure (Dq false _ (Bp _) (by omega)) ?_;simp only[Frac];rw[e1,e2,Bo,Bo];simp(disch:=(try simp only[Ab]);omega)only[↓Aa,Ac,↓reduceIte,↓Qe,Qu]
end Num
end Go.Proofs.YtmidaophnbdcdaaGreatDoor
