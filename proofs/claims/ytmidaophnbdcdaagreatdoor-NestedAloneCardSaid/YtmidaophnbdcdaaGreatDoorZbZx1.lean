/-
  A world that lays the variables of nestedAlone.
-/
import Derived.Test.YtmidaophnbdcdaaGreatDoorMb2
import Derived.Lib.Strings
import Derived.Lib.Slices
import Derived.Lib.Walk
import Derived.Lib.Bytealg
set_option linter.all false
open Go.Abs renaming A4→HW,Dx→BW,Ci→SW,Aq→AW,BI→sA,Aw→kA
open Go.Proofs.Tryz renaming prog→TP
set_option maxHeartbeats 16000000
set_option maxRecDepth 100000
open Go.Abs renaming Eq→Qe
open Nat renaming reduceAdd→Qu,reduceSub→Qv,reduceMul→Qw,reducePow→Qx,reduceDiv→Qy,reduceMod→Qz,reduceEqDiff→QI,reduceBEq→QK
open Int renaming reduceAdd→QA,reduceSub→QB,reduceMul→QC,reducePow→QD,reduceNeg→QE,reduceToNat→QF,reduceLT→QG,reduceLE→QH
open List renaming getD_eq_getElem?_getD→AcB,getElem?_eq_getElem→AdT,length_append→AdV,length_cons→AdW,length_take→Ad0,mem_of_mem_take→Ae1,map_cons→Afs,take_length→Afv,drop_eq_nil_of_le→Afw,length_nil→AfI,mem_cons_of_mem→AfJ,mem_cons→AfN,nil_append→AfQ,take_zero→AfR,all_eq_true→AfT,dropWhile_cons→AfU,append_nil→AfV,take_of_length_le→AfX,map_nil→AfZ,range→Af0,length_set→Af3,getElem_modify→Af5,getElem?_take→Af7,drop_eq_getElem_cons→Af8,getElem?_map→Af9,flatMap_cons→Aga,getElem?_cons_zero→Agb,all_reverse→Agc,cons_append→Agd,drop_of_length_le→Age,mem_append→Agf,length_map→Agh,getElem?_range→Agk,mem_singleton→Agm,mem_cons_self→Agn,take_add_one→Agp,append_assoc→Ags,not_mem_nil→Agu,ext_getElem→Agv,take_append→Agw,drop_append→Agx,replicate→Agy,drop_zero→Agz,any_cons→AgA
open Nat renaming lt_of_lt_of_le→AdU,lt_or_ge→AdX,reduceMod→AdY,reduceDiv→AdZ,le_refl→Ad1,pow_le_pow_right→Ae2,zero_le→Ae3,pow_lt_pow_right→AfS,le_trans→AfY,not_lt_zero→Af4,pow_succ→Af6,pow_pos→Agj,zero_add→Agq,le_succ_of_le→Agt
open Bool renaming true_and→AfO,false_and→AfP,and_eq_true→Af2,not_false→Agi,false_or→Agl,true_or→Agr,or_false→AgB,not_true→AgC
open Int renaming natAbs_natCast→AfW,le_refl→AgD
open Option renaming getD_some→Af1,map_some→Agg
open Or renaming inr→Ago
namespace Go.Proofs.YtmidaophnbdcdaaGreatDoor
open Go Go.Proofs Go.Abs Go.RowKit Go.ChangeShapes Go.WideShapes Go.ChangeAt
noncomputable def CC (os:Os):World :=
 {World.holding TP os ⟨#[.cells #[.int .u32 1] 187],#[],[]⟩ with heap:=(((((((World.holding TP os ⟨#[.cells #[.int .u32 1] 187],#[],[]⟩).heap.modify 5 fun
   | .cells _ t frozen=>.cells #[.int .u8 0,.int .u8 1,.int .u8 28,.int .u8 2,.int .u8 29,.int .u8 14,.int .u8 24,.int .u8 3,.int .u8 30,.int .u8 22,.int .u8 20,.int .u8 15,.int .u8 25,.int .u8 17,.int .u8 4,.int .u8 8,.int .u8 31,.int .u8 27,.int .u8 13,.int .u8 23,.int .u8 21,.int .u8 19,.int .u8 16,.int .u8 7,.int .u8 26,.int .u8 12,.int .u8 18,.int .u8 6,.int .u8 11,.int .u8 5,.int .u8 10,.int .u8 9] t frozen
   | o=>o).modify 6 fun
   | .cells _ t frozen=>.cells #[.int .u8 0,.int .u8 1,.int .u8 56,.int .u8 2,.int .u8 57,.int .u8 49,.int .u8 28,.int .u8 3,.int .u8 61,.int .u8 58,.int .u8 42,.int .u8 50,.int .u8 38,.int .u8 29,.int .u8 17,.int .u8 4,.int .u8 62,.int .u8 47,.int .u8 59,.int .u8 36,.int .u8 45,.int .u8 43,.int .u8 51,.int .u8 22,.int .u8 53,.int .u8 39,.int .u8 33,.int .u8 30,.int .u8 24,.int .u8 18,.int .u8 12,.int .u8 5,.int .u8 63,.int .u8 55,.int .u8 48,.int .u8 27,.int .u8 60,.int .u8 41,.int .u8 37,.int .u8 16,.int .u8 46,.int .u8 35,.int .u8 44,.int .u8 21,.int .u8 52,.int .u8 32,.int .u8 23,.int .u8 11,.int .u8 54,.int .u8 26,.int .u8 40,.int .u8 15,.int .u8 34,.int .u8 20,.int .u8 31,.int .u8 10,.int .u8 25,.int .u8 14,.int .u8 19,.int .u8 9,.int .u8 13,.int .u8 8,.int .u8 7,.int .u8 6] t frozen
   | o=>o).modify 3 fun
   | .cells _ t frozen=>.cells #[.int .u64 1,.int .u64 10,.int .u64 100,.int .u64 1000,.int .u64 10000,.int .u64 100000,.int .u64 1000000,.int .u64 10000000,.int .u64 100000000,.int .u64 1000000000,.int .u64 10000000000,.int .u64 100000000000,.int .u64 1000000000000,.int .u64 10000000000000,.int .u64 100000000000000,.int .u64 1000000000000000,.int .u64 10000000000000000,.int .u64 100000000000000000,.int .u64 1000000000000000000,.int .u64 10000000000000000000] t frozen
   | o=>o).modify 1 fun
   | .cells _ t frozen=>.cells #[.int .u8 128,.int .u8 191,.int .u8 160,.int .u8 191,.int .u8 128,.int .u8 159,.int .u8 144,.int .u8 191,.int .u8 128,.int .u8 143,.int .u8 0,.int .u8 0,.int .u8 0,.int .u8 0,.int .u8 0,.int .u8 0,.int .u8 0,.int .u8 0,.int .u8 0,.int .u8 0,.int .u8 0,.int .u8 0,.int .u8 0,.int .u8 0,.int .u8 0,.int .u8 0,.int .u8 0,.int .u8 0,.int .u8 0,.int .u8 0,.int .u8 0,.int .u8 0] t frozen
   | o=>o).modify 2 fun
   | .cells _ t frozen=>.cells #[.slice (some ⟨(World.settled TP os).heap.size,0,none⟩) 1 1] t frozen
   | o=>o).modify 0 fun
   | .cells _ t frozen=>.cells (Go.Pinned.utf8FirstZ.map fun (n:Nat)=>Value.int .u8 (n:Int)).toArray t frozen
   | o=>o)}
theorem Gw (os:Os) (args:Array Value):laidMet TP [("math/bits.deBruijn32tab",Rows.laid_math_bits_deBruijn32tab),("math/bits.deBruijn64tab",Rows.laid_math_bits_deBruijn64tab),("internal/strconv.uint64pow10",Rows.laid_internal_strconv_uint64pow10),("unicode/utf8.acceptRanges",Rows.laid_unicode_utf8_acceptRanges),("tablefinder/fraction.one",Rows.laid_tablefinder_fraction_one),("unicode/utf8.first",Rows.laid_unicode_utf8_first)] ((CC os).forCall (fun _ _=>0) ⟨#[],args,[]⟩).memory :=
 laidMet_of_run' 8 (by kernel_rfl) (by kernel_rfl)
end Go.Proofs.YtmidaophnbdcdaaGreatDoor
namespace Go.Proofs.YtmidaophnbdcdaaGreatDoor
open Go Go.Proofs Go.Abs
variable {G:Ad}
def nots (q:List Bool):List Bool:=q.map not
end Go.Proofs.YtmidaophnbdcdaaGreatDoor
namespace Go.Proofs.YtmidaophnbdcdaaGreatDoor
open Go Go.Proofs Go.Abs
theorem CI:∀ s:List UInt8,(∀ c∈s,c.toNat<128)→Lib.validD s=true
 | [],_=>rfl
 | c::r,h=>by rw[Lib.validD_cons _ _ (h c (by simp))];exact CI r fun x hx=>h x (by simp[hx])
def AL (s:List UInt8):Prop:=∀ c∈s,c.toNat<128
theorem A2 {a b:List UInt8} (ha:AL a) (hb:AL b):AL (a++b):=fun c hc=>by
 rcases Agf.1 hc with h | h
 ·exact ha c h
 ·exact hb c h
theorem DU {P:List UInt8→Prop} {l:List (List UInt8)} (h0:P []) (h:∀ s∈l,P s) (i:Nat):P (l.getD i []):=by
 rcases AdX i l.length with h1 | h1
 ·exact h _ (EF h1)
 ·rw[AcB,List.getElem?_eq_none h1];exact h0
theorem CA:AL []:=fun c h=>by cases h
theorem H9 {c:UInt8} {r:List UInt8} (hc:c.toNat<128) (hr:AL r):AL (c::r):=fun x hx=>by
 rcases AfN.1 hx with rfl | h
 ·exact hc
 ·exact hr x h
theorem S5 {n:Nat} (h:n<100):AL (Cs n):=by
 unfold Cs
 split
 ·intro c hc;rw[Agm.1 hc];simp;omega
 ·intro c hc
  rcases AfN.1 hc with rfl | hc
  ·simp;omega
  ·rw[Agm.1 hc];simp;omega
theorem NW (t:List Int) (k:Nat):AL (HL t k):=by
 have h1:AL (Gt t k):=by
  obtain ⟨b,hb,hb2⟩:=pk_nat t (k+1) 40 (by decide)
  unfold Gt
  rw[hb]
  exact A2 (DU CA (by unfold AL;decide) _) (S5 (by simp;omega))
 have h2:AL (IF t k):=by
  unfold IF
  split
  ·split
   ·exact h1
   ·exact H9 (by decide) h1
  ·exact h1
 unfold HL
 split
 ·exact A2 h2 (H9 (by decide) (DU CA (by unfold AL;decide) _))
 ·exact h2
theorem Mh (t:List Int) (k:Nat):AL (J8 t k)∧(J8 t k).length≤10:=by
 have a1:AL (DD.getD (pk t k 6).toNat []):=DU CA (by unfold AL;decide) _
 have a2:AL (CR.getD (pk t (k+1) 5).toNat []):=DU CA (by unfold AL;decide) _
 have a3:AL (Fo.getD (pk t (k+2) 5).toNat []):=DU CA (by unfold AL;decide) _
 have l1:=BX (l:=DD) (m:=4) (by decide) (pk t k 6).toNat
 have l2:=BX (l:=CR) (m:=2) (by decide) (pk t (k+1) 5).toNat
 have l3:=BX (l:=Fo) (m:=2) (by decide) (pk t (k+2) 5).toNat
 have one:∀ n:UInt8,n.toNat<128→AL [n]:=fun n h=>H9 h CA
 unfold J8
 simp only
 split
 ·exact ⟨A2 (A2 (A2 (A2 a1 (one _ (by decide))) a2) (one _ (by decide))) a3,by simp only[AdV,AdW,AfI];omega⟩
 ·split
  ·exact ⟨A2 (A2 (A2 (A2 a1 (one _ (by decide))) a2) (one _ (by decide))) a3,by simp only[AdV,AdW,AfI];omega⟩
  ·exact ⟨A2 (A2 (A2 (A2 a3 (one _ (by decide))) a2) (one _ (by decide))) a1,by simp only[AdV,AdW,AfI];omega⟩
def okT (s:List UInt8):Prop:=Lib.validD s=true∧s.length≤30
instance (s:List UInt8):Decidable (okT s):=by unfold okT;exact inferInstance
theorem KF:okT []:=by decide
theorem UO:∀ s∈wordsL,okT s:=by decide
theorem UQ:∀ s∈GJ,okT s:=by decide
theorem UP:∀ s∈Gu,okT s:=by decide
theorem Wp:∀ s∈J1,okT s:=by decide
theorem U1 (t:List Int) (k c:Nat):okT (Ex t k c):=by
 unfold Ex
 repeat' split
 ·exact DU KF UO _
 ·exact ⟨CI _ (NW t k),by have:=(Gs t k).2;omega⟩
 ·exact ⟨CI _ (Mh t k).1,by have:=(Mh t k).2;omega⟩
 ·exact DU KF UQ _
 ·have:=(Gs t k).2
  have l2:=BX (l:=E1) (m:=4) (by decide) (pk t (Mw t k) 7).toNat
  exact ⟨CI _ (A2 (NW t k) (DU CA (by unfold AL;decide) _)),by rw[AdV];omega⟩
 ·exact DU KF UP _
 ·exact DU KF Wp _
end Go.Proofs.YtmidaophnbdcdaaGreatDoor
namespace Go.Proofs.YtmidaophnbdcdaaGreatDoor
open Go Go.Proofs Go.Abs
variable {G:Ad}
def OkS (t:List Int):Prop:=∀ i,0≤t.getD i 0∧t.getD i 0≤255
theorem OkS.take {t:List Int} (h:OkS t):OkM (t.take 300):=by
 refine ⟨by rw[Ad0];omega,fun i=>?_⟩
 rcases AdX i 300 with h1 | h1
 ·have:=h i
  rw[AcB,Af7,if_pos h1,←AcB]
  exact this
 ·rw[AcB,Af7,if_neg (by omega)];decide
end Go.Proofs.YtmidaophnbdcdaaGreatDoor
namespace Go.Proofs.YtmidaophnbdcdaaGreatDoor.Num
open Go Go.Proofs Go.Abs
variable {G:Ad}
abbrev S (l:List UInt8):D:=.str (bs l)
def hasP (s p:List UInt8):Bool:=decide (s.take p.length=p)
theorem hasP_le {s p:List UInt8} (h:hasP s p=true):p.length≤s.length:=by
 have:=of_decide_eq_true h
 have h2:=congrArg List.length this
 simp at h2;omega
theorem hasPrefix_spec (s p:List UInt8):Ctr TP G 184 [.d (S s),.d (S p)] [] (.d (.bool (hasP s p))) []:=by
 refine Ctr.pure (M:=M0) Am Tryz.func184 rfl ZX ?_
 simp(maxSteps:=1000000)(disch:=(try simp only[awL]);omega)only[awS,Tryz.f184,↓awU,awY,↓reduceIte,↓reduceDIte,↓Qe,Qu,Qv,Qw,Qx,Qy,Qz,QA,QB,QC,QD,QE,QF,QG,QH,QI,QK]
 refine ⟨fun _=>rfl,fun h=>(decide_eq_false fun e=>h ?_).symm⟩
 have:=congrArg List.length e
 simp at this
 omega
theorem Kp (s p:List UInt8):Ctr TP G 168 [.d (S s),.d (S p)] [] (.d (.tup [S (if hasP s p then s.drop p.length else s),.bool (hasP s p)])) []:=by
 refine Ctr.pure (M:=M0) Am Tryz.func168 rfl Aer ?_
 simp(maxSteps:=1000000)(disch:=(try simp only[awL]);omega)only[awS,Tryz.f168,↓awU,awY,↓reduceIte,↓reduceDIte,↓Qe,Qu,Qv,Qw,Qx,Qy,Qz,QA,QB,QC,QD,QE,QF,QG,QH,QI,QK]
 refine Ab.pure (hasPrefix_spec s p) ?_
 cases h:hasP s p
 ·simp(maxSteps:=1000000)(disch:=(try simp only[awL]);omega)only[awS,↓awU,awY,↓reduceIte,↓reduceDIte,↓Qe,Qu,Qv,Qw,Qx,Qy,Qz,QA,QB,QC,QD,QE,QF,QG,QH,QI,QK]
 ·have:=hasP_le h
  simp(maxSteps:=1000000)(disch:=(try simp only[awL]);omega)only[awS,↓awU,awY,↓reduceIte,↓reduceDIte,↓Qe,Qu,Qv,Qw,Qx,Qy,Qz,QA,QB,QC,QD,QE,QF,QG,QH,QI,QK]
theorem cutPrefix_spec (s p:List UInt8):Ctr TP G 131 [.d (S s),.d (S p)] [] (.d (.tup [S (if hasP s p then s.drop p.length else s),.bool (hasP s p)])) []:=by
 refine Ctr.pure (M:=M0) Am Tryz.func131 rfl AeM ?_
 simp(maxSteps:=1000000)(disch:=(try simp only[awL]);omega)only[awS,Tryz.f131,↓awU,awY,↓reduceIte,↓reduceDIte,↓Qe,Qu,Qv,Qw,Qx,Qy,Qz,QA,QB,QC,QD,QE,QF,QG,QH,QI,QK]
 refine Ab.pure (Kp s p) ?_
 simp(maxSteps:=1000000)(disch:=(try simp only[awL]);omega)only[awS,↓awU,awY,↓reduceIte,↓reduceDIte,↓Qe,Qu,Qv,Qw,Qx,Qy,Qz,QA,QB,QC,QD,QE,QF,QG,QH,QI,QK]
theorem Jd (s p:List UInt8):Ctr TP G 169 [.d (S s),.d (S p)] [] (.d (S (if hasP s p then s.drop p.length else s))) []:=by
 refine Ctr.pure (M:=M0) Am Tryz.func169 rfl Aeq ?_
 simp(maxSteps:=1000000)(disch:=(try simp only[awL]);omega)only[awS,Tryz.f169,↓awU,awY,↓reduceIte,↓reduceDIte,↓Qe,Qu,Qv,Qw,Qx,Qy,Qz,QA,QB,QC,QD,QE,QF,QG,QH,QI,QK]
 refine Ab.pure (hasPrefix_spec s p) ?_
 cases h:hasP s p
 ·simp(maxSteps:=1000000)(disch:=(try simp only[awL]);omega)only[awS,↓awU,awY,↓reduceIte,↓reduceDIte,↓Qe,Qu,Qv,Qw,Qx,Qy,Qz,QA,QB,QC,QD,QE,QF,QG,QH,QI,QK]
 ·have:=hasP_le h
  simp(maxSteps:=1000000)(disch:=(try simp only[awL]);omega)only[awS,↓awU,awY,↓reduceIte,↓reduceDIte,↓Qe,Qu,Qv,Qw,Qx,Qy,Qz,QA,QB,QC,QD,QE,QF,QG,QH,QI,QK]
theorem Kf (s p:List UInt8):Ctr TP G 132 [.d (S s),.d (S p)] [] (.d (S (if hasP s p then s.drop p.length else s))) []:=by
 refine Ctr.pure (M:=M0) Am Tryz.func132 rfl AeL ?_
 simp(maxSteps:=1000000)(disch:=(try simp only[awL]);omega)only[awS,Tryz.f132,↓awU,awY,↓reduceIte,↓reduceDIte,↓Qe,Qu,Qv,Qw,Qx,Qy,Qz,QA,QB,QC,QD,QE,QF,QG,QH,QI,QK]
 refine Ab.pure (Jd s p) ?_
 simp(maxSteps:=1000000)(disch:=(try simp only[awL]);omega)only[awS,↓awU,awY,↓reduceIte,↓reduceDIte,↓Qe,Qu,Qv,Qw,Qx,Qy,Qz,QA,QB,QC,QD,QE,QF,QG,QH,QI,QK]
theorem indexByte_calls (s:ByteArray) (c:Int) (w:World) :
  Calls TP 211 #[.string s,.int .u8 c] w fun e w'=>e=.returned (.int .i64 (Lib.indexByte s.data.toList c.toNat.toUInt8))∧w'=w:=by
 go_enter Tryz.func211,Tryz.ntmps211
 go_wp2
 rw[run_callFunc_extern Tryz.func235 (by kernel_rfl) (by kernel_rfl) (by kernel_rfl) (e:=Extern.BytealgIndexByte.indexByte) (by kernel_rfl),Lib.run_indexByteString]
 simp only[Result.andThen]
 rw[Oper.upon_value]
 go_wp2
 go_ret
 exact ⟨rfl,rfl⟩
theorem indexByte_spec (s:List UInt8) (c:UInt8):Ctr TP G 211 [.d (S s),.d (.int .u8 c.toNat)] [] (.d (.int .i64 (Lib.indexByte s c))) []:=by
 refine Ctr.of_calls ZV fun h ρ w vs q r=>?_
 obtain ⟨v,u,rfl,hv,hu⟩:=r.inv2
 rw[hv.str_inv,hu.int_inv]
 refine (indexByte_calls (bs s) c.toNat w).mono ?_
 rintro e w' ⟨rfl,rfl⟩
 refine ⟨_,rfl,?_,.refl _ _⟩
 have:((c.toNat:Int)).toNat.toUInt8=c:=by simp
 rw[this]
 exact .int _ _
def cutL (c:UInt8):List UInt8→List UInt8
 | []=>[]
 | b::l=>if b=c then [] else b::cutL c l
def cutR (c:UInt8):List UInt8→List UInt8
 | []=>[]
 | b::l=>if b=c then l else cutR c l
theorem cut_index (c:UInt8):∀ s:List UInt8,(c∈s→∃ k:Nat,Lib.indexByte s c=k∧k<s.length∧s.take k=cutL c s∧s.drop (k+1)=cutR c s)∧(c∉s→Lib.indexByte s c=-1∧cutL c s=s∧cutR c s=[])
 | []=>⟨fun h=>absurd h Agu,fun _=>⟨rfl,rfl,rfl⟩⟩
 | b::l=>by
   obtain ⟨i1,i2⟩:=cut_index c l
   by_cases e:b=c
   ·subst e
    refine ⟨fun _=>⟨0,?_,by simp,by simp[cutL],by simp[cutR]⟩,fun h=>absurd (Agn ..) h⟩
    simp[Lib.indexByte]
   ·have e2:¬c=b:=fun h=>e h.symm
    refine ⟨fun h=>?_,fun h=>?_⟩
    ·obtain ⟨k,h1,h2,h3,h4⟩:=i1 ((AfN.1 h).resolve_left e2)
     refine ⟨k+1,?_,by simpa using h2,by simp[cutL,e,h3],by simp[cutR,e,h4]⟩
     simp only[Lib.indexByte,h1]
     rw[if_neg (by simpa using e),if_neg (by simp)]
     omega
    ·obtain ⟨h1,h2,h3⟩:=i2 (fun h2=>h (AfJ _ h2))
     refine ⟨?_,by simp[cutL,e,h2],by simp[cutR,e,h3]⟩
     simp only[Lib.indexByte,h1]
     rw[if_neg (by simpa using e),if_pos (by decide)]
theorem index1_spec (s:List UInt8) (c:UInt8) (hs:s.length≤9223372036854775807):Ctr TP G 201 [.d (S s),.d (S [c])] [] (.d (.int .i64 (Lib.indexByte s c))) []:=by
 refine Ctr.pure (M:=M0) Am Tryz.func201 rfl ZW ?_
 simp(maxSteps:=1000000)(disch:=(try simp only[awL]);omega)only[awS,Tryz.f201,↓awU,awY,↓reduceIte,↓reduceDIte,↓Qe,Qu,Qv,Qw,Qx,Qy,Qz,QA,QB,QC,QD,QE,QF,QG,QH,QI,QK]
 refine ⟨fun h=>?_,fun h=>?_⟩
 ·rw[←h];simp[Lib.indexByte]
 ·refine Ab.pure (indexByte_spec s c) ?_
  simp(maxSteps:=1000000)(disch:=(try simp only[awL]);omega)only[awS,↓awU,awY,↓reduceIte,↓reduceDIte,↓Qe,Qu,Qv,Qw,Qx,Qy,Qz,QA,QB,QC,QD,QE,QF,QG,QH,QI,QK]
theorem cutS_spec (s:List UInt8) (c:UInt8) (hs:s.length≤9223372036854775807):Ctr TP G 170 [.d (S s),.d (S [c])] [] (.d (.tup [S (cutL c s),S (cutR c s),.bool (decide (c∈s))])) []:=by
 refine Ctr.pure (M:=M0) Am Tryz.func170 rfl ZZ ?_
 simp(maxSteps:=1000000)(disch:=(try simp only[awL]);omega)only[awS,Tryz.f170,↓awU,awY,↓reduceIte,↓reduceDIte,↓Qe,Qu,Qv,Qw,Qx,Qy,Qz,QA,QB,QC,QD,QE,QF,QG,QH,QI,QK]
 refine Ab.pure (index1_spec s c hs) ?_
 obtain ⟨i1,i2⟩:=cut_index c s
 by_cases h:c∈s
 ·obtain ⟨k,h1,h2,h3,h4⟩:=i1 h
  rw[h1,decide_eq_true h,←h3,←h4]
  simp(maxSteps:=1000000)(disch:=(try simp only[awL]);omega)only[awS,↓awU,awY,↓reduceIte,↓reduceDIte,↓Qe,Qu,Qv,Qw,Qx,Qy,Qz,QA,QB,QC,QD,QE,QF,QG,QH,QI,QK]
  rfl
 ·obtain ⟨h1,h3,h4⟩:=i2 h
  rw[h1,decide_eq_false h,h3,h4]
  simp(maxSteps:=1000000)(disch:=(try simp only[awL]);omega)only[awS,↓awU,awY,↓reduceIte,↓reduceDIte,↓Qe,Qu,Qv,Qw,Qx,Qy,Qz,QA,QB,QC,QD,QE,QF,QG,QH,QI,QK]
theorem cut_spec (s:List UInt8) (c:UInt8) (hs:s.length≤9223372036854775807):Ctr TP G 133 [.d (S s),.d (S [c])] [] (.d (.tup [S (cutL c s),S (cutR c s),.bool (decide (c∈s))])) []:=by
 refine Ctr.pure (M:=M0) Am Tryz.func133 rfl Z0 ?_
 simp(maxSteps:=1000000)(disch:=(try simp only[awL]);omega)only[awS,Tryz.f133,↓awU,awY,↓reduceIte,↓reduceDIte,↓Qe,Qu,Qv,Qw,Qx,Qy,Qz,QA,QB,QC,QD,QE,QF,QG,QH,QI,QK]
 refine Ab.pure (cutS_spec s c hs) ?_
 simp(maxSteps:=1000000)(disch:=(try simp only[awL]);omega)only[awS,↓awU,awY,↓reduceIte,↓reduceDIte,↓Qe,Qu,Qv,Qw,Qx,Qy,Qz,QA,QB,QC,QD,QE,QF,QG,QH,QI,QK]
def setD (l:List UInt8):List D:=(Af0 256).map fun i=>.bool (l.any fun b=>b.toNat == i)
def setB (l:List UInt8):List AV:=(setD l).map .d
theorem setB_length {l:List UInt8}:(setB l).length=256:=by simp[setB,setD]
theorem setD_length {l:List UInt8}:(setD l).length=256:=by simp[setD]
theorem setB_nil:setB []=Agy 256 (.d (.bool false)):=by rfl
theorem setD_get {l:List UInt8} {c:UInt8} {d:D}:(setD l).getD c.toNat d=.bool (l.contains c):=by
 have hc:=c.toNat_lt
 simp only[setD,AcB,Af9,Agk (show c.toNat<256 by omega),Agg,Af1]
 rw[List.contains_eq_any_beq]
 refine congrArg (fun f=>D.bool (l.any f)) ?_
 funext b
 show (b.toNat == c.toNat)=_
 by_cases h:b=c
 ·subst h;simp
 ·have:¬b.toNat=c.toNat:=fun e=>h (UInt8.toNat_inj.1 e)
  have h':¬c=b:=fun e=>h e.symm
  rw[beq_eq_false_iff_ne.2 this];exact (beq_eq_false_iff_ne.2 h').symm
theorem setB_get {l:List UInt8} {c:UInt8} {d:AV}:(setB l).getD c.toNat d=.d (.bool (l.contains c)):=by
 have hc:=c.toNat_lt
 have:=@setD_get l c .nilp
 rw[AcB,AdT (by rw[setD_length];omega)] at this
 rw[setB,AcB,Af9,AdT (by rw[setD_length];omega)]
 simp only[Af1] at this
 rw[Agg,Af1,this]
theorem setB_set {l:List UInt8} {c:UInt8}:(setB l).set c.toNat (.d (.bool true))=setB (l++[c]):=by
 have hc:=c.toNat_lt
 apply Agv
 ·rw[Af3,setB_length,setB_length]
 ·intro i h1 h2
  rw[Af3,setB_length] at h1
  rw[List.getElem_set]
  simp only[setB,setD,List.getElem_map,List.getElem_range,List.any_append,AgA,List.any_nil,AgB]
  split
  ·rename_i e;subst e;simp
  ·rename_i e
   have:(c.toNat == i)=false:=by simpa using e
   rw[this,AgB]
theorem SWeak_map {fl:List (Option Nat)}:∀ l:List D,SW fl (l.map .d) (l.map .d)
 | []=>by simp[SW]
 | x::l=>by simp only[Afs,SW];exact ⟨by simp[AW],SWeak_map l⟩
theorem setB_weak {fl:List (Option Nat)} {l:List UInt8}:SW fl (setB l) (setB l)=True:=eq_true (SWeak_map _)
theorem mem_getDU {α:Type} {l:List α} {i:Nat} {d:α} (h:i<l.length):l.getD i d∈l:=by
 rw[AcB,AdT h];exact List.getElem_mem h
theorem setB_two (l:List UInt8):∃ a b cs,setB l=a::b::cs:=by
 have:=@setB_length l
 match h:setB l with
 | []=>rw[h] at this;cases this
 | [_]=>rw[h] at this;cases this
 | a::b::cs=>exact ⟨a,b,cs,rfl⟩
theorem setB_one {l:List UInt8}:(setB l).all AV.one=true:=by
 simp[setB,setD,AV.one,D.one]
theorem setB_seal {H:List Aa} {l:List UInt8}:sealL H (setB l)=some (setD l):=by
 have:∀ m:List D,sealL H (m.map .d)=some m:=fun m=>by
  induction m with
  | nil=>rfl
  | cons x m ih=>simp only[Afs,sealL,sealA,ih]
 exact this _
theorem setB_refs {l:List UInt8}:refsL (setB l)=[]:=by
 have:∀ m:List D,refsL (m.map .d)=[]:=fun m=>by
  induction m with
  | nil=>rfl
  | cons x m ih=>simp only[Afs,refsL,EK,ih,AfV]
 exact this _
theorem setB_pass {H:List Aa} {L:List Nat} {l:List UInt8}:passL H L (setB l)=some (setB l):=by
 have:∀ m:List D,passL H L (m.map .d)=some (m.map .d):=fun m=>by
  induction m with
  | nil=>rfl
  | cons x m ih=>simp only[Afs,passL,passA,ih]
 exact this _
theorem setB_sids {H:List Aa} {L:List Nat} {l:List UInt8}:sidsL H L (setB l)=[]:=by
 have:∀ m:List D,sidsL H L (m.map .d)=[]:=fun m=>by
  induction m with
  | nil=>rfl
  | cons x m ih=>simp only[Afs,sidsL,sidsA,ih,AfV]
 exact this _
theorem setB_ren {f:Nat→Nat} {l:List UInt8}:renL f (setB l)=setB l:=by
 have:∀ m:List D,renL f (m.map .d)=m.map .d:=fun m=>by
  induction m with
  | nil=>rfl
  | cons x m ih=>simp only[Afs,renL,renA,ih]
 exact this _
theorem take_succ_getD {s:List UInt8} {i:Nat} (h:i<s.length):s.take i++[s.getD i 0]=s.take (i+1):=by
 rw[Agp,AdT h,AcB,AdT h];rfl
theorem contains_spec (l:List UInt8) (c:UInt8):Ctr TP G 116 [.ptr 0 0,.d (.int .u8 c.toNat)] [.box (setB l)] (.d (.bool (l.contains c))) [.box (setB l)]:=by
 have hc:=c.toNat_lt
 have hl:=@setB_length l
 refine Ctr.body (M:=M0) Am Tryz.func116 rfl Z2 ?_
 simp(maxSteps:=1000000)(disch:=(try simp only[awL]);omega)only[awS,hl,setB_get,Tryz.f116,↓awU,awY,↓reduceIte,↓reduceDIte,↓Qe,Qu,Qv,Qw,Qx,Qy,Qz,QA,QB,QC,QD,QE,QF,QG,QH,QI,QK]
 exact ⟨[some 0],rfl,by simp,by simp[HW,BW,setB_weak],.inl (by simp[AW])⟩
theorem makeSet_spec (l:List UInt8) (hl:l.length<2^62) (ha:∀ b∈l,b.toNat<128):Ctr TP G 85 [.d (S l)] [] (.d (.tup [.agg (setD l),.bool true])) []:=by
 refine Ctr.pure (M:=M0) Am Tryz.func85 rfl go85 ?_
 simp(maxSteps:=1000000)(disch:=(try simp only[awL]);omega)only[awS,Tryz.f85,↓awU,awY,↓reduceIte,↓reduceDIte,↓Qe,Qu,Qv,Qw,Qx,Qy,Qz,QA,QB,QC,QD,QE,QF,QG,QH,QI,QK]
 refine Au.fr 5 (α:=Nat) (fun i=>l.length-i) (fun i=>[(4,.d (.int .i64 i))]) (fun i=>[.box (setB (l.take i))]) (fun i=>i≤l.length) 0 (Ae3 _) ?_ ?_
 ·refine ⟨[some 0],rfl,by simp,by simp[sA,kA,SW,AW],?_⟩
  rw[AfR,setB_nil]
  simp only[HW,BW,Agb]
  refine ⟨SWeak_map (Agy 256 (.bool false)),trivial⟩
 ·intro i hi
  have sl:=@setB_length (l.take i)
  simp only[awK,AdY,AdZ,reduceIte]
  rcases AdX i l.length with h1 | h1
  ·have hb:=ha _ (mem_getDU (d:=0) h1)
   have hs:=take_succ_getD h1
   simp(maxSteps:=1000000)(disch:=(try simp only[awL]);omega)only[awS,sl,↓awU,awY,↓reduceIte,↓reduceDIte,↓Qe,Qu,Qv,Qw,Qx,Qy,Qz,QA,QB,QC,QD,QE,QF,QG,QH,QI,QK]
   exact ⟨i+1,h1,by simp only;omega,[some 0],rfl,by simp,by simp[sA,kA,SW,AW],by simp only[HW,BW,Agb];rw[setB_set,hs];exact ⟨by rw[setB_weak];trivial,trivial⟩⟩
  ·have sl:=@setB_length l
   have tk:(setB l).take 256=setB l:=AfX (by omega)
   obtain ⟨a,b,cs,e⟩:=setB_two l
   have lc:cs.length=254:=by rw[e] at sl;simpa using sl
   have tc:cs.take 254=cs:=AfX (by omega)
   have dc:cs.drop cs.length=[]:=List.drop_length
   simp(maxSteps:=1000000)(disch:=(try simp only[awL]);omega)only[awS,sl,tk,↓awU,awY,↓reduceIte,↓reduceDIte,↓Qe,Qu,Qv,Qw,Qx,Qy,Qz,QA,QB,QC,QD,QE,QF,QG,QH,QI,QK]
   refine ⟨setB_one,?_⟩
   have pm:CM (setB l) 0 (setB l)=setB l:=by
    rw[e]
    simp only[CM,CM,AfR,AfQ,Agq,AdW,List.drop_succ_cons,dc,AfV]
   first
   | rw[pm,sl,tk]
   | (simp only[CM,CM,AfR,AfQ,Agq] at pm;rw[pm,sl,tk])
   simp only[Ad1,if_true,sealA,sealL,setB_seal]
   rfl
def trimL (l s:List UInt8):List UInt8:=s.dropWhile l.contains
def trimR (l s:List UInt8):List UInt8:=(s.reverse.dropWhile l.contains).reverse
theorem SO {s:List UInt8} {k:Nat} (h:k<s.length):s.drop k=s.getD k 0::s.drop (k+1):=by
 rw[Af8 h,AcB,AdT h];rfl
theorem U7 {s:List UInt8} {k:Nat}:(s.drop k).getD 0 0=s.getD k 0:=by
 simp[AcB]
theorem take_snoc {s:List UInt8} {k:Nat} (h:k<s.length):s.take (k+1)=s.take k++[s.getD k 0]:=(take_succ_getD h).symm
theorem trimR_snoc {l s:List UInt8} {c:UInt8}:trimR l (s++[c])=if l.contains c then trimR l s else s++[c]:=by
 simp only[trimR,List.reverse_append,List.reverse_cons,List.reverse_nil,AfQ,List.singleton_append,AfU]
 split<;>simp
theorem JP (l s:List UInt8) (hs:s.length≤9223372036854775807):Ctr TP G 86 [.d (S s),.ptr 0 0] [.box (setB l)] (.d (S (trimL l s))) [.box (setB l)]:=by
 refine Ctr.body (M:=M0) Am Tryz.func86 rfl go86 ?_
 simp(maxSteps:=1000000)(disch:=(try simp only[awL]);omega)only[awS,setB_refs,setB_pass,setB_sids,setB_ren,Tryz.f86,↓awU,awY,↓reduceIte,↓reduceDIte,↓Qe,Qu,Qv,Qw,Qx,Qy,Qz,QA,QB,QC,QD,QE,QF,QG,QH,QI,QK]
 refine Au.fr 2 (α:=Nat) (fun k=>s.length-k) (fun k=>[(0,.d (S (s.drop k)))]) (fun _=>[.box (setB l)]) (fun k=>k≤s.length∧trimL l (s.drop k)=trimL l s) 0 ⟨Ae3 _,by rw[Agz]⟩ ?_ ?_
 ·exact ⟨[some 0],rfl,by simp,by simp[sA,kA,SW,AW],by simp[HW,BW,setB_weak]⟩
 ·rintro k ⟨hk,ht⟩
  simp only[awK,AdY,AdZ,reduceIte]
  rcases AdX k s.length with h1 | h1
  ·have hd:=SO h1
   simp(maxSteps:=1000000)(disch:=(try simp only[awL]);omega)only[awS,setB_refs,setB_pass,setB_sids,setB_ren,U7,↓awU,awY,↓reduceIte,↓reduceDIte,↓Qe,Qu,Qv,Qw,Qx,Qy,Qz,QA,QB,QC,QD,QE,QF,QG,QH,QI,QK]
   refine Ab.by (contains_spec l (s.getD k 0)) (by rfl) (by rfl) (Ad1 _) ?_
   cases hc:l.contains (s.getD k 0)
   ·simp(maxSteps:=1000000)(disch:=(try simp only[awL]);omega)only[awS,setB_refs,setB_pass,setB_sids,setB_ren,↓awU,awY,↓reduceIte,↓reduceDIte,↓Qe,Qu,Qv,Qw,Qx,Qy,Qz,QA,QB,QC,QD,QE,QF,QG,QH,QI,QK]
    rw[←ht,trimL,hd,AfU,hc]
    exact ⟨[some 0],rfl,by simp,by simp[HW,BW,setB_weak],.inl (by simp[AW])⟩
   ·simp(maxSteps:=1000000)(disch:=(try simp only[awL]);omega)only[awS,setB_refs,setB_pass,setB_sids,setB_ren,↓awU,awY,↓reduceIte,↓reduceDIte,↓Qe,Qu,Qv,Qw,Qx,Qy,Qz,QA,QB,QC,QD,QE,QF,QG,QH,QI,QK]
    exact ⟨k+1,⟨h1,by rw[←ht,trimL,trimL,hd,AfU,hc];rfl⟩,by simp only;omega,[some 0],rfl,by simp,by simp[sA,kA,SW,AW],by simp[HW,BW,setB_weak]⟩
  ·simp(maxSteps:=1000000)(disch:=(try simp only[awL]);omega)only[awS,setB_refs,setB_pass,setB_sids,setB_ren,↓awU,awY,↓reduceIte,↓reduceDIte,↓Qe,Qu,Qv,Qw,Qx,Qy,Qz,QA,QB,QC,QD,QE,QF,QG,QH,QI,QK]
   have:s.drop k=[]:=Afw h1
   rw[←ht,this]
   exact ⟨[some 0],rfl,by simp,by simp[HW,BW,setB_weak],.inl (by simp[AW,trimL])⟩
theorem Pn (l s:List UInt8) (hs:s.length≤9223372036854775807):Ctr TP G 87 [.d (S s),.ptr 0 0] [.box (setB l)] (.d (S (trimR l s))) [.box (setB l)]:=by
 refine Ctr.body (M:=M0) Am Tryz.func87 rfl go87 ?_
 simp(maxSteps:=1000000)(disch:=(try simp only[awL]);omega)only[awS,setB_refs,setB_pass,setB_sids,setB_ren,Tryz.f87,↓awU,awY,↓reduceIte,↓reduceDIte,↓Qe,Qu,Qv,Qw,Qx,Qy,Qz,QA,QB,QC,QD,QE,QF,QG,QH,QI,QK]
 refine Au.fr 2 (α:=Nat) (fun k=>k) (fun k=>[(0,.d (S (s.take k)))]) (fun _=>[.box (setB l)]) (fun k=>k≤s.length∧trimR l (s.take k)=trimR l s) s.length ⟨Ad1 _,by rw[Afv]⟩ ?_ ?_
 ·exact ⟨[some 0],rfl,by simp,by simp[sA,kA,SW,AW],by simp[HW,BW,setB_weak]⟩
 ·rintro k ⟨hk,ht⟩
  have lk:(s.take k).length=k:=by rw[Ad0];omega
  simp only[awK,AdY,AdZ,reduceIte]
  rcases k with _ | k
  ·rw[AfR] at *
   simp(maxSteps:=1000000)(disch:=(try simp only[awL]);omega)only[awS,setB_refs,setB_pass,setB_sids,setB_ren,↓awU,awY,↓reduceIte,↓reduceDIte,↓Qe,Qu,Qv,Qw,Qx,Qy,Qz,QA,QB,QC,QD,QE,QF,QG,QH,QI,QK]
   rw[←ht]
   exact ⟨[some 0],rfl,by simp,by simp[HW,BW,setB_weak],.inl (by simp[AW,trimR])⟩
  ·have hd:=take_snoc (show k<s.length by omega)
   have hg:(s.take (k+1)).getD k 0=s.getD k 0:=by
    rw[AcB,Af7,if_pos (by omega),←AcB]
   have hx:(s.take (k+1)).take k=s.take k:=by rw[List.take_take];congr 1;omega
   simp(maxSteps:=1000000)(disch:=(try simp only[awL]);omega)only[awS,setB_refs,setB_pass,setB_sids,setB_ren,lk,hg,↓awU,awY,↓reduceIte,↓reduceDIte,↓Qe,Qu,Qv,Qw,Qx,Qy,Qz,QA,QB,QC,QD,QE,QF,QG,QH,QI,QK]
   refine Ab.by (contains_spec l (s.getD k 0)) (by rfl) (by rfl) (Ad1 _) ?_
   cases hc:l.contains (s.getD k 0)
   ·simp(maxSteps:=1000000)(disch:=(try simp only[awL]);omega)only[awS,setB_refs,setB_pass,setB_sids,setB_ren,↓awU,awY,↓reduceIte,↓reduceDIte,↓Qe,Qu,Qv,Qw,Qx,Qy,Qz,QA,QB,QC,QD,QE,QF,QG,QH,QI,QK]
    rw[←ht,hd,trimR_snoc,hc]
    exact ⟨[some 0],rfl,by simp,by simp[HW,BW,setB_weak],.inl (by simp[AW])⟩
   ·simp(maxSteps:=1000000)(disch:=(try simp only[awL]);omega)only[awS,setB_refs,setB_pass,setB_sids,setB_ren,lk,hx,↓awU,awY,↓reduceIte,↓reduceDIte,↓Qe,Qu,Qv,Qw,Qx,Qy,Qz,QA,QB,QC,QD,QE,QF,QG,QH,QI,QK]
    exact ⟨k,⟨by omega,by rw[←ht,hd,trimR_snoc,hc];rfl⟩,by simp only;omega,[some 0],rfl,by simp,by simp[sA,kA,SW,AW],by simp[HW,BW,setB_weak]⟩
theorem setB_fold {l:List UInt8}:(setD l).map AV.d=setB l:=rfl
theorem setB_putL {L:List AV} {l:List UInt8} (h:L.length=256):CM L 0 ((setD l).map AV.d)=setB l:=by
 rw[setB_fold]
 obtain ⟨a,b,cs,e⟩:=setB_two l
 have q:=@setB_length l
 rw[e] at q ⊢
 have hd:L.drop (0+(a::b::cs).length)=[]:=Afw (by omega)
 simp only[CM,hd,AfR,AfQ,AfV]
theorem setB_putL' {l:List UInt8}:CM ([.d (.bool false),.d (.bool false),.d (.bool false),.d (.bool false),.d (.bool false),.d (.bool false),.d (.bool false),.d (.bool false),.d (.bool false),.d (.bool false),.d (.bool false),.d (.bool false),.d (.bool false),.d (.bool false),.d (.bool false),.d (.bool false),.d (.bool false),.d (.bool false),.d (.bool false),.d (.bool false),.d (.bool false),.d (.bool false),.d (.bool false),.d (.bool false),.d (.bool false),.d (.bool false),.d (.bool false),.d (.bool false),.d (.bool false),.d (.bool false),.d (.bool false),.d (.bool false),.d (.bool false),.d (.bool false),.d (.bool false),.d (.bool false),.d (.bool false),.d (.bool false),.d (.bool false),.d (.bool false),.d (.bool false),.d (.bool false),.d (.bool false),.d (.bool false),.d (.bool false),.d (.bool false),.d (.bool false),.d (.bool false),.d (.bool false),.d (.bool false),.d (.bool false),.d (.bool false),.d (.bool false),.d (.bool false),.d (.bool false),.d (.bool false),.d (.bool false),.d (.bool false),.d (.bool false),.d (.bool false),.d (.bool false),.d (.bool false),.d (.bool false),.d (.bool false),.d (.bool false),.d (.bool false),.d (.bool false),.d (.bool false),.d (.bool false),.d (.bool false),.d (.bool false),.d (.bool false),.d (.bool false),.d (.bool false),.d (.bool false),.d (.bool false),.d (.bool false),.d (.bool false),.d (.bool false),.d (.bool false),.d (.bool false),.d (.bool false),.d (.bool false),.d (.bool false),.d (.bool false),.d (.bool false),.d (.bool false),.d (.bool false),.d (.bool false),.d (.bool false),.d (.bool false),.d (.bool false),.d (.bool false),.d (.bool false),.d (.bool false),.d (.bool false),.d (.bool false),.d (.bool false),.d (.bool false),.d (.bool false),.d (.bool false),.d (.bool false),.d (.bool false),.d (.bool false),.d (.bool false),.d (.bool false),.d (.bool false),.d (.bool false),.d (.bool false),.d (.bool false),.d (.bool false),.d (.bool false),.d (.bool false),.d (.bool false),.d (.bool false),.d (.bool false),.d (.bool false),.d (.bool false),.d (.bool false),.d (.bool false),.d (.bool false),.d (.bool false),.d (.bool false),.d (.bool false),.d (.bool false),.d (.bool false),.d (.bool false),.d (.bool false),.d (.bool false),.d (.bool false),.d (.bool false),.d (.bool false),.d (.bool false),.d (.bool false),.d (.bool false),.d (.bool false),.d (.bool false),.d (.bool false),.d (.bool false),.d (.bool false),.d (.bool false),.d (.bool false),.d (.bool false),.d (.bool false),.d (.bool false),.d (.bool false),.d (.bool false),.d (.bool false),.d (.bool false),.d (.bool false),.d (.bool false),.d (.bool false),.d (.bool false),.d (.bool false),.d (.bool false),.d (.bool false),.d (.bool false),.d (.bool false),.d (.bool false),.d (.bool false),.d (.bool false),.d (.bool false),.d (.bool false),.d (.bool false),.d (.bool false),.d (.bool false),.d (.bool false),.d (.bool false),.d (.bool false),.d (.bool false),.d (.bool false),.d (.bool false),.d (.bool false),.d (.bool false),.d (.bool false),.d (.bool false),.d (.bool false),.d (.bool false),.d (.bool false),.d (.bool false),.d (.bool false),.d (.bool false),.d (.bool false),.d (.bool false),.d (.bool false),.d (.bool false),.d (.bool false),.d (.bool false),.d (.bool false),.d (.bool false),.d (.bool false),.d (.bool false),.d (.bool false),.d (.bool false),.d (.bool false),.d (.bool false),.d (.bool false),.d (.bool false),.d (.bool false),.d (.bool false),.d (.bool false),.d (.bool false),.d (.bool false),.d (.bool false),.d (.bool false),.d (.bool false),.d (.bool false),.d (.bool false),.d (.bool false),.d (.bool false),.d (.bool false),.d (.bool false),.d (.bool false),.d (.bool false),.d (.bool false),.d (.bool false),.d (.bool false),.d (.bool false),.d (.bool false),.d (.bool false),.d (.bool false),.d (.bool false),.d (.bool false),.d (.bool false),.d (.bool false),.d (.bool false),.d (.bool false),.d (.bool false),.d (.bool false),.d (.bool false),.d (.bool false),.d (.bool false),.d (.bool false),.d (.bool false),.d (.bool false),.d (.bool false),.d (.bool false),.d (.bool false),.d (.bool false),.d (.bool false),.d (.bool false),.d (.bool false),.d (.bool false),.d (.bool false),.d (.bool false),.d (.bool false),.d (.bool false),.d (.bool false),.d (.bool false),.d (.bool false),.d (.bool false),.d (.bool false),.d (.bool false),.d (.bool false),.d (.bool false),.d (.bool false)]:List AV) 0 (setB l)=setB l:=setB_putL rfl
theorem trim_spec (s l:List UInt8) (hs:s.length≤9223372036854775807) (hl:l.length<2^62) (h2:2≤l.length) (ha:∀ b∈l,b.toNat<128):Ctr TP G 48 [.d (S s),.d (S l)] [] (.d (S (trimL l (trimR l s)))) []:=by
 refine Ctr.pure (M:=M0) Am Tryz.func48 rfl go48 ?_
 have q:=@setB_length l
 have tr:(trimR l s).length≤s.length:=by
  simp only[trimR,List.length_reverse]
  exact AfY (List.dropWhile_sublist _).length_le (by simp)
 simp(maxSteps:=1000000)(disch:=(try simp only[awL]);omega)only[awS,setB_refs,setB_pass,setB_sids,setB_ren,Tryz.f48,↓awU,awY,↓reduceIte,↓reduceDIte,↓Qe,Qu,Qv,Qw,Qx,Qy,Qz,QA,QB,QC,QD,QE,QF,QG,QH,QI,QK]
 refine ⟨fun h=>⟨fun h3=>?_,fun h3=>?_⟩,fun h=>?_⟩
 ·subst h3;simp at h2
 ·refine Ab.pure (makeSet_spec l hl ha) ?_
  have tk:(setD l).take 256=setD l:=AfX (by rw[setD_length];omega)
  simp(maxSteps:=1000000)(disch:=(try simp only[awL]);omega)only[awS,↓ setB_putL',setB_putL',setB_fold,q,setB_refs,setB_pass,setB_sids,setB_ren,↓awU,awY,↓reduceIte,↓reduceDIte,↓Qe,Qu,Qv,Qw,Qx,Qy,Qz,QA,QB,QC,QD,QE,QF,QG,QH,QI,QK]
  refine ⟨setB_one,?_⟩
  refine Ab.by (Pn l s hs) (by rfl) (by rfl) (Ad1 _) ?_
  simp(maxSteps:=1000000)(disch:=(try simp only[awL]);omega)only[awS,setB_fold,setB_refs,setB_pass,setB_sids,setB_ren,↓awU,awY,↓reduceIte,↓reduceDIte,↓Qe,Qu,Qv,Qw,Qx,Qy,Qz,QA,QB,QC,QD,QE,QF,QG,QH,QI,QK]
  refine Ab.by (JP l (trimR l s) (by omega)) (by rfl) (by rfl) (Ad1 _) ?_
  simp(maxSteps:=1000000)(disch:=(try simp only[awL]);omega)only[awS,setB_fold,setB_refs,setB_pass,setB_sids,setB_ren,↓awU,awY,↓reduceIte,↓reduceDIte,↓Qe,Qu,Qv,Qw,Qx,Qy,Qz,QA,QB,QC,QD,QE,QF,QG,QH,QI,QK]
 ·subst h;rfl
theorem E8 {l:List UInt8} {p:UInt8→Bool}:l.dropWhile p=[]↔l.all p=true:=by
 induction l with
 | nil=>simp
 | cons b l ih =>
  rw[AfU,List.all_cons]
  cases h:p b<;>simp[ih]
theorem Pl {l s:List UInt8}:trimL l (trimR l s)=[]↔s.all l.contains=true:=by
 rw[trimL,E8,trimR]
 rw[Agc]
 constructor
 ·intro h
  by_cases e:s.reverse.dropWhile l.contains=[]
  ·have:=E8.1 e
   rwa[Agc] at this
  ·exfalso
   have h1:=List.head_dropWhile_not l.contains e
   have h2:=AfT.1 h _ (List.head_mem e)
   rw[h1] at h2;cases h2
 ·intro h
  have:s.reverse.dropWhile l.contains=[]:=E8.2 (by rwa[Agc])
  rw[this];rfl
abbrev GG:List UInt8:=[48,49,50,51,52,53,54,55,56,57]
def digB (s:List UInt8) (m:Int):Bool:=decide (1≤s.length∧(s.length:Int)≤m) && s.all GG.contains
theorem ER (s:List UInt8) (m:Int) (hs:s.length≤9223372036854775807):Ctr TP G 134 [.d (S s),.d (.int .i64 m)] [] (.d (.bool (digB s m))) []:=by
 refine Ctr.pure (M:=M0) Am Tryz.func134 rfl AeK ?_
 simp(maxSteps:=1000000)(disch:=(try simp only[awL]);omega)only[awS,Tryz.f134,↓awU,awY,↓reduceIte,↓reduceDIte,↓Qe,Qu,Qv,Qw,Qx,Qy,Qz,QA,QB,QC,QD,QE,QF,QG,QH,QI,QK]
 refine ⟨fun h1=>⟨fun h2=>?_,fun h2=>?_⟩,fun h1=>?_⟩
 ·refine Ab.pure (trim_spec s GG hs (by decide) (by decide) (by decide)) ?_
  simp(maxSteps:=1000000)(disch:=(try simp only[awL]);omega)only[awS,↓awU,awY,↓reduceIte,↓reduceDIte,↓Qe,Qu,Qv,Qw,Qx,Qy,Qz,QA,QB,QC,QD,QE,QF,QG,QH,QI,QK]
  rw[digB,decide_eq_true (show 1≤s.length∧(s.length:Int)≤m by omega),AfO]
  cases h:s.all GG.contains
  ·rw[decide_eq_false fun e=>by rw[Pl,h] at e;cases e]
  ·rw[decide_eq_true (Pl.2 h)]
 ·rw[digB,decide_eq_false (by omega)];rfl
 ·rw[digB,decide_eq_false (by omega)];rfl
def OO (s:List UInt8):Bool:=hasP s [45]
def decBody (s:List UInt8):List UInt8:=if hasP s [45] then s.drop 1 else if hasP s [43] then s.drop 1 else s
def decF (s:List UInt8):List UInt8:=cutL 46 (decBody s)
def decB (s:List UInt8):List UInt8:=cutR 46 (decBody s)
def decOk (s:List UInt8):Bool:=digB (decF s) 15 && (!decide (46∈decBody s) || digB (decB s) 9)
def AB (l:List UInt8):Nat:=l.foldl (fun v b=>v*10+(b.toNat-48)) 0
def Xf (s:List UInt8):Rat:=Rat.divInt (if OO s then -(AB (decF s++decB s):Int) else (AB (decF s++decB s):Int)) ((10^(decB s).length:Nat):Int)
theorem EV {l:List UInt8} {i:Nat} (h:i<l.length):AB (l.take i)*10+((l.getD i 0).toNat-48)=AB (l.take (i+1)):=by
 rw[take_snoc h,AB,AB,List.foldl_append];rfl
theorem Rj {c:UInt8}:∀ s:List UInt8,(cutL c s).length≤s.length
 | []=>Ad1 _
 | b::l=>by
   have:=Rj (c:=c) l
   rw[cutL];split<;>simp;exact this
theorem NE {c:UInt8} {s:List UInt8} (h:c∉s):cutR c s=[]:=((cut_index c s).2 h).2.2
theorem Rh {c:UInt8}:∀ s:List UInt8,(cutR c s).length≤s.length
 | []=>Ad1 _
 | b::l=>by
   have:=Rh (c:=c) l
   rw[cutR];split<;>simp;omega
theorem dig_range {b:UInt8} (h:GG.contains b=true):48≤b.toNat∧b.toNat≤57:=by
 have:b∈GG:=by simpa using h
 simp only[GG,AfN,Agu,or_false] at this
 rcases this with rfl | rfl | rfl | rfl | rfl | rfl | rfl | rfl | rfl | rfl<;>decide
theorem Dj {l:List UInt8} (h:∀ b∈l,GG.contains b=true):AB l<10^l.length:=by
 have key:∀ (l:List UInt8) (v:Nat),(∀ b∈l,GG.contains b=true)→l.foldl (fun v b=>v*10+(b.toNat-48)) v<(v+1)*10^l.length:=by
  intro l
  induction l with
  | nil=>intro v _;simp
  | cons b l ih =>
   intro v hl
   have hb:=dig_range (hl b (Agn ..))
   have:=ih (v*10+(b.toNat-48)) (fun c hc=>hl c (AfJ _ hc))
   rw[List.foldl_cons,AdW,Af6]
   refine AdU this ?_
   rw[Nat.mul_comm (10^l.length) 10,←Nat.mul_assoc]
   exact Nat.mul_le_mul_right _ (by omega)
 have:=key l 0 h
 rw[Agq,Nat.one_mul] at this
 exact this
theorem cells_nums {l:List UInt8}:(l.map fun b=>D.int .u8 (b.toNat:Int))=Ax .u8 (Bs l):=by simp[Ax,Bs]
theorem EU {s:List UInt8} (h:decOk s=true):(∀ b∈decF s++decB s,GG.contains b=true)∧(decF s++decB s).length≤24∧(decB s).length≤9:=by
 unfold decOk at h
 rw[Af2,Bool.or_eq_true] at h
 obtain ⟨h1,h2⟩:=h
 unfold digB at h1
 rw[Af2,decide_eq_true_eq] at h1
 have hb:(decB s).length≤9∧∀ b∈decB s,GG.contains b=true:=by
  rcases h2 with h2 | h2
  ·have e:decB s=[]:=NE (by simpa using h2)
   rw[e];exact ⟨by simp,fun b hb=>by cases hb⟩
  ·unfold digB at h2
   rw[Af2,decide_eq_true_eq] at h2
   exact ⟨by omega,fun b hb=>AfT.1 h2.2 b hb⟩
 refine ⟨fun b hb'=>?_,by rw[AdV];omega,hb.1⟩
 rcases Agf.1 hb' with h | h
 ·exact AfT.1 h1.2 b h
 ·exact hb.2 b h
theorem CV:toW 10=[10]:=by rw[EI (by decide),show 10 / B=0 from rfl,Bq];rfl
theorem BQ {n k:Nat} (h:n<10^k):(toW n).length≤k:=DN (AdU h (Nat.pow_le_pow_left (by decide) _))
theorem T6 (c:UInt8):∀ s:List UInt8,(cutL c s).length+(cutR c s).length≤s.length
 | []=>by simp[cutL,cutR]
 | b::l=>by
   have ih:=T6 c l
   rw[cutL,cutR]
   by_cases e:b=c
   ·rw[if_pos e,if_pos e,AdW,AfI];omega
   ·rw[if_neg e,if_neg e,AdW,AdW];omega
theorem decimalF_spec (hG:HG G) (s:List UInt8) (hs:s.length≤9223372036854775807):Ctr TP G 102 [.d (S s)] [] (.d (.tup [if decOk s=true then Frac (Xf s) else Zf,.bool (decOk s)])) []:=by
 have hG':=hG
 unfold HG at hG
 refine Ctr.pure (M:=M0) Am Tryz.func102 rfl Ae0 ?_
 simp(maxSteps:=1000000)(disch:=(try simp only[awL]);omega)only[awS,Tryz.f102,↓awU,awY,↓reduceIte,↓reduceDIte,↓Qe,Qu,Qv,Qw,Qx,Qy,Qz,QA,QB,QC,QD,QE,QF,QG,QH,QI,QK]
 refine Ab.pure (cutPrefix_spec s [45]) ?_
 have hbody:(decBody s).length≤s.length:=by
  unfold decBody
  split
  ·simp
  ·split<;>simp
 have lsum:=T6 46 (decBody s)
 have l1:=Rj (c:=46) (decBody s)
 have l2:=Rh (c:=46) (decBody s)
 have hno:decide (46∈decBody s)=false→decB s=[]:=fun h=>NE (of_decide_eq_false h)
 have hok:decOk s=(digB (decF s) 15 && (!decide (46∈decBody s) || digB (decB s) 9)):=rfl
 have hdv:Xf s=Rat.divInt (if OO s then -(AB (decF s++decB s):Int) else (AB (decF s++decB s):Int)) ((10^(decB s).length:Nat):Int):=rfl
 have f1:cutL 46 (decBody s)=decF s:=rfl
 have f2:cutR 46 (decBody s)=decB s:=rfl
 rw[f1] at l1
 rw[f2] at l2
 rw[f1,f2] at lsum
 cases h45:hasP s [45]
 ·simp(maxSteps:=1000000)(disch:=(try simp only[awL]);omega)only[awS,↓awU,awY,↓reduceIte,↓reduceDIte,↓Qe,Qu,Qv,Qw,Qx,Qy,Qz,QA,QB,QC,QD,QE,QF,QG,QH,QI,QK]
  refine Ab.pure (Kf s [43]) ?_
  have eb:(if hasP s [43] then s.drop ([43]:List UInt8).length else s)=decBody s:=by rw[decBody,h45];rfl
  have en:OO s=false:=h45
  rw[eb]
  rw[en] at hdv
  simp(maxSteps:=1000000)(disch:=(try simp only[awL]);omega)only[awS,↓awU,awY,↓reduceIte,↓reduceDIte,↓Qe,Qu,Qv,Qw,Qx,Qy,Qz,QA,QB,QC,QD,QE,QF,QG,QH,QI,QK]
  refine Ab.pure (cut_spec (decBody s) 46 (by omega)) ?_
  rw[f1,f2]
  simp(maxSteps:=1000000)(disch:=(try simp only[awL]);omega)only[awS,↓awU,awY,↓reduceIte,↓reduceDIte,↓Qe,Qu,Qv,Qw,Qx,Qy,Qz,QA,QB,QC,QD,QE,QF,QG,QH,QI,QK]
  refine Ab.pure (ER (decF s) 15 (by omega)) ?_
  cases d1:digB (decF s) 15
  ·rw[hok,d1,AfP]
   simp(maxSteps:=1000000)(disch:=(try simp only[awL]);omega)only[awS,↓awU,awY,↓reduceIte,↓reduceDIte,↓Qe,Qu,Qv,Qw,Qx,Qy,Qz,QA,QB,QC,QD,QE,QF,QG,QH,QI,QK]
   first | done | rfl
  ·rw[d1,AfO] at hok
   cases dp:decide (46∈decBody s)
   ·rw[dp,Agi,Agr] at hok
    obtain ⟨hall,hlen,hlb⟩:=EU hok
    have hsm:∀ i,i≤(decF s++decB s).length→(toW (AB ((decF s++decB s).take i))).length≤30:=fun i hi=>by
     have h:=Dj (l:=(decF s++decB s).take i) fun b hb=>hall b (Ae1 hb)
     exact BQ (AdU h (Ae2 (by decide) (by rw[Ad0];omega)))
    have hlt:∀ i,i≤(decF s++decB s).length→AB ((decF s++decB s).take i)*10<10^30:=fun i hi=>by
     have h:=Dj (l:=(decF s++decB s).take i) fun b hb=>hall b (Ae1 hb)
     have h2:10^((decF s++decB s).take i).length≤10^29:=Ae2 (by decide) (by rw[Ad0];omega)
     have h3:(10:Nat)^30=10^29*10:=rfl
     omega
    rw[if_pos hok,hok]
    generalize hL:decF s++decB s=L at *
    simp(maxSteps:=1000000)(disch:=(try simp only[awL]);omega)only[hG,awS,↓awU,awY,↓reduceIte,↓reduceDIte,↓Qe,Qu,Qv,Qw,Qx,Qy,Qz,QA,QB,QC,QD,QE,QF,QG,QH,QI,QK]
    refine Ab.of (EB [1] (by decide)) (by rfl) ?_
    simp(maxSteps:=1000000)(disch:=(try simp only[awL]);omega)only[hG,awS,hL,cells_nums,↓awU,awY,↓reduceIte,↓reduceDIte,↓Qe,Qu,Qv,Qw,Qx,Qy,Qz,QA,QB,QC,QD,QE,QF,QG,QH,QI,QK]
    refine Au.fr 422212465069220 (α:=Nat) (fun i=>L.length-i) (fun i=>[(9,.d (W (toW (AB (L.take i))))),(49,.d (.int .i64 i))])
     (fun _=>[.box [.d (.bool false),.d (.sl 0 true []),.d (.bool false),.d (.sl 0 true [])],.row true (AK .u32 [10]),.row false (Ax .u8 (Bs L))]) (fun i=>i≤L.length) 0 (Ae3 _) ?_ ?_
    ·exact ⟨[some 0,some 1,some 2],rfl,by simp,by simp[sA,kA,SW,AW,AB,Bq,AK],by simp[HW,BW,SW,AW,AK]⟩
    ·intro i hi
     have lt:=hsm i hi
     have nl:=@BJ L
     simp only[awK,AdY,AdZ,reduceIte]
     rcases AdX i L.length with h1 | h1
     ·have hb:=dig_range (hall _ (mem_getDU (d:=0) h1))
      have hp:=EV h1
      have ls:=BQ (n:=(L.getD i 0).toNat-48) (k:=2) (by omega)
      have e48:((L.getD i 0).toNat:Int)-48=(((L.getD i 0).toNat-48:Nat):Int):=by omega
      have lm:(toW (AB (L.take i)*10)).length≤40:=BQ (AdU (hlt i hi) (by decide))
      simp(maxSteps:=1000000)(disch:=(try simp only[awL]);omega)only[hG,awS,nl,↓awU,awY,↓reduceIte,↓reduceDIte,↓Qe,Qu,Qv,Qw,Qx,Qy,Qz,QA,QB,QC,QD,QE,QF,QG,QH,QI,QK]
      refine Ab.frozenE (CJ (AB (L.take i)) 10 (by omega) (by rw[CV];decide)) (by rw[CV];rfl) ?_
      simp(maxSteps:=1000000)(disch:=(try simp only[awL]);omega)only[hG,awS,nl,e48,↓awU,awY,↓reduceIte,↓reduceDIte,↓Qe,Qu,Qv,Qw,Qx,Qy,Qz,QA,QB,QC,QD,QE,QF,QG,QH,QI,QK]
      refine Ab.pure (Ee ((L.getD i 0).toNat-48) (by omega)) ?_
      simp(maxSteps:=1000000)(disch:=(try simp only[awL]);omega)only[hG,awS,nl,↓awU,awY,↓reduceIte,↓reduceDIte,↓Qe,Qu,Qv,Qw,Qx,Qy,Qz,QA,QB,QC,QD,QE,QF,QG,QH,QI,QK]
      refine Ab.pure (G0 (AB (L.take i)*10) ((L.getD i 0).toNat-48) (by omega) (by omega)) ?_
      rw[hp]
      simp(maxSteps:=1000000)(disch:=(try simp only[awL]);omega)only[hG,awS,nl,↓awU,awY,↓reduceIte,↓reduceDIte,↓Qe,Qu,Qv,Qw,Qx,Qy,Qz,QA,QB,QC,QD,QE,QF,QG,QH,QI,QK]
      exact ⟨i+1,h1,by simp only;omega,⟨[some 0,some 1,some 2],rfl,by simp,by simp[sA,kA,SW,AW],by simp[HW,BW,SW,AW]⟩⟩
     ·obtain rfl:i=L.length:=by omega
      rw[Afv] at *
      simp(maxSteps:=1000000)(disch:=(try simp only[awL]);omega)only[hG,awS,nl,↓awU,awY,↓reduceIte,↓reduceDIte,↓Qe,Qu,Qv,Qw,Qx,Qy,Qz,QA,QB,QC,QD,QE,QF,QG,QH,QI,QK]
      refine Au.fr 9223372036854777380 (α:=Nat) (fun j=>(decB s).length-j) (fun j=>[(11,.d (W (toW (10^j)))),(64,.d (.int .i64 j))])
       (fun _=>[.box [.d (.bool false),.d (.sl 0 true []),.d (.bool false),.d (.sl 0 true [])],.row true (AK .u32 [10]),.row false (Ax .u8 (Bs L))]) (fun j=>j≤(decB s).length) 0 (Ae3 _) ?_ ?_
      ·exact ⟨[some 0,some 1,some 2],rfl,by simp,by simp[sA,kA,SW,AW,Kz],by simp[HW,BW,SW,AW,AK]⟩
      ·intro j hj
       have lj:(toW (10^j)).length≤10:=BQ (AfS (by decide) (by omega))
       simp only[awK,AdY,AdZ,reduceIte]
       rcases AdX j (decB s).length with h2 | h2
       ·simp(maxSteps:=1000000)(disch:=(try simp only[awL]);omega)only[hG,awS,↓awU,awY,↓reduceIte,↓reduceDIte,↓Qe,Qu,Qv,Qw,Qx,Qy,Qz,QA,QB,QC,QD,QE,QF,QG,QH,QI,QK]
        refine Ab.frozenE (CJ (10^j) 10 (by omega) (by rw[CV];decide)) (by rw[CV];rfl) ?_
        rw[←Af6]
        simp(maxSteps:=1000000)(disch:=(try simp only[awL]);omega)only[hG,awS,↓awU,awY,↓reduceIte,↓reduceDIte,↓Qe,Qu,Qv,Qw,Qx,Qy,Qz,QA,QB,QC,QD,QE,QF,QG,QH,QI,QK]
        exact ⟨j+1,h2,by simp only;omega,⟨[some 0,some 1,some 2],rfl,by simp,by simp[sA,kA,SW,AW],by simp[HW,BW,SW,AW]⟩⟩
       ·obtain rfl:j=(decB s).length:=by omega
        have hd0:((10^(decB s).length:Nat):Int)≠0:=by
         have:0<10^(decB s).length:=Agj (by decide)
         omega
        simp(maxSteps:=1000000)(disch:=(try simp only[awL]);omega)only[hG,awS,↓awU,awY,↓reduceIte,↓reduceDIte,↓Qe,Qu,Qv,Qw,Qx,Qy,Qz,QA,QB,QC,QD,QE,QF,QG,QH,QI,QK]
        refine Ab.pure (B0 false (AB L) (by omega)) ?_
        simp(maxSteps:=1000000)(disch:=(try simp only[awL]);omega)only[hG,awS,↓awU,awY,↓reduceIte,↓reduceDIte,↓Qe,Qu,Qv,Qw,Qx,Qy,Qz,QA,QB,QC,QD,QE,QF,QG,QH,QI,QK]
        refine Ab.pure (B0 false (10^(decB s).length) (by omega)) ?_
        simp(maxSteps:=1000000)(disch:=(try simp only[awL]);omega)only[hG,awS,↓awU,awY,↓reduceIte,↓reduceDIte,↓Qe,Qu,Qv,Qw,Qx,Qy,Qz,QA,QB,QC,QD,QE,QF,QG,QH,QI,QK]
        refine Ab.of (Ed (if false=true then -(AB L:Int) else (AB L:Int)) ((10^(decB s).length:Nat):Int) hd0 (by simp only[sz];split<;>simp<;>omega) (by simp only[sz,AfW];omega)) (by rfl) ?_
        rw[←hdv]
        simp(maxSteps:=1000000)(disch:=(try simp only[awL]);omega)only[hG,awS,↓awU,awY,↓reduceIte,↓reduceDIte,↓Qe,Qu,Qv,Qw,Qx,Qy,Qz,QA,QB,QC,QD,QE,QF,QG,QH,QI,QK]
        first | done | rfl
   ·rw[dp,AgC,Agl] at hok
    simp(maxSteps:=1000000)(disch:=(try simp only[awL]);omega)only[awS,↓awU,awY,↓reduceIte,↓reduceDIte,↓Qe,Qu,Qv,Qw,Qx,Qy,Qz,QA,QB,QC,QD,QE,QF,QG,QH,QI,QK]
    refine Ab.pure (ER (decB s) 9 (by omega)) ?_
    cases d2:digB (decB s) 9
    ·rw[hok,d2]
     simp(maxSteps:=1000000)(disch:=(try simp only[awL]);omega)only[awS,↓awU,awY,↓reduceIte,↓reduceDIte,↓Qe,Qu,Qv,Qw,Qx,Qy,Qz,QA,QB,QC,QD,QE,QF,QG,QH,QI,QK]
     first | done | rfl
    ·rw[d2] at hok
     obtain ⟨hall,hlen,hlb⟩:=EU hok
     have hsm:∀ i,i≤(decF s++decB s).length→(toW (AB ((decF s++decB s).take i))).length≤30:=fun i hi=>by
      have h:=Dj (l:=(decF s++decB s).take i) fun b hb=>hall b (Ae1 hb)
      exact BQ (AdU h (Ae2 (by decide) (by rw[Ad0];omega)))
     have hlt:∀ i,i≤(decF s++decB s).length→AB ((decF s++decB s).take i)*10<10^30:=fun i hi=>by
      have h:=Dj (l:=(decF s++decB s).take i) fun b hb=>hall b (Ae1 hb)
      have h2:10^((decF s++decB s).take i).length≤10^29:=Ae2 (by decide) (by rw[Ad0];omega)
      have h3:(10:Nat)^30=10^29*10:=rfl
      omega
     rw[if_pos hok,hok]
     generalize hL:decF s++decB s=L at *
     simp(maxSteps:=1000000)(disch:=(try simp only[awL]);omega)only[hG,awS,↓awU,awY,↓reduceIte,↓reduceDIte,↓Qe,Qu,Qv,Qw,Qx,Qy,Qz,QA,QB,QC,QD,QE,QF,QG,QH,QI,QK]
     refine Ab.of (EB [1] (by decide)) (by rfl) ?_
     simp(maxSteps:=1000000)(disch:=(try simp only[awL]);omega)only[hG,awS,hL,cells_nums,↓awU,awY,↓reduceIte,↓reduceDIte,↓Qe,Qu,Qv,Qw,Qx,Qy,Qz,QA,QB,QC,QD,QE,QF,QG,QH,QI,QK]
     refine Au.fr 422212465069220 (α:=Nat) (fun i=>L.length-i) (fun i=>[(9,.d (W (toW (AB (L.take i))))),(49,.d (.int .i64 i))])
      (fun _=>[.box [.d (.bool false),.d (.sl 0 true []),.d (.bool false),.d (.sl 0 true [])],.row true (AK .u32 [10]),.row false (Ax .u8 (Bs L))]) (fun i=>i≤L.length) 0 (Ae3 _) ?_ ?_
     ·exact ⟨[some 0,some 1,some 2],rfl,by simp,by simp[sA,kA,SW,AW,AB,Bq,AK],by simp[HW,BW,SW,AW,AK]⟩
     ·intro i hi
      have lt:=hsm i hi
      have nl:=@BJ L
      simp only[awK,AdY,AdZ,reduceIte]
      rcases AdX i L.length with h1 | h1
      ·have hb:=dig_range (hall _ (mem_getDU (d:=0) h1))
       have hp:=EV h1
       have ls:=BQ (n:=(L.getD i 0).toNat-48) (k:=2) (by omega)
       have e48:((L.getD i 0).toNat:Int)-48=(((L.getD i 0).toNat-48:Nat):Int):=by omega
       have lm:(toW (AB (L.take i)*10)).length≤40:=BQ (AdU (hlt i hi) (by decide))
       simp(maxSteps:=1000000)(disch:=(try simp only[awL]);omega)only[hG,awS,nl,↓awU,awY,↓reduceIte,↓reduceDIte,↓Qe,Qu,Qv,Qw,Qx,Qy,Qz,QA,QB,QC,QD,QE,QF,QG,QH,QI,QK]
       refine Ab.frozenE (CJ (AB (L.take i)) 10 (by omega) (by rw[CV];decide)) (by rw[CV];rfl) ?_
       simp(maxSteps:=1000000)(disch:=(try simp only[awL]);omega)only[hG,awS,nl,e48,↓awU,awY,↓reduceIte,↓reduceDIte,↓Qe,Qu,Qv,Qw,Qx,Qy,Qz,QA,QB,QC,QD,QE,QF,QG,QH,QI,QK]
       refine Ab.pure (Ee ((L.getD i 0).toNat-48) (by omega)) ?_
       simp(maxSteps:=1000000)(disch:=(try simp only[awL]);omega)only[hG,awS,nl,↓awU,awY,↓reduceIte,↓reduceDIte,↓Qe,Qu,Qv,Qw,Qx,Qy,Qz,QA,QB,QC,QD,QE,QF,QG,QH,QI,QK]
       refine Ab.pure (G0 (AB (L.take i)*10) ((L.getD i 0).toNat-48) (by omega) (by omega)) ?_
       rw[hp]
       simp(maxSteps:=1000000)(disch:=(try simp only[awL]);omega)only[hG,awS,nl,↓awU,awY,↓reduceIte,↓reduceDIte,↓Qe,Qu,Qv,Qw,Qx,Qy,Qz,QA,QB,QC,QD,QE,QF,QG,QH,QI,QK]
       exact ⟨i+1,h1,by simp only;omega,⟨[some 0,some 1,some 2],rfl,by simp,by simp[sA,kA,SW,AW],by simp[HW,BW,SW,AW]⟩⟩
      ·obtain rfl:i=L.length:=by omega
       rw[Afv] at *
       simp(maxSteps:=1000000)(disch:=(try simp only[awL]);omega)only[hG,awS,nl,↓awU,awY,↓reduceIte,↓reduceDIte,↓Qe,Qu,Qv,Qw,Qx,Qy,Qz,QA,QB,QC,QD,QE,QF,QG,QH,QI,QK]
       refine Au.fr 9223372036854777380 (α:=Nat) (fun j=>(decB s).length-j) (fun j=>[(11,.d (W (toW (10^j)))),(64,.d (.int .i64 j))])
        (fun _=>[.box [.d (.bool false),.d (.sl 0 true []),.d (.bool false),.d (.sl 0 true [])],.row true (AK .u32 [10]),.row false (Ax .u8 (Bs L))]) (fun j=>j≤(decB s).length) 0 (Ae3 _) ?_ ?_
       ·exact ⟨[some 0,some 1,some 2],rfl,by simp,by simp[sA,kA,SW,AW,Kz],by simp[HW,BW,SW,AW,AK]⟩
       ·intro j hj
        have lj:(toW (10^j)).length≤10:=BQ (AfS (by decide) (by omega))
        simp only[awK,AdY,AdZ,reduceIte]
        rcases AdX j (decB s).length with h2 | h2
        ·simp(maxSteps:=1000000)(disch:=(try simp only[awL]);omega)only[hG,awS,↓awU,awY,↓reduceIte,↓reduceDIte,↓Qe,Qu,Qv,Qw,Qx,Qy,Qz,QA,QB,QC,QD,QE,QF,QG,QH,QI,QK]
         refine Ab.frozenE (CJ (10^j) 10 (by omega) (by rw[CV];decide)) (by rw[CV];rfl) ?_
         rw[←Af6]
         simp(maxSteps:=1000000)(disch:=(try simp only[awL]);omega)only[hG,awS,↓awU,awY,↓reduceIte,↓reduceDIte,↓Qe,Qu,Qv,Qw,Qx,Qy,Qz,QA,QB,QC,QD,QE,QF,QG,QH,QI,QK]
         exact ⟨j+1,h2,by simp only;omega,⟨[some 0,some 1,some 2],rfl,by simp,by simp[sA,kA,SW,AW],by simp[HW,BW,SW,AW]⟩⟩
        ·obtain rfl:j=(decB s).length:=by omega
         have hd0:((10^(decB s).length:Nat):Int)≠0:=by
          have:0<10^(decB s).length:=Agj (by decide)
          omega
         simp(maxSteps:=1000000)(disch:=(try simp only[awL]);omega)only[hG,awS,↓awU,awY,↓reduceIte,↓reduceDIte,↓Qe,Qu,Qv,Qw,Qx,Qy,Qz,QA,QB,QC,QD,QE,QF,QG,QH,QI,QK]
         refine Ab.pure (B0 false (AB L) (by omega)) ?_
         simp(maxSteps:=1000000)(disch:=(try simp only[awL]);omega)only[hG,awS,↓awU,awY,↓reduceIte,↓reduceDIte,↓Qe,Qu,Qv,Qw,Qx,Qy,Qz,QA,QB,QC,QD,QE,QF,QG,QH,QI,QK]
         refine Ab.pure (B0 false (10^(decB s).length) (by omega)) ?_
         simp(maxSteps:=1000000)(disch:=(try simp only[awL]);omega)only[hG,awS,↓awU,awY,↓reduceIte,↓reduceDIte,↓Qe,Qu,Qv,Qw,Qx,Qy,Qz,QA,QB,QC,QD,QE,QF,QG,QH,QI,QK]
         refine Ab.of (Ed (if false=true then -(AB L:Int) else (AB L:Int)) ((10^(decB s).length:Nat):Int) hd0 (by simp only[sz];split<;>simp<;>omega) (by simp only[sz,AfW];omega)) (by rfl) ?_
         rw[←hdv]
         simp(maxSteps:=1000000)(disch:=(try simp only[awL]);omega)only[hG,awS,↓awU,awY,↓reduceIte,↓reduceDIte,↓Qe,Qu,Qv,Qw,Qx,Qy,Qz,QA,QB,QC,QD,QE,QF,QG,QH,QI,QK]
         first | done | rfl
 ·have eb:s.drop 1=decBody s:=by rw[decBody,h45];rfl
  have en:OO s=true:=h45
  rw[en] at hdv
  simp(maxSteps:=1000000)(disch:=(try simp only[awL]);omega)only[awS,eb,↓awU,awY,↓reduceIte,↓reduceDIte,↓Qe,Qu,Qv,Qw,Qx,Qy,Qz,QA,QB,QC,QD,QE,QF,QG,QH,QI,QK]
  refine Ab.pure (cut_spec (decBody s) 46 (by omega)) ?_
  rw[f1,f2]
  simp(maxSteps:=1000000)(disch:=(try simp only[awL]);omega)only[awS,↓awU,awY,↓reduceIte,↓reduceDIte,↓Qe,Qu,Qv,Qw,Qx,Qy,Qz,QA,QB,QC,QD,QE,QF,QG,QH,QI,QK]
  refine Ab.pure (ER (decF s) 15 (by omega)) ?_
  cases d1:digB (decF s) 15
  ·rw[hok,d1,AfP]
   simp(maxSteps:=1000000)(disch:=(try simp only[awL]);omega)only[awS,↓awU,awY,↓reduceIte,↓reduceDIte,↓Qe,Qu,Qv,Qw,Qx,Qy,Qz,QA,QB,QC,QD,QE,QF,QG,QH,QI,QK]
   first | done | rfl
  ·rw[d1,AfO] at hok
   cases dp:decide (46∈decBody s)
   ·rw[dp,Agi,Agr] at hok
    obtain ⟨hall,hlen,hlb⟩:=EU hok
    have hsm:∀ i,i≤(decF s++decB s).length→(toW (AB ((decF s++decB s).take i))).length≤30:=fun i hi=>by
     have h:=Dj (l:=(decF s++decB s).take i) fun b hb=>hall b (Ae1 hb)
     exact BQ (AdU h (Ae2 (by decide) (by rw[Ad0];omega)))
    have hlt:∀ i,i≤(decF s++decB s).length→AB ((decF s++decB s).take i)*10<10^30:=fun i hi=>by
     have h:=Dj (l:=(decF s++decB s).take i) fun b hb=>hall b (Ae1 hb)
     have h2:10^((decF s++decB s).take i).length≤10^29:=Ae2 (by decide) (by rw[Ad0];omega)
     have h3:(10:Nat)^30=10^29*10:=rfl
     omega
    rw[if_pos hok,hok]
    generalize hL:decF s++decB s=L at *
    simp(maxSteps:=1000000)(disch:=(try simp only[awL]);omega)only[hG,awS,↓awU,awY,↓reduceIte,↓reduceDIte,↓Qe,Qu,Qv,Qw,Qx,Qy,Qz,QA,QB,QC,QD,QE,QF,QG,QH,QI,QK]
    refine Ab.of (EB [1] (by decide)) (by rfl) ?_
    simp(maxSteps:=1000000)(disch:=(try simp only[awL]);omega)only[hG,awS,hL,cells_nums,↓awU,awY,↓reduceIte,↓reduceDIte,↓Qe,Qu,Qv,Qw,Qx,Qy,Qz,QA,QB,QC,QD,QE,QF,QG,QH,QI,QK]
    refine Au.fr 422212465069220 (α:=Nat) (fun i=>L.length-i) (fun i=>[(9,.d (W (toW (AB (L.take i))))),(49,.d (.int .i64 i))])
     (fun _=>[.box [.d (.bool false),.d (.sl 0 true []),.d (.bool false),.d (.sl 0 true [])],.row true (AK .u32 [10]),.row false (Ax .u8 (Bs L))]) (fun i=>i≤L.length) 0 (Ae3 _) ?_ ?_
    ·exact ⟨[some 0,some 1,some 2],rfl,by simp,by simp[sA,kA,SW,AW,AB,Bq,AK],by simp[HW,BW,SW,AW,AK]⟩
    ·intro i hi
     have lt:=hsm i hi
     have nl:=@BJ L
     simp only[awK,AdY,AdZ,reduceIte]
     rcases AdX i L.length with h1 | h1
     ·have hb:=dig_range (hall _ (mem_getDU (d:=0) h1))
      have hp:=EV h1
      have ls:=BQ (n:=(L.getD i 0).toNat-48) (k:=2) (by omega)
      have e48:((L.getD i 0).toNat:Int)-48=(((L.getD i 0).toNat-48:Nat):Int):=by omega
      have lm:(toW (AB (L.take i)*10)).length≤40:=BQ (AdU (hlt i hi) (by decide))
      simp(maxSteps:=1000000)(disch:=(try simp only[awL]);omega)only[hG,awS,nl,↓awU,awY,↓reduceIte,↓reduceDIte,↓Qe,Qu,Qv,Qw,Qx,Qy,Qz,QA,QB,QC,QD,QE,QF,QG,QH,QI,QK]
      refine Ab.frozenE (CJ (AB (L.take i)) 10 (by omega) (by rw[CV];decide)) (by rw[CV];rfl) ?_
      simp(maxSteps:=1000000)(disch:=(try simp only[awL]);omega)only[hG,awS,nl,e48,↓awU,awY,↓reduceIte,↓reduceDIte,↓Qe,Qu,Qv,Qw,Qx,Qy,Qz,QA,QB,QC,QD,QE,QF,QG,QH,QI,QK]
      refine Ab.pure (Ee ((L.getD i 0).toNat-48) (by omega)) ?_
      simp(maxSteps:=1000000)(disch:=(try simp only[awL]);omega)only[hG,awS,nl,↓awU,awY,↓reduceIte,↓reduceDIte,↓Qe,Qu,Qv,Qw,Qx,Qy,Qz,QA,QB,QC,QD,QE,QF,QG,QH,QI,QK]
      refine Ab.pure (G0 (AB (L.take i)*10) ((L.getD i 0).toNat-48) (by omega) (by omega)) ?_
      rw[hp]
      simp(maxSteps:=1000000)(disch:=(try simp only[awL]);omega)only[hG,awS,nl,↓awU,awY,↓reduceIte,↓reduceDIte,↓Qe,Qu,Qv,Qw,Qx,Qy,Qz,QA,QB,QC,QD,QE,QF,QG,QH,QI,QK]
      exact ⟨i+1,h1,by simp only;omega,⟨[some 0,some 1,some 2],rfl,by simp,by simp[sA,kA,SW,AW],by simp[HW,BW,SW,AW]⟩⟩
     ·obtain rfl:i=L.length:=by omega
      rw[Afv] at *
      simp(maxSteps:=1000000)(disch:=(try simp only[awL]);omega)only[hG,awS,nl,↓awU,awY,↓reduceIte,↓reduceDIte,↓Qe,Qu,Qv,Qw,Qx,Qy,Qz,QA,QB,QC,QD,QE,QF,QG,QH,QI,QK]
      refine Au.fr 9223372036854777380 (α:=Nat) (fun j=>(decB s).length-j) (fun j=>[(11,.d (W (toW (10^j)))),(64,.d (.int .i64 j))])
       (fun _=>[.box [.d (.bool false),.d (.sl 0 true []),.d (.bool false),.d (.sl 0 true [])],.row true (AK .u32 [10]),.row false (Ax .u8 (Bs L))]) (fun j=>j≤(decB s).length) 0 (Ae3 _) ?_ ?_
      ·exact ⟨[some 0,some 1,some 2],rfl,by simp,by simp[sA,kA,SW,AW,Kz],by simp[HW,BW,SW,AW,AK]⟩
      ·intro j hj
       have lj:(toW (10^j)).length≤10:=BQ (AfS (by decide) (by omega))
       simp only[awK,AdY,AdZ,reduceIte]
       rcases AdX j (decB s).length with h2 | h2
       ·simp(maxSteps:=1000000)(disch:=(try simp only[awL]);omega)only[hG,awS,↓awU,awY,↓reduceIte,↓reduceDIte,↓Qe,Qu,Qv,Qw,Qx,Qy,Qz,QA,QB,QC,QD,QE,QF,QG,QH,QI,QK]
        refine Ab.frozenE (CJ (10^j) 10 (by omega) (by rw[CV];decide)) (by rw[CV];rfl) ?_
        rw[←Af6]
        simp(maxSteps:=1000000)(disch:=(try simp only[awL]);omega)only[hG,awS,↓awU,awY,↓reduceIte,↓reduceDIte,↓Qe,Qu,Qv,Qw,Qx,Qy,Qz,QA,QB,QC,QD,QE,QF,QG,QH,QI,QK]
        exact ⟨j+1,h2,by simp only;omega,⟨[some 0,some 1,some 2],rfl,by simp,by simp[sA,kA,SW,AW],by simp[HW,BW,SW,AW]⟩⟩
       ·obtain rfl:j=(decB s).length:=by omega
        have hd0:((10^(decB s).length:Nat):Int)≠0:=by
         have:0<10^(decB s).length:=Agj (by decide)
         omega
        simp(maxSteps:=1000000)(disch:=(try simp only[awL]);omega)only[hG,awS,↓awU,awY,↓reduceIte,↓reduceDIte,↓Qe,Qu,Qv,Qw,Qx,Qy,Qz,QA,QB,QC,QD,QE,QF,QG,QH,QI,QK]
        refine Ab.pure (B0 true (AB L) (by omega)) ?_
        simp(maxSteps:=1000000)(disch:=(try simp only[awL]);omega)only[hG,awS,↓awU,awY,↓reduceIte,↓reduceDIte,↓Qe,Qu,Qv,Qw,Qx,Qy,Qz,QA,QB,QC,QD,QE,QF,QG,QH,QI,QK]
        refine Ab.pure (B0 false (10^(decB s).length) (by omega)) ?_
        simp(maxSteps:=1000000)(disch:=(try simp only[awL]);omega)only[hG,awS,↓awU,awY,↓reduceIte,↓reduceDIte,↓Qe,Qu,Qv,Qw,Qx,Qy,Qz,QA,QB,QC,QD,QE,QF,QG,QH,QI,QK]
        refine Ab.of (Ed (if true=true then -(AB L:Int) else (AB L:Int)) ((10^(decB s).length:Nat):Int) hd0 (by simp only[sz];split<;>simp<;>omega) (by simp only[sz,AfW];omega)) (by rfl) ?_
        rw[←hdv]
        simp(maxSteps:=1000000)(disch:=(try simp only[awL]);omega)only[hG,awS,↓awU,awY,↓reduceIte,↓reduceDIte,↓Qe,Qu,Qv,Qw,Qx,Qy,Qz,QA,QB,QC,QD,QE,QF,QG,QH,QI,QK]
        first | done | rfl
   ·rw[dp,AgC,Agl] at hok
    simp(maxSteps:=1000000)(disch:=(try simp only[awL]);omega)only[awS,↓awU,awY,↓reduceIte,↓reduceDIte,↓Qe,Qu,Qv,Qw,Qx,Qy,Qz,QA,QB,QC,QD,QE,QF,QG,QH,QI,QK]
    refine Ab.pure (ER (decB s) 9 (by omega)) ?_
    cases d2:digB (decB s) 9
    ·rw[hok,d2]
     simp(maxSteps:=1000000)(disch:=(try simp only[awL]);omega)only[awS,↓awU,awY,↓reduceIte,↓reduceDIte,↓Qe,Qu,Qv,Qw,Qx,Qy,Qz,QA,QB,QC,QD,QE,QF,QG,QH,QI,QK]
     first | done | rfl
    ·rw[d2] at hok
     obtain ⟨hall,hlen,hlb⟩:=EU hok
     have hsm:∀ i,i≤(decF s++decB s).length→(toW (AB ((decF s++decB s).take i))).length≤30:=fun i hi=>by
      have h:=Dj (l:=(decF s++decB s).take i) fun b hb=>hall b (Ae1 hb)
      exact BQ (AdU h (Ae2 (by decide) (by rw[Ad0];omega)))
     have hlt:∀ i,i≤(decF s++decB s).length→AB ((decF s++decB s).take i)*10<10^30:=fun i hi=>by
      have h:=Dj (l:=(decF s++decB s).take i) fun b hb=>hall b (Ae1 hb)
      have h2:10^((decF s++decB s).take i).length≤10^29:=Ae2 (by decide) (by rw[Ad0];omega)
      have h3:(10:Nat)^30=10^29*10:=rfl
      omega
     rw[if_pos hok,hok]
     generalize hL:decF s++decB s=L at *
     simp(maxSteps:=1000000)(disch:=(try simp only[awL]);omega)only[hG,awS,↓awU,awY,↓reduceIte,↓reduceDIte,↓Qe,Qu,Qv,Qw,Qx,Qy,Qz,QA,QB,QC,QD,QE,QF,QG,QH,QI,QK]
     refine Ab.of (EB [1] (by decide)) (by rfl) ?_
     simp(maxSteps:=1000000)(disch:=(try simp only[awL]);omega)only[hG,awS,hL,cells_nums,↓awU,awY,↓reduceIte,↓reduceDIte,↓Qe,Qu,Qv,Qw,Qx,Qy,Qz,QA,QB,QC,QD,QE,QF,QG,QH,QI,QK]
     refine Au.fr 422212465069220 (α:=Nat) (fun i=>L.length-i) (fun i=>[(9,.d (W (toW (AB (L.take i))))),(49,.d (.int .i64 i))])
      (fun _=>[.box [.d (.bool false),.d (.sl 0 true []),.d (.bool false),.d (.sl 0 true [])],.row true (AK .u32 [10]),.row false (Ax .u8 (Bs L))]) (fun i=>i≤L.length) 0 (Ae3 _) ?_ ?_
     ·exact ⟨[some 0,some 1,some 2],rfl,by simp,by simp[sA,kA,SW,AW,AB,Bq,AK],by simp[HW,BW,SW,AW,AK]⟩
     ·intro i hi
      have lt:=hsm i hi
      have nl:=@BJ L
      simp only[awK,AdY,AdZ,reduceIte]
      rcases AdX i L.length with h1 | h1
      ·have hb:=dig_range (hall _ (mem_getDU (d:=0) h1))
       have hp:=EV h1
       have ls:=BQ (n:=(L.getD i 0).toNat-48) (k:=2) (by omega)
       have e48:((L.getD i 0).toNat:Int)-48=(((L.getD i 0).toNat-48:Nat):Int):=by omega
       have lm:(toW (AB (L.take i)*10)).length≤40:=BQ (AdU (hlt i hi) (by decide))
       simp(maxSteps:=1000000)(disch:=(try simp only[awL]);omega)only[hG,awS,nl,↓awU,awY,↓reduceIte,↓reduceDIte,↓Qe,Qu,Qv,Qw,Qx,Qy,Qz,QA,QB,QC,QD,QE,QF,QG,QH,QI,QK]
       refine Ab.frozenE (CJ (AB (L.take i)) 10 (by omega) (by rw[CV];decide)) (by rw[CV];rfl) ?_
       simp(maxSteps:=1000000)(disch:=(try simp only[awL]);omega)only[hG,awS,nl,e48,↓awU,awY,↓reduceIte,↓reduceDIte,↓Qe,Qu,Qv,Qw,Qx,Qy,Qz,QA,QB,QC,QD,QE,QF,QG,QH,QI,QK]
       refine Ab.pure (Ee ((L.getD i 0).toNat-48) (by omega)) ?_
       simp(maxSteps:=1000000)(disch:=(try simp only[awL]);omega)only[hG,awS,nl,↓awU,awY,↓reduceIte,↓reduceDIte,↓Qe,Qu,Qv,Qw,Qx,Qy,Qz,QA,QB,QC,QD,QE,QF,QG,QH,QI,QK]
       refine Ab.pure (G0 (AB (L.take i)*10) ((L.getD i 0).toNat-48) (by omega) (by omega)) ?_
       rw[hp]
       simp(maxSteps:=1000000)(disch:=(try simp only[awL]);omega)only[hG,awS,nl,↓awU,awY,↓reduceIte,↓reduceDIte,↓Qe,Qu,Qv,Qw,Qx,Qy,Qz,QA,QB,QC,QD,QE,QF,QG,QH,QI,QK]
       exact ⟨i+1,h1,by simp only;omega,⟨[some 0,some 1,some 2],rfl,by simp,by simp[sA,kA,SW,AW],by simp[HW,BW,SW,AW]⟩⟩
      ·obtain rfl:i=L.length:=by omega
       rw[Afv] at *
       simp(maxSteps:=1000000)(disch:=(try simp only[awL]);omega)only[hG,awS,nl,↓awU,awY,↓reduceIte,↓reduceDIte,↓Qe,Qu,Qv,Qw,Qx,Qy,Qz,QA,QB,QC,QD,QE,QF,QG,QH,QI,QK]
       refine Au.fr 9223372036854777380 (α:=Nat) (fun j=>(decB s).length-j) (fun j=>[(11,.d (W (toW (10^j)))),(64,.d (.int .i64 j))])
        (fun _=>[.box [.d (.bool false),.d (.sl 0 true []),.d (.bool false),.d (.sl 0 true [])],.row true (AK .u32 [10]),.row false (Ax .u8 (Bs L))]) (fun j=>j≤(decB s).length) 0 (Ae3 _) ?_ ?_
       ·exact ⟨[some 0,some 1,some 2],rfl,by simp,by simp[sA,kA,SW,AW,Kz],by simp[HW,BW,SW,AW,AK]⟩
       ·intro j hj
        have lj:(toW (10^j)).length≤10:=BQ (AfS (by decide) (by omega))
        simp only[awK,AdY,AdZ,reduceIte]
        rcases AdX j (decB s).length with h2 | h2
        ·simp(maxSteps:=1000000)(disch:=(try simp only[awL]);omega)only[hG,awS,↓awU,awY,↓reduceIte,↓reduceDIte,↓Qe,Qu,Qv,Qw,Qx,Qy,Qz,QA,QB,QC,QD,QE,QF,QG,QH,QI,QK]
         refine Ab.frozenE (CJ (10^j) 10 (by omega) (by rw[CV];decide)) (by rw[CV];rfl) ?_
         rw[←Af6]
         simp(maxSteps:=1000000)(disch:=(try simp only[awL]);omega)only[hG,awS,↓awU,awY,↓reduceIte,↓reduceDIte,↓Qe,Qu,Qv,Qw,Qx,Qy,Qz,QA,QB,QC,QD,QE,QF,QG,QH,QI,QK]
         exact ⟨j+1,h2,by simp only;omega,⟨[some 0,some 1,some 2],rfl,by simp,by simp[sA,kA,SW,AW],by simp[HW,BW,SW,AW]⟩⟩
        ·obtain rfl:j=(decB s).length:=by omega
         have hd0:((10^(decB s).length:Nat):Int)≠0:=by
          have:0<10^(decB s).length:=Agj (by decide)
          omega
         simp(maxSteps:=1000000)(disch:=(try simp only[awL]);omega)only[hG,awS,↓awU,awY,↓reduceIte,↓reduceDIte,↓Qe,Qu,Qv,Qw,Qx,Qy,Qz,QA,QB,QC,QD,QE,QF,QG,QH,QI,QK]
         refine Ab.pure (B0 true (AB L) (by omega)) ?_
         simp(maxSteps:=1000000)(disch:=(try simp only[awL]);omega)only[hG,awS,↓awU,awY,↓reduceIte,↓reduceDIte,↓Qe,Qu,Qv,Qw,Qx,Qy,Qz,QA,QB,QC,QD,QE,QF,QG,QH,QI,QK]
         refine Ab.pure (B0 false (10^(decB s).length) (by omega)) ?_
         simp(maxSteps:=1000000)(disch:=(try simp only[awL]);omega)only[hG,awS,↓awU,awY,↓reduceIte,↓reduceDIte,↓Qe,Qu,Qv,Qw,Qx,Qy,Qz,QA,QB,QC,QD,QE,QF,QG,QH,QI,QK]
         refine Ab.of (Ed (if true=true then -(AB L:Int) else (AB L:Int)) ((10^(decB s).length:Nat):Int) hd0 (by simp only[sz];split<;>simp<;>omega) (by simp only[sz,AfW];omega)) (by rfl) ?_
         rw[←hdv]
         simp(maxSteps:=1000000)(disch:=(try simp only[awL]);omega)only[hG,awS,↓awU,awY,↓reduceIte,↓reduceDIte,↓Qe,Qu,Qv,Qw,Qx,Qy,Qz,QA,QB,QC,QD,QE,QF,QG,QH,QI,QK]
         first | done | rfl
def isD (c:UInt8):Prop:=48≤c.toNat∧c.toNat≤57
theorem T1 {c:UInt8}:GG.contains c=true↔isD c:=by
 constructor
 ·exact dig_range
 ·intro h
  have hc:c=UInt8.ofNat c.toNat:=by simp
  rw[hc]
  obtain ⟨h1,h2⟩:=h
  generalize c.toNat=n at *
  rcases (by omega:n=48∨n=49∨n=50∨n=51∨n=52∨n=53∨n=54∨n=55∨n=56∨n=57) with rfl | rfl | rfl | rfl | rfl | rfl | rfl | rfl | rfl | rfl<;>rfl
theorem digB_iff {l:List UInt8} {m:Int}:digB l m=true↔1≤l.length∧(l.length:Int)≤m∧∀ c∈l,isD c:=by
 unfold digB
 rw[Af2,decide_eq_true_eq,AfT,and_assoc]
 constructor
 ·rintro ⟨h1,h2,h3⟩;exact ⟨h1,h2,fun c hc=>T1.1 (h3 c hc)⟩
 ·rintro ⟨h1,h2,h3⟩;exact ⟨h1,h2,fun c hc=>T1.2 (h3 c hc)⟩
theorem Sm {c:UInt8} (h:isD c):c≠46:=fun e=>by subst e;obtain ⟨h1,_⟩:=h;exact absurd h1 (by decide)
theorem cut_all:∀ {b:List UInt8},(∀ d∈b,isD d)→(46:UInt8)∉b∧cutL 46 b=b∧cutR 46 b=[]
 | b,h=>by
   have hm:(46:UInt8)∉b:=fun hm=>Sm (h _ hm) rfl
   exact ⟨hm,((cut_index 46 b).2 hm).2⟩
end Go.Proofs.YtmidaophnbdcdaaGreatDoor.Num
namespace Go.Proofs.YtmidaophnbdcdaaGreatDoor
open Go Go.Proofs Go.Abs
variable {G:Ad}
end Go.Proofs.YtmidaophnbdcdaaGreatDoor
namespace Go.Proofs.YtmidaophnbdcdaaGreatDoor
open Go Go.Proofs Go.Abs
end Go.Proofs.YtmidaophnbdcdaaGreatDoor
namespace Go.Proofs.YtmidaophnbdcdaaGreatDoor
open Go Go.Proofs Go.Abs
variable {G:Ad}
end Go.Proofs.YtmidaophnbdcdaaGreatDoor
namespace Go.Proofs.YtmidaophnbdcdaaGreatDoor
open Go Go.Proofs Go.Abs
end Go.Proofs.YtmidaophnbdcdaaGreatDoor
namespace Go.Proofs.YtmidaophnbdcdaaGreatDoor
open Go Go.Proofs Go.Abs
variable {G:Ad}
def cmpI (x y:Int):Int:=if x<y then -1 else if y<x then 1 else 0
theorem LR (x:Int):Ctr TP G 246 [.d (.int .i64 x)] [] (.d (.bool false)) []:=by
 refine Ctr.pure (M:=M0) Am Tryz.func246 rfl ZT ?_
 simp(maxSteps:=1000000)(disch:=(try simp only[awL]);omega)only[awS,Tryz.f246,↓awU,awY,↓reduceIte,↓reduceDIte,↓Qe,Qu,Qv,Qw,Qx,Qy,Qz,QA,QB,QC,QD,QE,QF,QG,QH,QI,QK]
 try rfl
theorem compare_spec (x y:Int):Ctr TP G 221 [.d (.int .i64 x),.d (.int .i64 y)] [] (.d (.int .i64 (cmpI x y))) []:=by
 refine Ctr.pure (M:=M0) Am Tryz.func221 rfl ZU ?_
 obtain ⟨r,hr⟩:∃ r,r=cmpI x y:=⟨_,rfl⟩
 rw[←hr]
 unfold cmpI at hr
 simp(maxSteps:=1000000)(disch:=(try simp only[awL]);omega)only[awS,Tryz.f221,↓awU,awY,↓reduceIte,↓reduceDIte,↓Qe,Qu,Qv,Qw,Qx,Qy,Qz,QA,QB,QC,QD,QE,QF,QG,QH,QI,QK]
 refine Ab.pure (LR x) ?_
 simp(maxSteps:=1000000)(disch:=(try simp only[awL]);omega)only[awS,↓awU,awY,↓reduceIte,↓reduceDIte,↓Qe,Qu,Qv,Qw,Qx,Qy,Qz,QA,QB,QC,QD,QE,QF,QG,QH,QI,QK]
 refine Ab.pure (LR y) ?_
 rcases (by omega:x<y∨y<x∨(¬x<y∧¬y<x)) with h | h | ⟨h1,h2⟩
 ·rw[if_pos h] at hr
  simp(maxSteps:=1000000)(disch:=(try simp only[awL]);omega)only[awS,↓awU,awY,↓reduceIte,↓reduceDIte,↓Qe,Qu,Qv,Qw,Qx,Qy,Qz,QA,QB,QC,QD,QE,QF,QG,QH,QI,QK]
  all_goals rw[hr]
 ·rw[if_neg (by omega),if_pos h] at hr
  simp(maxSteps:=1000000)(disch:=(try simp only[awL]);omega)only[awS,↓awU,awY,↓reduceIte,↓reduceDIte,↓Qe,Qu,Qv,Qw,Qx,Qy,Qz,QA,QB,QC,QD,QE,QF,QG,QH,QI,QK]
  all_goals rw[hr]
 ·rw[if_neg h1,if_neg h2] at hr
  simp(maxSteps:=1000000)(disch:=(try simp only[awL]);omega)only[awS,↓awU,awY,↓reduceIte,↓reduceDIte,↓Qe,Qu,Qv,Qw,Qx,Qy,Qz,QA,QB,QC,QD,QE,QF,QG,QH,QI,QK]
  all_goals rw[hr]
structure Opt where
 txt:List UInt8
 fr:Nat
 ag:Nat
 wd:Nat
def cols (c:List Opt):List (D × D):=c.map fun o=>(S o.txt,.int .i64 o.wd)
theorem AaZ {a b:List UInt8}:(bs a == bs b)=decide (a=b):=by
 have e:(bs a == bs b)=(a.toArray == b.toArray):=rfl
 rw[e]
 by_cases h:a=b
 ·subst h;simp
 ·rw[decide_eq_false h]
  exact beq_eq_false_iff_ne.2 fun q=>h (by simpa using q)
end Go.Proofs.YtmidaophnbdcdaaGreatDoor
namespace Go.Proofs.YtmidaophnbdcdaaGreatDoor
open Go Go.Proofs Go.Abs
end Go.Proofs.YtmidaophnbdcdaaGreatDoor
namespace Go.Proofs.YtmidaophnbdcdaaGreatDoor
open Go Go.Proofs Go.Abs
variable {G:Ad}
theorem strs_app (a b:Row):strs a++strs b=strs (a++b):=by simp[strs]
abbrev Cel:=List UInt8 × Bool
abbrev Gd (c:Cel):List D:=[.bool c.2,S c.1]
def Bx (l:List Cel):List D:=l.flatMap Gd
abbrev RS (l:List Cel) (full:Bool):D:=.sl l.length full (Bx l)
structure Col where
 name:List UInt8
 cells:List Cel
abbrev XF (c:Col):List D:=[S c.name,RS c.cells false]
def BG (l:List Col):List D:=l.flatMap XF
abbrev Kw (l:List Col) (full:Bool):D:=.sl l.length full (BG l)
structure Tab where
 id:Int
 name:List UInt8
 cols:List Col
abbrev RG (t:Tab) (full:Bool):D:=.agg [.int .i64 t.id,S t.name,Kw t.cols full]
def noC:Cel:=([],false)
def LF:Col:=⟨[],[]⟩
theorem Bv:∀ l:List Cel,(Bx l).length=2*l.length
 | []=>rfl
 | o::l=>by
   have ih:=Bv l
   simp only[Bx,Aga,AdV,AdW,AfI] at ih ⊢
   omega
theorem A9:∀ l:List Col,(BG l).length=2*l.length
 | []=>rfl
 | o::l=>by
   have ih:=A9 l
   simp only[BG,Aga,AdV,AdW,AfI] at ih ⊢
   omega
theorem JB:∀ {l:List Cel} {k:Nat},k<l.length→((Bx l).drop (k*2)).take 2=Gd (l.getD k noC)
 | [],k,h=>absurd h (Af4 _)
 | o::l,0,_=>by simp[Bx]
 | o::l,k+1,h=>by
   have ih:=JB (l:=l) (k:=k) (by simpa using h)
   have e2:Bx (o::l)=.bool o.2::S o.1::Bx l:=rfl
   rw[show (k+1)*2=k*2+2 by omega,e2]
   simpa using ih
theorem Fp:∀ {l:List Col} {k:Nat},k<l.length→((BG l).drop (k*2)).take 2=XF (l.getD k LF)
 | [],k,h=>absurd h (Af4 _)
 | o::l,0,_=>by simp[BG]
 | o::l,k+1,h=>by
   have ih:=Fp (l:=l) (k:=k) (by simpa using h)
   have e2:BG (o::l)=S o.name::RS o.cells false::BG l:=rfl
   rw[show (k+1)*2=k*2+2 by omega,e2]
   simpa using ih
theorem Fq (a b:List Cel):Bx (a++b)=Bx a++Bx b:=by simp[Bx]
theorem NN (a b:List Col):BG (a++b)=BG a++BG b:=by simp[BG]
def Dq (s:List UInt8):Bool:=decide (s.length≤1024) && Lib.validD s
def CN (c:Cel):Bool:=Dq c.1 && !(c.2 && !decide (c.1=[]))
theorem Jx (hT:HT G) (s:List UInt8) (hs:s.length≤1000000000):Ctr TP G 122 [.d (S s)] [] (.d (.bool (Dq s))) []:=by
 refine Ctr.pure (M:=M0) Am Tryz.func122 rfl AeS ?_
 unfold Dq
 by_cases h:s.length≤1024
 ·rw[decide_eq_true h,AfO]
  simp(maxSteps:=1000000)(disch:=(try simp only[awL]);omega)only[awS,Tryz.f122,↓awU,awY,↓reduceIte,↓reduceDIte,↓Qe,Qu,Qv,Qw,Qx,Qy,Qz,QA,QB,QC,QD,QE,QF,QG,QH,QI,QK]
  refine Ab.pure (DX hT s (by omega)) ?_
  simp(maxSteps:=1000000)(disch:=(try simp only[awL]);omega)only[awS,↓awU,awY,↓reduceIte,↓reduceDIte,↓Qe,Qu,Qv,Qw,Qx,Qy,Qz,QA,QB,QC,QD,QE,QF,QG,QH,QI,QK]
  first | done | rfl
 ·rw[decide_eq_false h,AfP]
  simp(maxSteps:=1000000)(disch:=(try simp only[awL]);omega)only[awS,Tryz.f122,↓awU,awY,↓reduceIte,↓reduceDIte,↓Qe,Qu,Qv,Qw,Qx,Qy,Qz,QA,QB,QC,QD,QE,QF,QG,QH,QI,QK]
  first | done | rfl
theorem KT (hT:HT G) (c:Cel) (hs:c.1.length≤1000000000):Ctr TP G 127 [.d (.agg (Gd c))] [] (.d (.bool (CN c))) []:=by
 obtain ⟨s,b⟩:=c
 refine Ctr.pure (M:=M0) Am Tryz.func127 rfl AeN ?_
 unfold CN
 simp only at hs ⊢
 simp(maxSteps:=1000000)(disch:=(try simp only[awL]);omega)only[awS,Tryz.f127,↓awU,awY,↓reduceIte,↓reduceDIte,↓Qe,Qu,Qv,Qw,Qx,Qy,Qz,QA,QB,QC,QD,QE,QF,QG,QH,QI,QK]
 refine Ab.pure (Jx hT s hs) ?_
 cases hv:Dq s
 ·rw[AfP]
  simp(maxSteps:=1000000)(disch:=(try simp only[awL]);omega)only[awS,↓awU,awY,↓reduceIte,↓reduceDIte,↓Qe,Qu,Qv,Qw,Qx,Qy,Qz,QA,QB,QC,QD,QE,QF,QG,QH,QI,QK]
  first | done | rfl | exact ⟨by rfl,by rfl⟩
 ·rw[AfO]
  cases b
  ·rw[AfP,Agi]
   simp(maxSteps:=1000000)(disch:=(try simp only[awL]);omega)only[awS,↓awU,awY,↓reduceIte,↓reduceDIte,↓Qe,Qu,Qv,Qw,Qx,Qy,Qz,QA,QB,QC,QD,QE,QF,QG,QH,QI,QK]
   first | done | rfl | exact ⟨by rfl,by rfl⟩
  ·rw[AfO]
   by_cases h:s=[]
   ·subst h
    simp(maxSteps:=1000000)(disch:=(try simp only[awL]);omega)only[awS,↓awU,awY,↓reduceIte,↓reduceDIte,↓Qe,Qu,Qv,Qw,Qx,Qy,Qz,QA,QB,QC,QD,QE,QF,QG,QH,QI,QK]
    first | done | rfl | exact ⟨by rfl,by rfl⟩
   ·simp(maxSteps:=1000000)(disch:=(try simp only[awL]);omega)only[awS,h,↓awU,awY,↓reduceIte,↓reduceDIte,↓Qe,Qu,Qv,Qw,Qx,Qy,Qz,QA,QB,QC,QD,QE,QF,QG,QH,QI,QK]
    first | done | rfl | simp[h] | exact ⟨by rfl,by simp[h]⟩
def Dm (t:Tab):Nat:=match t.cols with | []=>0 | c::_=>c.cells.length
theorem M2 (t:Tab) (full:Bool) (hc:t.cols.length≤1000000000) (h2:∀ c∈t.cols,c.cells.length≤1000000000):Ctr TP G 123 [.d (RG t full)] [] (.d (.int .i64 (Dm t))) []:=by
 obtain ⟨id,name,cols⟩:=t
 simp only at hc h2
 refine Ctr.pure (M:=M0) Am Tryz.func123 rfl AeR ?_
 rcases cols with _ | ⟨c,r⟩
 ·simp(maxSteps:=1000000)(disch:=(try simp only[awL]);omega)only[awS,Tryz.f123,AfI,↓awU,awY,↓reduceIte,↓reduceDIte,↓Qe,Qu,Qv,Qw,Qx,Qy,Qz,QA,QB,QC,QD,QE,QF,QG,QH,QI,QK]
  first | done | rfl | exact ⟨by rfl,by rfl⟩
 ·have cl:=A9 (c::r)
  have e1:(BG (c::r)).getD 1 .nilp=RS c.cells false:=rfl
  have hcl:=Bv c.cells
  have h3:=h2 c (by simp)
  have ll:(c::r).length=r.length+1:=rfl
  simp(maxSteps:=1000000)(disch:=(try simp only[awL]);omega)only[awS,Tryz.f123,e1,cl,ll,↓awU,awY,↓reduceIte,↓reduceDIte,↓Qe,Qu,Qv,Qw,Qx,Qy,Qz,QA,QB,QC,QD,QE,QF,QG,QH,QI,QK]
  first | done | rfl | exact ⟨by rfl,by rfl⟩
def PS (id:Int) (name:List UInt8):Bool:=decide (0≤id∧id≤1073741824) && Dq name
inductive Nd where
 | mk (kind:Int) (text:List UInt8) (keys:List (List UInt8)) (kids:List Nd)
def Nd.kind:Nd→Int | .mk k _ _ _=>k
def Nd.text:Nd→List UInt8 | .mk _ t _ _=>t
def Nd.keys:Nd→List (List UInt8) | .mk _ _ ks _=>ks
def Nd.kids:Nd→List Nd | .mk _ _ _ l=>l
mutual
def ndC:Nd→List D
 | .mk k t ks kids=>[.int .i64 k,S t,Ss ks false,.sl kids.length false (AY kids)]
def AY:List Nd→List D
 | []=>[]
 | n::r=>ndC n++AY r
end
abbrev NdD (n:Nd):D:=.agg (ndC n)
abbrev NdS (l:List Nd) (full:Bool):D:=.sl l.length full (AY l)
def noN:Nd:=.mk 0 [] [] []
theorem AaP (n:Nd):ndC n=[.int .i64 n.kind,S n.text,Ss n.keys false,NdS n.kids false]:=by cases n;rfl
theorem FG (n:Nd):(ndC n).length=4:=by cases n;rfl
theorem Fk (n:Nd) (r:List Nd):AY (n::r)=ndC n++AY r:=rfl
theorem BK:∀ l:List Nd,(AY l).length=4*l.length
 | []=>rfl
 | o::l=>by
   have ih:=BK l
   rw[Fk,AdV,FG,ih,AdW]
   omega
theorem Gv:∀ a b:List Nd,AY (a++b)=AY a++AY b
 | [],b=>rfl
 | o::l,b=>by rw[Agd,Fk,Gv,Fk,Ags]
theorem Et:∀ {l:List Nd} {k:Nat},k<l.length→((AY l).drop (k*4)).take 4=ndC (l.getD k noN)
 | [],k,h=>absurd h (Af4 _)
 | o::l,0,_=>by
   have:=FG o
   simp[Fk,Agw,this]
   try rw[←this,Afv]
 | o::l,k+1,h=>by
   have ih:=Et (l:=l) (k:=k) (by simpa using h)
   have e:=FG o
   rw[Fk,Agx,e,Age (by omega),AfQ,show (k+1)*4-4=k*4 by omega,ih]
   simp
theorem OC (n:Nd):(ndC n).map unf0=ndC n:=by cases n;rfl
theorem Kj (f:FuncId) (p:Nd→Bool) (l:List Nd) (full:Bool) (hl:l.length≤1000000000) (hp:∀ s∈l,Ctr TP G f [.d (NdD s)] [] (.d (.bool (p s))) []) :
  Ctr TP G 54 [.d (NdS l full),.d (.fn (.func f) [] [])] [] (.d (.int .i64 (ixF p l 0))) []:=by
 refine Ctr.pure (M:=M0) Am Tryz.func54 rfl go54 ?_
 have sl:=BK l
 simp(maxSteps:=1000000)(disch:=(try simp only[awL]);omega)only[sl,Tryz.f54,↓awU,awY,↓reduceIte,↓reduceDIte,↓Qe,Qu,Qv,Qw,Qx,Qy,Qz,QA,QB,QC,QD,QE,QF,QG,QH,QI,QK]
 refine Au.fr 131 (α:=Nat) (fun i=>l.length-i) (fun i=>[(8,.d (.int .i64 i))]) (fun _=>[]) (fun i=>i≤l.length∧ixF p l 0=ixF p (l.drop i) i) 0 ⟨Ae3 _,rfl⟩ ?_ ?_
 ·exact ⟨[],rfl,by simp,by simp[sA,kA,SW,AW],by simp[HW,BW,SW,AW]⟩
 ·rintro i ⟨h1,h2⟩
  simp only[awK,AdY,AdZ,reduceIte]
  rw[h2]
  rcases AdX i l.length with h | h
  ·have g:=Et h
   rw[LO (d:=noN) h]
   simp(maxSteps:=1000000)(disch:=(try simp only[awL]);omega)only[sl,g,OC,↓awU,awY,↓reduceIte,↓reduceDIte,↓Qe,Qu,Qv,Qw,Qx,Qy,Qz,QA,QB,QC,QD,QE,QF,QG,QH,QI,QK]
   refine Ab.pure (hp _ (EF h)) ?_
   cases hx:p (l.getD i noN)
   ·simp(maxSteps:=1000000)(disch:=(try simp only[awL]);omega)only[↓awU,awY,↓reduceIte,↓reduceDIte,↓Qe,Qu,Qv,Qw,Qx,Qy,Qz,QA,QB,QC,QD,QE,QF,QG,QH,QI,QK]
    exact ⟨i+1,⟨h,rfl⟩,by simp only;omega,⟨[],rfl,by simp,by simp[sA,kA,SW,AW],by simp[HW,BW,SW,AW]⟩⟩
   ·simp(maxSteps:=1000000)(disch:=(try simp only[awL]);omega)only[↓awU,awY,↓reduceIte,↓reduceDIte,↓Qe,Qu,Qv,Qw,Qx,Qy,Qz,QA,QB,QC,QD,QE,QF,QG,QH,QI,QK]
  ·rw[Afw h]
   simp(maxSteps:=1000000)(disch:=(try simp only[awL]);omega)only[↓awU,awY,↓reduceIte,↓reduceDIte,↓Qe,Qu,Qv,Qw,Qx,Qy,Qz,QA,QB,QC,QD,QE,QF,QG,QH,QI,QK]
   rfl
theorem EA (f:FuncId) (p:Nd→Bool) (l:List Nd) (full:Bool) (hl:l.length≤1000000000) (hp:∀ s∈l,Ctr TP G f [.d (NdD s)] [] (.d (.bool (p s))) []) :
  Ctr TP G 28 [.d (NdS l full),.d (.fn (.func f) [] [])] [] (.d (.bool (l.any p))) []:=by
 refine Ctr.pure (M:=M0) Am Tryz.func28 rfl go28 ?_
 simp(maxSteps:=1000000)(disch:=(try simp only[awL]);omega)only[Tryz.f28,↓awU,awY,↓reduceIte,↓reduceDIte,↓Qe,Qu,Qv,Qw,Qx,Qy,Qz,QA,QB,QC,QD,QE,QF,QG,QH,QI,QK]
 refine Ab.of (Kj f p l false hl hp) (by rfl) ?_
 have hi:=G6 (p:=p) l 0 (AgD _)
 generalize ixF p l 0=z at *
 rcases (by omega:0≤z∨z<0) with h | h
 ·rw[hi.1 h]
  simp(maxSteps:=1000000)(disch:=(try simp only[awL]);omega)only[↓awU,awY,↓reduceIte,↓reduceDIte,↓Qe,Qu,Qv,Qw,Qx,Qy,Qz,QA,QB,QC,QD,QE,QF,QG,QH,QI,QK]
 ·have:l.any p=false:=by cases hx:l.any p with
   | false=>rfl
   | true=>have:=hi.2 hx;omega
  rw[this]
  simp(maxSteps:=1000000)(disch:=(try simp only[awL]);omega)only[↓awU,awY,↓reduceIte,↓reduceDIte,↓Qe,Qu,Qv,Qw,Qx,Qy,Qz,QA,QB,QC,QD,QE,QF,QG,QH,QI,QK]
def Es (n:Nd):Bool:=decide (¬n.kind=6)
theorem LQ (n:Nd):Ctr TP G 29 [.d (NdD n)] [] (.d (.bool (Es n))) []:=by
 refine Ctr.pure (M:=M0) Am Tryz.func29 rfl go29 ?_
 obtain ⟨k,t,ks,l⟩:=n
 unfold Es Nd.kind
 simp(maxSteps:=1000000)(disch:=(try simp only[awL]);omega)only[ndC,Tryz.f29,↓awU,awY,↓reduceIte,↓reduceDIte,↓Qe,Qu,Qv,Qw,Qx,Qy,Qz,QA,QB,QC,QD,QE,QF,QG,QH,QI,QK]
 first | done | rfl
def Bm (n:Nd):Cel:=if n.kind=2∨n.kind=3∨n.kind=4 then (n.text,false) else ([],true)
theorem OT {k:Int} {t:List UInt8} {ks:List (List UInt8)} {l:List Nd} (h:k=2∨k=3∨k=4):Bm (.mk k t ks l)=(t,false):=if_pos h
theorem ZA {k:Int} {t:List UInt8} {ks:List (List UInt8)} {l:List Nd} (h:¬(k=2∨k=3∨k=4)):Bm (.mk k t ks l)=([],true):=if_neg h
theorem Ma (n:Nd):Ctr TP G 98 [.d (NdD n)] [] (.d (.agg (Gd (Bm n)))) []:=by
 obtain ⟨r,hr⟩:∃ r,r=Bm n:=⟨_,rfl⟩
 rw[←hr]
 refine Ctr.pure (M:=M0) Am Tryz.func98 rfl go98 ?_
 obtain ⟨k,t,ks,l⟩:=n
 rcases (by omega:k=2∨(¬k=2∧k=3)∨(¬k=2∧¬k=3∧k=4)∨(¬k=2∧¬k=3∧¬k=4)) with h | h | h | h
 ·subst h
  rw[OT (by omega)] at hr
  subst hr
  simp(maxSteps:=1000000)(disch:=(try simp only[awL]);omega)only[awS,ndC,Tryz.f98,↓awU,awY,↓reduceIte,↓reduceDIte,↓Qe,Qu,Qv,Qw,Qx,Qy,Qz,QA,QB,QC,QD,QE,QF,QG,QH,QI,QK]
  first | done | rfl | simp
 ·obtain ⟨h1,rfl⟩:=h
  rw[OT (by omega)] at hr
  subst hr
  simp(maxSteps:=1000000)(disch:=(try simp only[awL]);omega)only[awS,ndC,Tryz.f98,↓awU,awY,↓reduceIte,↓reduceDIte,↓Qe,Qu,Qv,Qw,Qx,Qy,Qz,QA,QB,QC,QD,QE,QF,QG,QH,QI,QK]
  first | done | rfl | simp
 ·obtain ⟨h1,h2,rfl⟩:=h
  rw[OT (by omega)] at hr
  subst hr
  simp(maxSteps:=1000000)(disch:=(try simp only[awL]);omega)only[awS,ndC,Tryz.f98,↓awU,awY,↓reduceIte,↓reduceDIte,↓Qe,Qu,Qv,Qw,Qx,Qy,Qz,QA,QB,QC,QD,QE,QF,QG,QH,QI,QK]
  first | done | rfl | simp
 ·obtain ⟨h1,h2,h3⟩:=h
  rw[ZA (by omega)] at hr
  subst hr
  simp(maxSteps:=1000000)(disch:=(try simp only[awL]);omega)only[awS,ndC,h1,h2,h3,Tryz.f98,↓awU,awY,↓reduceIte,↓reduceDIte,↓Qe,Qu,Qv,Qw,Qx,Qy,Qz,QA,QB,QC,QD,QE,QF,QG,QH,QI,QK]
  first | done | rfl | simp
abbrev Elm:=Int × Nd
def DJ (e:Elm):List D:=.int .i64 e.1::ndC e.2
def Bl (l:List Elm):List D:=l.flatMap DJ
abbrev ElS (l:List Elm) (full:Bool):D:=.sl l.length full (Bl l)
def noE:Elm:=(0,noN)
theorem GF (n:Elm):(DJ n).length=5:=by simp[DJ,FG]
theorem HR (n:Elm) (r:List Elm):Bl (n::r)=DJ n++Bl r:=rfl
theorem Bu:∀ l:List Elm,(Bl l).length=5*l.length
 | []=>rfl
 | o::l=>by
   have ih:=Bu l
   rw[HR,AdV,GF,ih,AdW]
   omega
theorem U6 (a b:List Elm):Bl (a++b)=Bl a++Bl b:=by simp[Bl]
theorem Jy:∀ {l:List Elm} {k:Nat},k<l.length→((Bl l).drop (k*5)).take 5=DJ (l.getD k noE)
 | [],k,h=>absurd h (Af4 _)
 | o::l,0,_=>by
   have:=GF o
   simp[HR,Agw,this]
   try rw[←this,Afv]
 | o::l,k+1,h=>by
   have ih:=Jy (l:=l) (k:=k) (by simpa using h)
   have e:=GF o
   rw[HR,Agx,e,Age (by omega),AfQ,show (k+1)*5-5=k*5 by omega,ih]
   simp
theorem Xb (n:Elm):(DJ n).map unf0=DJ n:=by
 rw[DJ,Afs,OC];rfl
theorem Kk (f:FuncId) (p:Elm→Bool) (l:List Elm) (full:Bool) (hl:l.length≤1000000000) (hp:∀ s∈l,Ctr TP G f [.d (.agg (DJ s))] [] (.d (.bool (p s))) []) :
  Ctr TP G 96 [.d (ElS l full),.d (.fn (.func f) [] [])] [] (.d (.int .i64 (ixF p l 0))) []:=by
 refine Ctr.pure (M:=M0) Am Tryz.func96 rfl go96 ?_
 have sl:=Bu l
 simp(maxSteps:=1000000)(disch:=(try simp only[awL]);omega)only[sl,Tryz.f96,↓awU,awY,↓reduceIte,↓reduceDIte,↓Qe,Qu,Qv,Qw,Qx,Qy,Qz,QA,QB,QC,QD,QE,QF,QG,QH,QI,QK]
 refine Au.fr 131 (α:=Nat) (fun i=>l.length-i) (fun i=>[(8,.d (.int .i64 i))]) (fun _=>[]) (fun i=>i≤l.length∧ixF p l 0=ixF p (l.drop i) i) 0 ⟨Ae3 _,rfl⟩ ?_ ?_
 ·exact ⟨[],rfl,by simp,by simp[sA,kA,SW,AW],by simp[HW,BW,SW,AW]⟩
 ·rintro i ⟨h1,h2⟩
  simp only[awK,AdY,AdZ,reduceIte]
  rw[h2]
  rcases AdX i l.length with h | h
  ·have g:=Jy h
   rw[LO (d:=noE) h]
   simp(maxSteps:=1000000)(disch:=(try simp only[awL]);omega)only[sl,g,Xb,↓awU,awY,↓reduceIte,↓reduceDIte,↓Qe,Qu,Qv,Qw,Qx,Qy,Qz,QA,QB,QC,QD,QE,QF,QG,QH,QI,QK]
   refine Ab.pure (hp _ (EF h)) ?_
   cases hx:p (l.getD i noE)
   ·simp(maxSteps:=1000000)(disch:=(try simp only[awL]);omega)only[↓awU,awY,↓reduceIte,↓reduceDIte,↓Qe,Qu,Qv,Qw,Qx,Qy,Qz,QA,QB,QC,QD,QE,QF,QG,QH,QI,QK]
    exact ⟨i+1,⟨h,rfl⟩,by simp only;omega,⟨[],rfl,by simp,by simp[sA,kA,SW,AW],by simp[HW,BW,SW,AW]⟩⟩
   ·simp(maxSteps:=1000000)(disch:=(try simp only[awL]);omega)only[↓awU,awY,↓reduceIte,↓reduceDIte,↓Qe,Qu,Qv,Qw,Qx,Qy,Qz,QA,QB,QC,QD,QE,QF,QG,QH,QI,QK]
  ·rw[Afw h]
   simp(maxSteps:=1000000)(disch:=(try simp only[awL]);omega)only[↓awU,awY,↓reduceIte,↓reduceDIte,↓Qe,Qu,Qv,Qw,Qx,Qy,Qz,QA,QB,QC,QD,QE,QF,QG,QH,QI,QK]
   rfl
theorem HZ (f:FuncId) (p:Elm→Bool) (l:List Elm) (full:Bool) (hl:l.length≤1000000000) (hp:∀ s∈l,Ctr TP G f [.d (.agg (DJ s))] [] (.d (.bool (p s))) []) :
  Ctr TP G 57 [.d (ElS l full),.d (.fn (.func f) [] [])] [] (.d (.bool (l.any p))) []:=by
 refine Ctr.pure (M:=M0) Am Tryz.func57 rfl go57 ?_
 simp(maxSteps:=1000000)(disch:=(try simp only[awL]);omega)only[Tryz.f57,↓awU,awY,↓reduceIte,↓reduceDIte,↓Qe,Qu,Qv,Qw,Qx,Qy,Qz,QA,QB,QC,QD,QE,QF,QG,QH,QI,QK]
 refine Ab.of (Kk f p l false hl hp) (by rfl) ?_
 have hi:=G6 (p:=p) l 0 (AgD _)
 generalize ixF p l 0=z at *
 rcases (by omega:0≤z∨z<0) with h | h
 ·rw[hi.1 h]
  simp(maxSteps:=1000000)(disch:=(try simp only[awL]);omega)only[↓awU,awY,↓reduceIte,↓reduceDIte,↓Qe,Qu,Qv,Qw,Qx,Qy,Qz,QA,QB,QC,QD,QE,QF,QG,QH,QI,QK]
 ·have:l.any p=false:=by cases hx:l.any p with
   | false=>rfl
   | true=>have:=hi.2 hx;omega
  rw[this]
  simp(maxSteps:=1000000)(disch:=(try simp only[awL]);omega)only[↓awU,awY,↓reduceIte,↓reduceDIte,↓Qe,Qu,Qv,Qw,Qx,Qy,Qz,QA,QB,QC,QD,QE,QF,QG,QH,QI,QK]
def B2 (e:Elm):Bool:=Es e.2
theorem Q7 (e:Elm):Ctr TP G 58 [.d (.agg (DJ e))] [] (.d (.bool (B2 e))) []:=by
 refine Ctr.pure (M:=M0) Am Tryz.func58 rfl go58 ?_
 obtain ⟨a,k,t,ks,l⟩:=e
 unfold B2 Es Nd.kind
 simp(maxSteps:=1000000)(disch:=(try simp only[awL]);omega)only[DJ,ndC,Tryz.f58,↓awU,awY,↓reduceIte,↓reduceDIte,↓Qe,Qu,Qv,Qw,Qx,Qy,Qz,QA,QB,QC,QD,QE,QF,QG,QH,QI,QK]
 first | done | rfl
end Go.Proofs.YtmidaophnbdcdaaGreatDoor
namespace Go.Proofs.YtmidaophnbdcdaaGreatDoor
open Go Go.Proofs Go.Abs
variable {G:Ad}
def OP (n:Nat):Bool:=decide (n<32∧n≠9∧n≠10∧n≠13)
def Kq (b:UInt8):Bool:=OP b.toNat
def Bb (s:List UInt8):Bool:=decide (s.length≤1024) && (Lib.validD s && !s.any Kq)
def D6 (l:List UInt8) (p:Nat):Int:=if h:p<l.length then if Kq (l.getD p 0)=true then p else D6 l (p+1) else -1
termination_by l.length-p
theorem NK {l:List UInt8} {p:Nat} (h:p<l.length) (c:Kq (l.getD p 0)=true):D6 l p=p:=by rw[D6,dif_pos h,if_pos c]
theorem HX {l:List UInt8} {p:Nat} (h:p<l.length) (c:Kq (l.getD p 0)=false):D6 l p=D6 l (p+1):=by rw[D6,dif_pos h,if_neg (by rw[c];simp)]
theorem NL {l:List UInt8} {p:Nat} (h:¬p<l.length):D6 l p=-1:=by rw[D6,dif_neg h]
theorem Xi {b:UInt8} (h:128≤b.toNat):Kq b=false:=by
 unfold Kq OP
 exact decide_eq_false (by omega)
theorem L9 {l:List UInt8} {p:Nat}:∀ w,p+w≤l.length→(∀ i,i<w→128≤(l.getD (p+i) 0).toNat)→D6 l p=D6 l (p+w)
 | 0,_,_=>rfl
 | w+1,h,h2=>by
   rw[L9 w (by omega) (fun i hi=>h2 i (by omega)),HX (by omega) (Xi (h2 w (by omega)))];rfl
theorem NM:∀ (n:Nat) (l:List UInt8) (p:Nat),l.length-p=n→decide (0≤D6 l p)=(l.drop p).any Kq
 | 0,l,p,hn=>by rw[NL (by omega),Afw (by omega)];rfl
 | n+1,l,p,hn=>by
   have hp:p<l.length:=by omega
   have ed:l.drop p=l.getD p 0::l.drop (p+1):=by rw[Af8 hp,AcB,AdT hp];rfl
   rw[ed,AgA]
   cases h:Kq (l.getD p 0) with
   | true =>
    rw[NK hp h,Agr]
    exact decide_eq_true (by omega)
   | false=>rw[HX hp h,NM n l (p+1) (by omega),Agl]
theorem LX (c:Nat) (hc:c≤2147483647):Ctr TP G 142 [.d (.int .i32 c)] [] (.d (.bool (OP c))) []:=by
 obtain ⟨r,hr⟩:∃ r,r=OP c:=⟨_,rfl⟩
 rw[←hr]
 unfold OP at hr
 refine Ctr.pure (M:=M0) Am Tryz.func142 rfl AeC ?_
 rcases (by omega:32≤c∨c=9∨c=10∨c=13∨(c<32∧c≠9∧c≠10∧c≠13)) with h | h | h | h | ⟨h1,h2,h3,h4⟩
 ·rw[decide_eq_false (by omega)] at hr
  subst hr
  simp(maxSteps:=1000000)(disch:=(try simp only[awL]);omega)only[awS,Tryz.f142,↓awU,awY,↓reduceIte,↓reduceDIte,↓Qe,Qu,Qv,Qw,Qx,Qy,Qz,QA,QB,QC,QD,QE,QF,QG,QH,QI,QK]
 ·subst h
  rw[decide_eq_false (by omega)] at hr
  subst hr
  simp(maxSteps:=1000000)(disch:=(try simp only[awL]);omega)only[awS,Tryz.f142,↓awU,awY,↓reduceIte,↓reduceDIte,↓Qe,Qu,Qv,Qw,Qx,Qy,Qz,QA,QB,QC,QD,QE,QF,QG,QH,QI,QK]
 ·subst h
  rw[decide_eq_false (by omega)] at hr
  subst hr
  simp(maxSteps:=1000000)(disch:=(try simp only[awL]);omega)only[awS,Tryz.f142,↓awU,awY,↓reduceIte,↓reduceDIte,↓Qe,Qu,Qv,Qw,Qx,Qy,Qz,QA,QB,QC,QD,QE,QF,QG,QH,QI,QK]
 ·subst h
  rw[decide_eq_false (by omega)] at hr
  subst hr
  simp(maxSteps:=1000000)(disch:=(try simp only[awL]);omega)only[awS,Tryz.f142,↓awU,awY,↓reduceIte,↓reduceDIte,↓Qe,Qu,Qv,Qw,Qx,Qy,Qz,QA,QB,QC,QD,QE,QF,QG,QH,QI,QK]
 ·rw[decide_eq_true ⟨h1,h2,h3,h4⟩] at hr
  subst hr
  simp(maxSteps:=1000000)(disch:=(try simp only[awL]);omega)only[awS,Tryz.f142,↓awU,awY,↓reduceIte,↓reduceDIte,↓Qe,Qu,Qv,Qw,Qx,Qy,Qz,QA,QB,QC,QD,QE,QF,QG,QH,QI,QK]
theorem Ki (l:List UInt8) (hl:l.length≤1000000000):Ctr TP G 207 [.d (S l),.d (.fn (.func 142) [] []),.d (.bool true)] [] (.d (.int .i64 (D6 l 0))) []:=by
 refine Ctr.pure (M:=M0) Am Tryz.func207 rfl Ad8 ?_
 simp(maxSteps:=1000000)(disch:=(try simp only[awL]);omega)only[awS,Tryz.f207,↓awU,awY,↓reduceIte,↓reduceDIte,↓Qe,Qu,Qv,Qw,Qx,Qy,Qz,QA,QB,QC,QD,QE,QF,QG,QH,QI,QK]
 refine Au.fr 1030 (α:=Nat) (fun p=>l.length-p) (fun _=>[]) (fun p=>[.iter (bs l) p]) (fun p=>p≤l.length∧D6 l 0=D6 l p) 0 ⟨Ae3 _,rfl⟩ ?_ ?_
 ·exact ⟨[some 0],rfl,by simp,by simp[sA,kA,SW,AW],by simp[HW,BW,SW,AW]⟩
 ·rintro p ⟨h1,h2⟩
  simp only[awK,AdY,AdZ,reduceIte]
  rw[h2]
  rcases AdX p l.length with h3 | h3
  ·rcases decw l p h3 with ⟨d1,d2⟩ | ⟨d1,d2,d3,d4⟩
   ·have sp:=LX (G:=G) (l.getD p 0).toNat (by omega)
    simp(maxSteps:=1000000)(disch:=(try simp only[awL]);omega)only[awS,d2,↓awU,awY,↓reduceIte,↓reduceDIte,↓Qe,Qu,Qv,Qw,Qx,Qy,Qz,QA,QB,QC,QD,QE,QF,QG,QH,QI,QK]
    refine Ab.of sp (by rfl) ?_
    cases hc:Kq (l.getD p 0)
    ·rw[show OP (l.getD p 0).toNat=false from hc]
     simp(maxSteps:=1000000)(disch:=(try simp only[awL]);omega)only[awS,↓awU,awY,↓reduceIte,↓reduceDIte,↓Qe,Qu,Qv,Qw,Qx,Qy,Qz,QA,QB,QC,QD,QE,QF,QG,QH,QI,QK]
     exact ⟨p+1,⟨h3,HX h3 hc⟩,by simp only;omega,⟨[some 0],rfl,by simp,by simp[sA,kA,SW,AW],by simp[HW,BW,SW,AW]⟩⟩
    ·rw[show OP (l.getD p 0).toNat=true from hc,NK h3 hc]
     simp(maxSteps:=1000000)(disch:=(try simp only[awL]);omega)only[awS,↓awU,awY,↓reduceIte,↓reduceDIte,↓Qe,Qu,Qv,Qw,Qx,Qy,Qz,QA,QB,QC,QD,QE,QF,QG,QH,QI,QK]
   ·have hb:=ST l p
    have sp:=LX (G:=G) (dec l p).1 hb.2
    simp(maxSteps:=1000000)(disch:=(try simp only[awL]);omega)only[awS,↓awU,awY,↓reduceIte,↓reduceDIte,↓Qe,Qu,Qv,Qw,Qx,Qy,Qz,QA,QB,QC,QD,QE,QF,QG,QH,QI,QK]
    refine Ab.of sp (by rfl) ?_
    rw[show OP (dec l p).1=false from decide_eq_false (by omega)]
    simp(maxSteps:=1000000)(disch:=(try simp only[awL]);omega)only[awS,↓awU,awY,↓reduceIte,↓reduceDIte,↓Qe,Qu,Qv,Qw,Qx,Qy,Qz,QA,QB,QC,QD,QE,QF,QG,QH,QI,QK]
    exact ⟨p+(dec l p).2,⟨d3,L9 _ d3 d4⟩,by simp only;omega,⟨[some 0],rfl,by simp,by simp[sA,kA,SW,AW],by simp[HW,BW,SW,AW]⟩⟩
  ·rw[NL (by omega)]
   simp(maxSteps:=1000000)(disch:=(try simp only[awL]);omega)only[awS,↓awU,awY,↓reduceIte,↓reduceDIte,↓Qe,Qu,Qv,Qw,Qx,Qy,Qz,QA,QB,QC,QD,QE,QF,QG,QH,QI,QK]
theorem HY (l:List UInt8) (hl:l.length≤1000000000):Ctr TP G 141 [.d (S l),.d (.fn (.func 142) [] [])] [] (.d (.bool (l.any Kq))) []:=by
 have i1:Ctr TP G 176 [.d (S l),.d (.fn (.func 142) [] [])] [] (.d (.int .i64 (D6 l 0))) []:=by
  refine Ctr.pure (M:=M0) Am Tryz.func176 rfl Ael ?_
  simp(maxSteps:=1000000)(disch:=(try simp only[awL]);omega)only[awS,Tryz.f176,↓awU,awY,↓reduceIte,↓reduceDIte,↓Qe,Qu,Qv,Qw,Qx,Qy,Qz,QA,QB,QC,QD,QE,QF,QG,QH,QI,QK]
  refine Ab.pure (Ki l hl) ?_
  simp(maxSteps:=1000000)(disch:=(try simp only[awL]);omega)only[awS,↓awU,awY,↓reduceIte,↓reduceDIte,↓Qe,Qu,Qv,Qw,Qx,Qy,Qz,QA,QB,QC,QD,QE,QF,QG,QH,QI,QK]
 have ha:=NM _ l 0 rfl
 rw[Agz] at ha
 refine Ctr.pure (M:=M0) Am Tryz.func141 rfl AeD ?_
 simp(maxSteps:=1000000)(disch:=(try simp only[awL]);omega)only[awS,Tryz.f141,↓awU,awY,↓reduceIte,↓reduceDIte,↓Qe,Qu,Qv,Qw,Qx,Qy,Qz,QA,QB,QC,QD,QE,QF,QG,QH,QI,QK]
 refine Ab.pure i1 ?_
 generalize D6 l 0=z at *
 rcases (by omega:0≤z∨z<0) with h | h
 ·rw[decide_eq_true h] at ha
  rw[←ha]
  simp(maxSteps:=1000000)(disch:=(try simp only[awL]);omega)only[awS,↓awU,awY,↓reduceIte,↓reduceDIte,↓Qe,Qu,Qv,Qw,Qx,Qy,Qz,QA,QB,QC,QD,QE,QF,QG,QH,QI,QK]
 ·rw[decide_eq_false (by omega)] at ha
  rw[←ha]
  simp(maxSteps:=1000000)(disch:=(try simp only[awL]);omega)only[awS,↓awU,awY,↓reduceIte,↓reduceDIte,↓Qe,Qu,Qv,Qw,Qx,Qy,Qz,QA,QB,QC,QD,QE,QF,QG,QH,QI,QK]
theorem LG (hT:HT G) (s:List UInt8) (hs:s.length≤1000000000):Ctr TP G 103 [.d (S s)] [] (.d (.bool (Bb s))) []:=by
 obtain ⟨r,hr⟩:∃ r,r=Bb s:=⟨_,rfl⟩
 rw[←hr]
 unfold Bb at hr
 refine Ctr.pure (M:=M0) Am Tryz.func103 rfl AeZ ?_
 by_cases h:s.length≤1024
 ·rw[decide_eq_true h,AfO] at hr
  simp(maxSteps:=1000000)(disch:=(try simp only[awL]);omega)only[awS,Tryz.f103,↓awU,awY,↓reduceIte,↓reduceDIte,↓Qe,Qu,Qv,Qw,Qx,Qy,Qz,QA,QB,QC,QD,QE,QF,QG,QH,QI,QK]
  refine Ab.pure (DX hT s (by omega)) ?_
  cases hv:Lib.validD s
  ·rw[hv,AfP] at hr
   subst hr
   simp(maxSteps:=1000000)(disch:=(try simp only[awL]);omega)only[awS,↓awU,awY,↓reduceIte,↓reduceDIte,↓Qe,Qu,Qv,Qw,Qx,Qy,Qz,QA,QB,QC,QD,QE,QF,QG,QH,QI,QK]
  ·rw[hv,AfO] at hr
   simp(maxSteps:=1000000)(disch:=(try simp only[awL]);omega)only[awS,↓awU,awY,↓reduceIte,↓reduceDIte,↓Qe,Qu,Qv,Qw,Qx,Qy,Qz,QA,QB,QC,QD,QE,QF,QG,QH,QI,QK]
   refine Ab.of (HY s hs) (by rfl) ?_
   subst hr
   simp(maxSteps:=1000000)(disch:=(try simp only[awL]);omega)only[awS,↓awU,awY,↓reduceIte,↓reduceDIte,↓Qe,Qu,Qv,Qw,Qx,Qy,Qz,QA,QB,QC,QD,QE,QF,QG,QH,QI,QK]
 ·rw[decide_eq_false h,AfP] at hr
  subst hr
  simp(maxSteps:=1000000)(disch:=(try simp only[awL]);omega)only[awS,Tryz.f103,↓awU,awY,↓reduceIte,↓reduceDIte,↓Qe,Qu,Qv,Qw,Qx,Qy,Qz,QA,QB,QC,QD,QE,QF,QG,QH,QI,QK]
theorem Sy (hT:HT G) (s:List UInt8) (hs:s.length≤1000000000):Ctr TP G 106 [.d (S s)] [] (.d (.bool (!Bb s))) []:=by
 refine Ctr.pure (M:=M0) Am Tryz.func106 rfl AeW ?_
 simp(maxSteps:=1000000)(disch:=(try simp only[awL]);omega)only[awS,Tryz.f106,↓awU,awY,↓reduceIte,↓reduceDIte,↓Qe,Qu,Qv,Qw,Qx,Qy,Qz,QA,QB,QC,QD,QE,QF,QG,QH,QI,QK]
 refine Ab.pure (LG hT s hs) ?_
 simp(maxSteps:=1000000)(disch:=(try simp only[awL]);omega)only[awS,↓awU,awY,↓reduceIte,↓reduceDIte,↓Qe,Qu,Qv,Qw,Qx,Qy,Qz,QA,QB,QC,QD,QE,QF,QG,QH,QI,QK]
theorem TZ (a b:List UInt8):Ce (S a) (S b)=decide (a=b):=AaZ
def Fa {β:Type} (m:List (D × β)) (k:D):Option β:=(BE k m).map (·.2)
def GQ {β:Type} (m:List (D × β)):Prop:=∀ e∈m,∃ s,e.1=S s
def Up {β:Type} (k:D) (d:β):List (D × β)→List (D × β)
 | []=>[(k,d)]
 | x::r=>if Ce k x.1=true then (k,d)::r else x::Up k d r
theorem RV {β:Type} (k:D) (d:β):∀ m:List (D × β),BH m k d=Up k d m
 | []=>rfl
 | x::r=>by
   have ih:=RV k d r
   unfold BH at ih ⊢
   rw[BE,Up]
   by_cases h:Ce k x.1=true
   ·rw[if_pos h,if_pos h];rfl
   ·rw[if_neg h,if_neg h]
    cases hf:BE k r with
    | none=>rw[hf] at ih;simp only[Option.map_none];rw[←ih];rfl
    | some y=>rw[hf] at ih;simp only[Agg];rw[←ih];rfl
theorem GQ.nil {β:Type}:GQ ([]:List (D × β)):=fun _ h=>by cases h
theorem GQ.upd {β:Type} {m:List (D × β)} (h:GQ m) (t:List UInt8) (d:β):GQ (BH m (S t) d):=by
 rw[RV]
 induction m with
 | nil=>intro e he;exact ⟨t,by simp[Up] at he;rw[he]⟩
 | cons x r ih =>
  have i2:=ih fun e he=>h e (AfJ _ he)
  intro e he
  rw[Up] at he
  split at he
  ·rcases AfN.1 he with rfl | he
   ·exact ⟨t,rfl⟩
   ·exact h e (AfJ _ he)
  ·rcases AfN.1 he with rfl | he
   ·exact h _ (by simp)
   ·exact i2 e he
theorem GQ.ok {β:Type} {m:List (D × β)} (h:GQ m):Do TP 9 m=true:=by
 unfold Do
 refine AfT.2 fun e he=>?_
 obtain ⟨s,hs⟩:=h e he
 rw[hs]
 unfold isKeyD
 rw[ti9]
 rfl
theorem Ik {β:Type} (k:D):Fa ([]:List (D × β)) k=none:=rfl
theorem E9 {β:Type} (y:D × β) (l:List (D × β)) (s c:List UInt8) (hy:y.1=S c):Fa (y::l) (S s)=if s=c then some y.2 else Fa l (S s):=by
 unfold Fa
 rw[BE,hy,TZ]
 by_cases e:s=c
 ·rw[if_pos e,if_pos (by simpa using e)];rfl
 ·rw[if_neg e,if_neg (by simpa using e)]
  cases BE (S s) l<;>rfl
theorem Ij {β:Type} {m:List (D × β)} (h:GQ m) (d:β) (s t:List UInt8):Fa (BH m (S t) d) (S s)=if s=t then some d else Fa m (S s):=by
 rw[RV]
 induction m with
 | nil=>exact E9 _ _ _ _ rfl
 | cons x r ih =>
  have i2:=ih fun e he=>h e (AfJ _ he)
  obtain ⟨c,hc⟩:=h x (by simp)
  rw[Up,hc,TZ]
  by_cases e:t=c
  ·rw[if_pos (by simpa using e),E9 _ _ _ t rfl,E9 _ _ _ c hc,←e]
   by_cases e2:s=t
   ·rw[if_pos e2,if_pos e2]
   ·rw[if_neg e2,if_neg e2,if_neg e2]
  ·rw[if_neg (by simpa using e),E9 _ _ _ c hc,E9 _ _ _ c hc,i2]
   by_cases e2:s=c
   ·rw[if_pos e2,if_neg (by rw[e2];exact fun q=>e q.symm),if_pos e2]
   ·rw[if_neg e2,if_neg e2]
theorem Jt (z:D) (m:List (D × D)) (k:D):C4 z m k false=(Fa m k).getD z:=by
 unfold C4 Fa
 cases BE k m<;>rfl
theorem CP (z:D) (m:List (D × D)) (k:D):C4 z m k true=match Fa m k with
  | some d=>.tup [d,.bool true]
  | none=>.tup [z,.bool false]:=by
 unfold C4 Fa
 cases BE k m<;>rfl
theorem DI (z:D) (m:List (D × AV)) (k:D):FI z m k false=match Fa m k with
  | some v=>v
  | none=>.d z:=by
 unfold FI Fa
 cases BE k m<;>rfl
inductive Pt where
 | c (p:List UInt8) (x:Cel)
 | l (p:List UInt8) (kids:List Nd)
mutual
def Bi:Nd→List UInt8→List Pt
 | .mk _ _ ks kids,front=>D2 kids front ks
def D2:List Nd→List UInt8→List (List UInt8)→List Pt
 | [],_,_=>[]
 | n::r,front,ks=>(if n.kind=6 then Bi n (front++ks.headD []++[46]) else if n.kind=5 then [.l (front++ks.headD []) n.kids] else [.c (front++ks.headD []) (Bm n)])++D2 r front ks.tail
end
theorem Df (n:Nd) (r:List Nd) (front:List UInt8) (ks:List (List UInt8)):D2 (n::r) front ks =
  (if n.kind=6 then Bi n (front++ks.headD []++[46]) else if n.kind=5 then [.l (front++ks.headD []) n.kids] else [.c (front++ks.headD []) (Bm n)])++D2 r front ks.tail:=rfl
structure Ly where
 further:Bool
 above:List Int
 paths:List (List UInt8)
 rows:List (List UInt8→Option Cel)
 lists:List (List UInt8)
 sv:List UInt8→Nat
 it:List UInt8→List Elm
def Ib (r:List UInt8→Option Cel) (p:List UInt8) (x:Cel):List UInt8→Option Cel:=fun q=>if q=p then some ((r p).getD x) else r q
def Cg {β:Type} (f:List UInt8→β) (p:List UInt8) (v:β):List UInt8→β:=fun q=>if q=p then v else f q
theorem B8 {β:Type} (f:List UInt8→β) (p:List UInt8) (v:β):Cg f p v p=v:=by simp[Cg]
theorem BN {β:Type} (f:List UInt8→β) {p q:List UInt8} (v:β) (h:¬q=p):Cg f p v q=f q:=by simp[Cg,h]
def Ly.single (s:Ly) (p:List UInt8) (x:Cel):Ly :=
 {s with paths:=if p∈s.paths then s.paths else s.paths++[p],rows:=s.rows.modify (s.rows.length-1) fun r=>Ib r p x}
def Ly.list (s:Ly) (p:List UInt8) (kids:List Nd):Ly :=
 if s.sv p=s.rows.length then s else
  {s with lists:=if s.sv p=0 then s.lists++[p] else s.lists,sv:=Cg s.sv p s.rows.length,it:=Cg s.it p (s.it p++kids.map fun k=>((s.rows.length:Int)-1,k))}
def Ly.part (s:Ly):Pt→Ly
 | .c p x=>s.single p x
 | .l p kids=>s.list p kids
def Ly.parts (s:Ly) (l:List Pt):Ly:=l.foldl Ly.part s
theorem Ly.parts_app (s:Ly) (a b:List Pt):s.parts (a++b)=(s.parts a).parts b:=by simp[Ly.parts]
theorem Ly.parts_one (s:Ly) (a:Pt):s.parts [a]=s.part a:=rfl
def ly0 (further:Bool):Ly:=⟨further,[],[],[],[],fun _=>0,fun _=>[]⟩
def Ly.row (s:Ly) (above:Int):Ly:={s with above:=s.above++[above],rows:=s.rows++[fun _=>none]}
def DA:List UInt8:=[118,97,108,117,101]
def Ly.elm (recs:Bool) (s:Ly) (e:Elm):Ly:=(s.row e.1).parts (if recs=true then Bi e.2 [] else [.c DA (Bm e.2)])
def Ai (further:Bool) (l:List Elm):Ly:=l.foldl (Ly.elm (!l.any B2)) (ly0 further)
theorem Ly.single_rows (s:Ly) (p:List UInt8) (x:Cel):(s.single p x).rows.length=s.rows.length:=by simp[Ly.single]
theorem Ly.list_rows (s:Ly) (p:List UInt8) (k:List Nd):(s.list p k).rows=s.rows:=by unfold Ly.list;split<;>rfl
theorem Ly.part_rows (s:Ly) (q:Pt):(s.part q).rows.length=s.rows.length:=by
 cases q with
 | c p x=>exact s.single_rows p x
 | l p k=>exact congrArg _ (s.list_rows p k)
theorem Ly.parts_rows (s:Ly):∀ l:List Pt,(s.parts l).rows.length=s.rows.length
 | []=>rfl
 | q::r=>(Ly.parts_rows (s.part q) r).trans (s.part_rows q)
inductive Rl where
 | n (k:Nat)
 | i (p:List UInt8)
def Bj (s:Ly):Rl→Prop
 | .n k=>k<8+s.rows.length
 | .i p=>¬s.it p=[]
def IC (L:Rl→Nat) (n:Nat):Aa:=if n=0 then .row false [] else .box ((Af0 n).map fun i=>.mp (L (.n (8+i))))
structure Bz (L:Rl→Nat) (s:Ly) (H:List Aa):Prop where
 inj:∀ a b,Bj s a→Bj s b→L a=L b→a=b
 lt:∀ a,Bj s a→L a<H.length
 box:H[L (.n 0)]?=some (.box [.d (.bool s.further),.lsl (L (.n 2)) 1 0 s.above.length,.lsl (L (.n 3)) 1 0 s.paths.length,.lsl (L (.n 4)) 1 0 s.rows.length,.lsl (L (.n 5)) 1 0 s.lists.length,.mp (L (.n 6)),.mp (L (.n 7))])
 seen:∃ m:List (D × D),H[L (.n 1)]?=some (.map m)∧GQ m∧∀ p,Fa m (S p)=if p∈s.paths then some (.bool true) else none
 above:H[L (.n 2)]?=some (.row false (Ax .i64 s.above))
 paths:H[L (.n 3)]?=some (.row false (strs s.paths))
 rows:H[L (.n 4)]?=some (IC L s.rows.length)
 lists:H[L (.n 5)]?=some (.row false (strs s.lists))
 items:∃ m:List (D × AV),H[L (.n 6)]?=some (.amap m)∧GQ m∧∀ p,Fa m (S p)=if s.it p=[] then none else some (.lsl (L (.i p)) 5 0 (s.it p).length)
 sev:∃ m:List (D × D),H[L (.n 7)]?=some (.map m)∧GQ m∧∀ p,Fa m (S p)=if s.sv p=0 then none else some (.int .i64 (s.sv p:Nat))
 row:∀ i,(h:i<s.rows.length)→∃ m:List (D × D),H[L (.n (8+i))]?=some (.map m)∧GQ m∧∀ p,Fa m (S p)=(s.rows[i] p).map fun c=>.agg (Gd c)
 item:∀ p,¬s.it p=[]→H[L (.i p)]?=some (.row false (Bl (s.it p)))
theorem Bz.ne {L:Rl→Nat} {s:Ly} {H:List Aa} (h:Bz L s H) {a b:Rl} (ha:Bj s a) (hb:Bj s b) (hab:a≠b):¬L a=L b:=fun e=>hab (h.inj a b ha hb e)
end Go.Proofs.YtmidaophnbdcdaaGreatDoor
namespace Go.Proofs.YtmidaophnbdcdaaGreatDoor
open Go Go.Proofs Go.Abs
variable {G:Ad}
def Bg (L:Rl→Nat) (k N:Nat):Rl→Nat
 | .n j=>if j=k then N else L (.n j)
 | .i p=>L (.i p)
theorem C1 (L:Rl→Nat) (k N:Nat):Bg L k N (.n k)=N:=by simp[Bg]
theorem AR (L:Rl→Nat) {k j:Nat} (N:Nat) (h:¬j=k):Bg L k N (.n j)=L (.n j):=by simp[Bg,h]
theorem Tz (L:Rl→Nat) (k N:Nat) (p:List UInt8):Bg L k N (.i p)=L (.i p):=rfl
theorem MS {L:Rl→Nat} {s s':Ly} {H:List Aa} (h:Bz L s H) {k N:Nat} (hN:H.length≤N) (hok:∀ a,Bj s' a→a≠.n k→Bj s a):∀ a b,Bj s' a→Bj s' b→Bg L k N a=Bg L k N b→a=b:=by
 have key:∀ a,Bj s' a→(a=.n k∧Bg L k N a=N)∨(a≠.n k∧Bj s a∧Bg L k N a=L a∧L a<N):=by
  intro a ha
  by_cases e:a=.n k
  ·exact .inl ⟨e,by rw[e,C1]⟩
  ·have:=hok a ha e
   have hl:=h.lt a this
   refine .inr ⟨e,this,?_,by omega⟩
   cases a with
   | n j=>exact AR L N fun q=>e (by rw[q])
   | i p=>rfl
 intro a b ha hb e
 rcases key a ha with ⟨a1,a2⟩ | ⟨a1,a2,a3,a4⟩<;>rcases key b hb with ⟨b1,b2⟩ | ⟨b1,b2,b3,b4⟩
 ·rw[a1,b1]
 ·omega
 ·omega
 ·exact h.inj a b a2 b2 (by rw[←a3,←b3];exact e)
theorem Bz.put {L:Rl→Nat} {s:Ly} {H K:List Aa} (h:Bz L s H) (hl:H.length≤K.length) (hk:∀ a,Bj s a→K[L a]?=H[L a]?):Bz L s K:=by
 have ok:∀ k,k<8+s.rows.length→Bj s (.n k):=fun k hk=>hk
 refine ⟨h.inj,fun a ha=>AdU (h.lt a ha) hl,?_,?_,?_,?_,?_,?_,?_,?_,?_,?_⟩
 ·rw[hk _ (ok 0 (by omega))];exact h.box
 ·rw[hk _ (ok 1 (by omega))];exact h.seen
 ·rw[hk _ (ok 2 (by omega))];exact h.above
 ·rw[hk _ (ok 3 (by omega))];exact h.paths
 ·rw[hk _ (ok 4 (by omega))];exact h.rows
 ·rw[hk _ (ok 5 (by omega))];exact h.lists
 ·rw[hk _ (ok 6 (by omega))];exact h.items
 ·rw[hk _ (ok 7 (by omega))];exact h.sev
 ·intro i hi;rw[hk _ (ok (8+i) (by omega))];exact h.row i hi
 ·intro p hp;rw[hk (.i p) hp];exact h.item p hp
theorem Bz.app {L:Rl→Nat} {s:Ly} {H:List Aa} (h:Bz L s H) (E:List Aa):Bz L s (H++E) :=
 h.put (by simp) fun a ha=>Az (h.lt a ha)
theorem Bz.path {L:Rl→Nat} {s:Ly} {H K:List Aa} (h:Bz L s H) {N:Nat} {p:List UInt8} (hp:¬p∈s.paths) (hN:H.length≤N) (hK:N<K.length) (hl:H.length≤K.length)
  (k0:K[L (.n 0)]?=some (.box [.d (.bool s.further),.lsl (L (.n 2)) 1 0 s.above.length,.lsl N 1 0 (s.paths.length+1),.lsl (L (.n 4)) 1 0 s.rows.length,.lsl (L (.n 5)) 1 0 s.lists.length,.mp (L (.n 6)),.mp (L (.n 7))]))
  (k1:∃ m:List (D × D),H[L (.n 1)]?=some (.map m)∧K[L (.n 1)]?=some (.map (BH m (S p) (.bool true)))) (k3:K[N]?=some (.row false (strs (s.paths++[p]))))
  (kr:∀ a,Bj s a→a≠.n 0→a≠.n 1→a≠.n 3→K[L a]?=H[L a]?):Bz (Bg L 3 N) {s with paths:=s.paths++[p]} K:=by
 have ok:∀ k,k<8+s.rows.length→Bj s (.n k):=fun k hk=>hk
 have ne:∀ {k j:Nat},k≠j→Rl.n k≠Rl.n j:=fun h e=>h (by cases e;rfl)
 have get:∀ k,k<8+s.rows.length→k≠0→k≠1→k≠3→K[Bg L 3 N (.n k)]?=H[L (.n k)]?:=fun k hk h0 h1 h3=>by
  rw[AR L N h3];exact kr _ (ok k hk) (ne h0) (ne h1) (ne h3)
 have s3:=C1 L 3 N
 have sk:∀ k,k≠3→Bg L 3 N (.n k)=L (.n k):=fun k hk=>AR L N hk
 have hg:∀ a,Bj s a→Bg L 3 N a<K.length:=fun a ha=>by
  cases a with
  | n j =>
   by_cases e:j=3
   ·subst e;rw[s3];exact hK
   ·rw[sk j e];exact AdU (h.lt _ ha) hl
  | i q=>exact AdU (h.lt _ ha) hl
 refine ⟨MS (s':={s with paths:=s.paths++[p]}) h hN fun a ha _=>ha,hg,?_,?_,?_,?_,?_,?_,?_,?_,?_,?_⟩
 ·rw[sk 0 (by decide),sk 2 (by decide),s3,sk 4 (by decide),sk 5 (by decide),sk 6 (by decide),sk 7 (by decide),k0]
  simp
 ·obtain ⟨m,m1,m2⟩:=k1
  obtain ⟨m',q1,q2,q3⟩:=h.seen
  have:m=m':=by rw[m1] at q1;cases q1;rfl
  subst this
  refine ⟨_,by rw[sk 1 (by decide)];exact m2,q2.upd _ _,fun q=>?_⟩
  rw[Ij q2,q3]
  by_cases e:q=p
  ·simp[e]
  ·simp[e]
 ·rw[get 2 (by omega) (by decide) (by decide) (by decide)];exact h.above
 ·rw[s3];exact k3
 ·rw[get 4 (by omega) (by decide) (by decide) (by decide),h.rows]
  unfold IC
  have:∀ i,Bg L 3 N (.n (8+i))=L (.n (8+i)):=fun i=>sk _ (by omega)
  simp only[this]
 ·rw[get 5 (by omega) (by decide) (by decide) (by decide)];exact h.lists
 ·rw[get 6 (by omega) (by decide) (by decide) (by decide)];exact h.items
 ·rw[get 7 (by omega) (by decide) (by decide) (by decide)];exact h.sev
 ·intro i hi;rw[get (8+i) (by simp at hi;omega) (by omega) (by omega) (by omega)];exact h.row i hi
 ·intro q hq
  have e:K[L (.i q)]?=H[L (.i q)]?:=kr (.i q) hq (by simp) (by simp) (by simp)
  rw[Tz,e]
  exact h.item q hq
theorem Bz.cell {L:Rl→Nat} {s:Ly} {H K:List Aa} (h:Bz L s H) {p:List UInt8} {x:Cel} (hr:0<s.rows.length) (hl:H.length≤K.length)
  (k1:∃ m:List (D × D),H[L (.n (8+(s.rows.length-1)))]?=some (.map m)∧K[L (.n (8+(s.rows.length-1)))]?=some (.map (BH m (S p) (.agg (Gd x))))) (hno:(s.rows.getD (s.rows.length-1) fun _=>none) p=none)
  (kr:∀ a,Bj s a→a≠.n (8+(s.rows.length-1))→K[L a]?=H[L a]?):Bz L {s with rows:=s.rows.modify (s.rows.length-1) fun r=>Ib r p x} K:=by
 have ok:∀ k,k<8+s.rows.length→Bj s (.n k):=fun k hk=>hk
 have ne:∀ {k j:Nat},k≠j→Rl.n k≠Rl.n j:=fun h e=>h (by cases e;rfl)
 have get:∀ k,k<8→K[L (.n k)]?=H[L (.n k)]?:=fun k hk=>kr _ (ok k (by omega)) (ne (by omega))
 have lr:(s.rows.modify (s.rows.length-1) fun r=>Ib r p x).length=s.rows.length:=by simp
 have okk:∀ a,Bj {s with rows:=s.rows.modify (s.rows.length-1) fun r=>Ib r p x} a→Bj s a:=fun a ha=>by
  cases a with
  | n j=>have:j<8+(s.rows.modify (s.rows.length-1) fun r=>Ib r p x).length:=ha;rw[lr] at this;exact this
  | i q=>exact ha
 refine ⟨fun a b ha hb=>h.inj a b (okk a ha) (okk b hb),fun a ha=>AdU (h.lt a (okk a ha)) hl,?_,?_,?_,?_,?_,?_,?_,?_,?_,?_⟩
 ·rw[get 0 (by omega),h.box,lr]
 ·rw[get 1 (by omega)];exact h.seen
 ·rw[get 2 (by omega)];exact h.above
 ·rw[get 3 (by omega)];exact h.paths
 ·rw[get 4 (by omega),lr];exact h.rows
 ·rw[get 5 (by omega)];exact h.lists
 ·rw[get 6 (by omega)];exact h.items
 ·rw[get 7 (by omega)];exact h.sev
 ·intro i hi
  simp only[lr] at hi
  by_cases e:i=s.rows.length-1
  ·subst e
   obtain ⟨m,m1,m2⟩:=k1
   obtain ⟨m',q1,q2,q3⟩:=h.row _ hi
   have:m=m':=by rw[m1] at q1;cases q1;rfl
   subst this
   refine ⟨_,m2,q2.upd _ _,fun q=>?_⟩
   rw[Ij q2,q3]
   simp only[Af5,if_true,Ib]
   have hno':s.rows[s.rows.length-1] p=none:=by
    rw[AcB,AdT hi] at hno
    exact hno
   by_cases e:q=p
   ·subst e;simp[hno']
   ·simp[e]
  ·rw[kr _ (ok (8+i) (by omega)) (ne (by omega))]
   simp only[Af5,if_neg (Ne.symm e)]
   exact h.row i hi
 ·intro q hq;rw[kr (.i q) hq (by simp)];exact h.item q hq
theorem Ly.same_cell {s:Ly} {p:List UInt8} {x c:Cel} (h:(s.rows.getD (s.rows.length-1) fun _=>none) p=some c):(s.rows.modify (s.rows.length-1) fun r=>Ib r p x)=s.rows:=by
 refine Agv (by simp) fun i h1 h2=>?_
 rw[Af5]
 split
 ·rename_i e
  subst e
  rw[AcB,AdT h2] at h
  simp only[Af1] at h
  funext q
  unfold Ib
  by_cases e:q=p
  ·subst e;simp[h]
  ·simp[e]
 ·rfl
structure CG (L:Rl→Nat) (s:Ly) (H:List Aa) (L':Rl→Nat) (s':Ly) (H':List Aa):Prop where
 n0:L' (.n 0)=L (.n 0)
 n1:L' (.n 1)=L (.n 1)
 len:H.length≤H'.length
 keep:∀ i,i<H.length→(∀ a,Bj s a→L a≠i)→H'[i]?=H[i]?
 old:∀ a,Bj s' a→(∃ b,Bj s b∧L b=L' a)∨H.length≤L' a
theorem CG.refl (L:Rl→Nat) (s:Ly) (H:List Aa):CG L s H L s H:=⟨rfl,rfl,Ad1 _,fun _ _ _=>rfl,fun a ha=>.inl ⟨a,ha,rfl⟩⟩
theorem CG.trans {L1 L2 L3:Rl→Nat} {s1 s2 s3:Ly} {H1 H2 H3:List Aa} (a:CG L1 s1 H1 L2 s2 H2) (b:CG L2 s2 H2 L3 s3 H3):CG L1 s1 H1 L3 s3 H3:=by
 refine ⟨b.n0.trans a.n0,b.n1.trans a.n1,AfY a.len b.len,fun i hi hr=>?_,fun x hx=>?_⟩
 ·rw[b.keep i (AdU hi a.len) fun x hx e=>?_,a.keep i hi hr]
  rcases a.old x hx with ⟨y,h1,h2⟩ | h1
  ·exact hr y h1 (h2.trans e)
  ·omega
 ·rcases b.old x hx with ⟨y,h1,h2⟩ | h1
  ·rcases a.old y h1 with ⟨z,h3,h4⟩ | h3
   ·exact .inl ⟨z,h3,h4.trans h2⟩
   ·exact .inr (h2▸h3)
  ·exact .inr (AfY a.len h1)
theorem CG.app (L:Rl→Nat) (s:Ly) (H E:List Aa):CG L s H L s (H++E):=⟨rfl,rfl,by simp,fun i hi _=>Az hi,fun a ha=>.inl ⟨a,ha,rfl⟩⟩
theorem Jp {s s':Ly} (h1:s'.rows.length=s.rows.length) (h2:s'.it=s.it) {a:Rl} (h:Bj s' a):Bj s a:=by
 cases a with
 | n k=>show k<8+s.rows.length;rw[←h1];exact h
 | i p=>show ¬s.it p=[];rw[←h2];exact h
theorem Jh {L:Rl→Nat} {s:Ly} {H:List Aa} {k N:Nat} (hN:H.length≤N) {a:Rl} (ha:Bj s a):(∃ b,Bj s b∧L b=Bg L k N a)∨H.length≤Bg L k N a:=by
 cases a with
 | n j =>
  by_cases e:j=k
  ·subst e;rw[C1];exact .inr hN
  ·rw[AR L N e];exact .inl ⟨_,ha,rfl⟩
 | i p=>exact .inl ⟨_,ha,rfl⟩
theorem Gp {s:Ly} {p:List UInt8} {x:Cel} {a:Rl} (h:Bj (s.single p x) a):Bj s a:=Jp (s.single_rows p x) rfl h
theorem Wu {H:List Aa} (h:∀ b,H[0]?=some b→∀ J t,b≠.ext J t):C3 H=true:=by
 cases H with
 | nil=>rfl
 | cons x r =>
  cases x with
  | ext J t=>exact absurd rfl (h _ rfl J t)
  | _=>rfl
def NoX (H:List Aa):Prop:=∀ b∈H,∀ J t,b≠.ext J t
theorem NoX.ok {H:List Aa} (h:NoX H):C3 H=true:=Wu fun b hb=>h b (List.mem_of_getElem? hb)
theorem NoX.set {H:List Aa} (h:NoX H) (i:Nat) {b:Aa} (hb:∀ J t,b≠.ext J t):NoX (H.set i b):=fun c hc=>by
 rcases List.mem_or_eq_of_mem_set hc with hc | rfl
 ·exact h c hc
 ·exact hb
theorem NoX.app {H E:List Aa} (h:NoX H) (he:NoX E):NoX (H++E):=fun c hc=>by
 rcases Agf.1 hc with hc | hc
 ·exact h c hc
 ·exact he c hc
theorem K0 {L:Rl→Nat} {s:Ly} {H:List Aa} (h:Bz L s H) (hr:0<s.rows.length) (h0:NoX H) (p:List UInt8) (n:Nd) (hs:s.paths.length≤1000000000∧s.rows.length≤1000000000) (hp:p.length≤1000000000) :
  ∃ L' H',Ctr TP G 60 [.ptr (L (.n 0)) 0,.mp (L (.n 1)),.d (S p),.d (NdD n)] H (.d (.tup [])) H'∧Bz L' (s.single p (Bm n)) H'∧CG L s H L' (s.single p (Bm n)) H'∧NoX H':=by
 obtain ⟨sl1,sl2⟩:=hs
 obtain ⟨nk,nt,nks,nl⟩:=n
 obtain ⟨m,hm⟩:∃ m,s.rows.length=m+1:=⟨s.rows.length-1,by omega⟩
 have hm1:s.rows.length-1=m:=by omega
 have ok:∀ k,k<9+m→Bj s (.n k):=fun k hk=>by show k<8+s.rows.length;omega
 obtain ⟨ms,ms1,ms2,ms3⟩:=h.seen
 obtain ⟨mr,mr1,mr2,mr3⟩:=h.row m (by omega)
 have q0:=h.box
 have q3:=h.paths
 have q4:=h.rows
 unfold IC at q4
 rw[if_neg (by omega),hm] at q4
 have l0:=h.lt _ (ok 0 (by omega))
 have l1:=h.lt _ (ok 1 (by omega))
 have l3:=h.lt _ (ok 3 (by omega))
 have l4:=h.lt _ (ok 4 (by omega))
 have lr:=h.lt _ (ok (8+m) (by omega))
 have n01:=h.ne (ok 0 (by omega)) (ok 1 (by omega)) (by simp)
 have n03:=h.ne (ok 0 (by omega)) (ok 3 (by omega)) (by simp)
 have n04:=h.ne (ok 0 (by omega)) (ok 4 (by omega)) (by simp)
 have n13:=h.ne (ok 1 (by omega)) (ok 3 (by omega)) (by simp)
 have n14:=h.ne (ok 1 (by omega)) (ok 4 (by omega)) (by simp)
 have n34:=h.ne (ok 3 (by omega)) (ok 4 (by omega)) (by simp)
 have n0r:=h.ne (ok 0 (by omega)) (ok (8+m) (by omega)) (by simp;omega)
 have n1r:=h.ne (ok 1 (by omega)) (ok (8+m) (by omega)) (by simp;omega)
 have n3r:=h.ne (ok 3 (by omega)) (ok (8+m) (by omega)) (by simp;omega)
 have n4r:=h.ne (ok 4 (by omega)) (ok (8+m) (by omega)) (by simp;omega)
 have ks:=ms2.ok
 have kr:=mr2.ok
 have rl:((Af0 (m+1)).map fun i=>AV.mp (L (.n (8+i)))).length=m+1:=by simp
 have rg:((Af0 (m+1)).map fun i=>AV.mp (L (.n (8+i)))).getD m .undef=.mp (L (.n (8+m))):=by
  rw[AcB,Af9,Agk (by omega)];rfl
 generalize ((Af0 (m+1)).map fun i=>AV.mp (L (.n (8+i))))=rb at *
 have sl:=@strs_length s.paths
 have gD:s.rows.getD m (fun _=>none)=s.rows[m]:=by rw[AcB,AdT (by omega)];rfl
 by_cases hpp:p∈s.paths
 ·have v1:C4 (.bool false) ms (S p) false=.bool true:=by rw[Jt,ms3,if_pos hpp];rfl
  cases hc:s.rows[m] p with
  | none =>
   have hcD:(s.rows.getD m fun _=>none) p=none:=by rw[gD];exact hc
   have v2:C4 (.agg [.bool false,.str ByteArray.empty]) mr (S p) true=.tup [.agg [.bool false,.str ByteArray.empty],.bool false]:=by rw[CP,mr3,hc];rfl
   have hX:NoX (H.set (L (.n (8+m))) (.map (BH mr (S p) (.agg (Gd (Bm (.mk nk nt nks nl))))))++[.box [.d (.int .i64 nk),.d (S nt),.d (Ss nks false),.d (.sl nl.length false (AY nl))],.box [.d (.bool false),.d (.str ByteArray.empty)]]):=(h0.set _ (by simp)).app (by simp[NoX])
   refine ⟨L,H.set (L (.n (8+m))) (.map (BH mr (S p) (.agg (Gd (Bm (.mk nk nt nks nl))))))++[.box [.d (.int .i64 nk),.d (S nt),.d (Ss nks false),.d (.sl nl.length false (AY nl))],.box [.d (.bool false),.d (.str ByteArray.empty)]],Ctr.bodyI (M:=M0) Am Tryz.func60 rfl Zl ?h1 ?h2,?h3⟩
   case h2 =>
    simp(maxSteps:=1000000)(disch:=(try simp only[awL]);omega)only[awS,Tryz.f60,hm,q0,q3,q4,ms1,mr1,ks,kr,v1,v2,rl,rg,sl,ndC,awH,↓awU,awY,↓reduceIte,↓reduceDIte,↓Qe,Qu,Qv,Qw,Qx,Qy,Qz,QA,QB,QC,QD,QE,QF,QG,QH,QI,QK]
    refine ⟨by rfl,?_⟩
    refine Ab.of (Ma (.mk nk nt nks nl)) (by rfl) ?_
    simp(maxSteps:=1000000)(disch:=(try simp only[awL]);omega)only[awS,q0,q3,q4,ms1,mr1,ks,kr,v1,v2,rl,rg,sl,ndC,awH,↓awU,awY,↓reduceIte,↓reduceDIte,↓Qe,Qu,Qv,Qw,Qx,Qy,Qz,QA,QB,QC,QD,QE,QF,QG,QH,QI,QK]
    first
    | exact Or.inr ⟨rfl,Or.inr ⟨_,rfl,rfl,rfl⟩⟩
   case h1=>exact hX.ok
   case h3 =>
    have e1:s.single p (Bm (.mk nk nt nks nl))={s with rows:=s.rows.modify (s.rows.length-1) fun r=>Ib r p (Bm (.mk nk nt nks nl))}:=by simp[Ly.single,hpp]
    rw[e1]
    refine ⟨Bz.app (h.cell (K:=H.set (L (.n (8+m))) (.map (BH mr (S p) (.agg (Gd (Bm (.mk nk nt nks nl))))))) (by omega) (by simp) ⟨mr,by rw[hm1];exact mr1,by rw[hm1];exact Bt lr⟩ (by rw[hm1];exact hcD) fun a ha hn=>An (h.ne (ok _ (by omega)) ha (by rw[hm1] at hn;exact hn.symm))) _,⟨rfl,rfl,by simp,fun i hi hr=>?_,fun a ha=>.inl ⟨a,Gp (by rw[e1];exact ha),rfl⟩⟩,hX⟩
    rw[Az (by simpa using hi),An (hr _ (ok _ (by omega)))]
  | some c =>
   have hcD:(s.rows.getD m fun _=>none) p=some c:=by rw[gD];exact hc
   have v2:C4 (.agg [.bool false,.str ByteArray.empty]) mr (S p) true=.tup [.agg (Gd c),.bool true]:=by rw[CP,mr3,hc];rfl
   have hX:NoX (H++[.box [.d (.int .i64 nk),.d (S nt),.d (Ss nks false),.d (.sl nl.length false (AY nl))],.box [.d (.bool c.2),.d (S c.1)]]):=h0.app (by simp[NoX])
   refine ⟨L,H++[.box [.d (.int .i64 nk),.d (S nt),.d (Ss nks false),.d (.sl nl.length false (AY nl))],.box [.d (.bool c.2),.d (S c.1)]],Ctr.bodyI (M:=M0) Am Tryz.func60 rfl Zl ?h1 ?h2,?h3⟩
   case h2 =>
    simp(maxSteps:=1000000)(disch:=(try simp only[awL]);omega)only[awS,Tryz.f60,hm,q0,q3,q4,ms1,mr1,ks,kr,v1,v2,rl,rg,sl,ndC,awH,↓awU,awY,↓reduceIte,↓reduceDIte,↓Qe,Qu,Qv,Qw,Qx,Qy,Qz,QA,QB,QC,QD,QE,QF,QG,QH,QI,QK]
    refine ⟨by rfl,?_⟩
    first
    | exact Or.inr ⟨rfl,Or.inr ⟨_,rfl,rfl,rfl⟩⟩
   case h1=>exact hX.ok
   case h3 =>
    have e1:s.single p (Bm (.mk nk nt nks nl))=s:=by
     unfold Ly.single
     rw[if_pos hpp,Ly.same_cell (c:=c) (by rw[hm1];exact hcD)]
    rw[e1]
    exact ⟨h.app _,CG.app _ _ _ _,hX⟩
 ·have v1:C4 (.bool false) ms (S p) false=.bool false:=by rw[Jt,ms3,if_neg hpp];rfl
  cases hc:s.rows[m] p with
  | none =>
   have hcD:(s.rows.getD m fun _=>none) p=none:=by rw[gD];exact hc
   have v2:C4 (.agg [.bool false,.str ByteArray.empty]) mr (S p) true=.tup [.agg [.bool false,.str ByteArray.empty],.bool false]:=by rw[CP,mr3,hc];rfl
   have hX:NoX ((((H.set (L (.n 1)) (.map (BH ms (S p) (.bool true)))).set (L (.n 3)) .dead).set (L (.n 0)) (.box [.d (.bool s.further),.lsl (L (.n 2)) 1 0 s.above.length,.lsl (H.length+2) 1 0 (s.paths.length+1),.lsl (L (.n 4)) 1 0 (m+1),.lsl (L (.n 5)) 1 0 s.lists.length,.mp (L (.n 6)),.mp (L (.n 7))])).set (L (.n (8+m))) (.map (BH mr (S p) (.agg (Gd (Bm (.mk nk nt nks nl))))))++[.box [.d (.int .i64 nk),.d (S nt),.d (Ss nks false),.d (.sl nl.length false (AY nl))],.row false [S p],.row false (strs s.paths++[S p]),.box [.d (.bool false),.d (.str ByteArray.empty)]]):=((((h0.set _ (by simp)).set _ (by simp)).set _ (by simp)).set _ (by simp)).app (by simp[NoX])
   refine ⟨Bg L 3 (H.length+2),(((H.set (L (.n 1)) (.map (BH ms (S p) (.bool true)))).set (L (.n 3)) .dead).set (L (.n 0)) (.box [.d (.bool s.further),.lsl (L (.n 2)) 1 0 s.above.length,.lsl (H.length+2) 1 0 (s.paths.length+1),.lsl (L (.n 4)) 1 0 (m+1),.lsl (L (.n 5)) 1 0 s.lists.length,.mp (L (.n 6)),.mp (L (.n 7))])).set (L (.n (8+m))) (.map (BH mr (S p) (.agg (Gd (Bm (.mk nk nt nks nl))))))++[.box [.d (.int .i64 nk),.d (S nt),.d (Ss nks false),.d (.sl nl.length false (AY nl))],.row false [S p],.row false (strs s.paths++[S p]),.box [.d (.bool false),.d (.str ByteArray.empty)]],Ctr.bodyI (M:=M0) Am Tryz.func60 rfl Zl ?h1 ?h2,?h3⟩
   case h2 =>
    simp(maxSteps:=1000000)(disch:=(try simp only[awL]);omega)only[awS,Tryz.f60,hm,q0,q3,q4,ms1,mr1,ks,kr,v1,v2,rl,rg,sl,ndC,awH,↓awU,awY,↓reduceIte,↓reduceDIte,↓Qe,Qu,Qv,Qw,Qx,Qy,Qz,QA,QB,QC,QD,QE,QF,QG,QH,QI,QK]
    refine ⟨by rfl,?_⟩
    refine Ab.of (Ma (.mk nk nt nks nl)) (by rfl) ?_
    simp(maxSteps:=1000000)(disch:=(try simp only[awL]);omega)only[awS,q0,q3,q4,ms1,mr1,ks,kr,v1,v2,rl,rg,sl,ndC,awH,↓awU,awY,↓reduceIte,↓reduceDIte,↓Qe,Qu,Qv,Qw,Qx,Qy,Qz,QA,QB,QC,QD,QE,QF,QG,QH,QI,QK]
    first
    | exact Or.inr ⟨rfl,Or.inr ⟨_,rfl,rfl,rfl⟩⟩
   case h1=>exact hX.ok
   case h3 =>
    have hp1:Bz (Bg L 3 (H.length+2)) {s with paths:=s.paths++[p]} (((H.set (L (.n 1)) (.map (BH ms (S p) (.bool true)))).set (L (.n 3)) .dead).set (L (.n 0)) (.box [.d (.bool s.further),.lsl (L (.n 2)) 1 0 s.above.length,.lsl (H.length+2) 1 0 (s.paths.length+1),.lsl (L (.n 4)) 1 0 (m+1),.lsl (L (.n 5)) 1 0 s.lists.length,.mp (L (.n 6)),.mp (L (.n 7))])++[.box [.d (.int .i64 nk),.d (S nt),.d (Ss nks false),.d (.sl nl.length false (AY nl))],.row false [S p],.row false (strs s.paths++[S p]),.box [.d (.bool false),.d (.str ByteArray.empty)]]):=by
     refine h.path hpp (by omega) (by simp) (by simp) ?_ ⟨ms,ms1,?_⟩ ?_ fun a ha a0 a1 a3=>?_
     ·rw[Az (by simpa using l0),Bt (by simpa using l0),hm]
     ·rw[Az (by simpa using l1),An n01,An (Ne.symm n13),Bt l1]
     ·rw[AQ (by simp)]
      simp[strs]
     ·have la:=h.lt a ha
      rw[Az (by simpa using la),An (h.ne (ok 0 (by omega)) ha (Ne.symm a0)),An (h.ne (ok 3 (by omega)) ha (Ne.symm a3)),An (h.ne (ok 1 (by omega)) ha (Ne.symm a1))]
    have e1:s.single p (Bm (.mk nk nt nks nl))={({s with paths:=s.paths++[p]}:Ly) with rows:=s.rows.modify (s.rows.length-1) fun r=>Ib r p (Bm (.mk nk nt nks nl))}:=by simp[Ly.single,hpp]
    rw[e1]
    have er:Bg L 3 (H.length+2) (.n (8+m))=L (.n (8+m)):=AR _ _ (by omega)
    have hx:Bj {s with paths:=s.paths++[p]} (.n (8+m)):=ok _ (by omega)
    refine ⟨hp1.cell (K:=(((H.set (L (.n 1)) (.map (BH ms (S p) (.bool true)))).set (L (.n 3)) .dead).set (L (.n 0)) (.box [.d (.bool s.further),.lsl (L (.n 2)) 1 0 s.above.length,.lsl (H.length+2) 1 0 (s.paths.length+1),.lsl (L (.n 4)) 1 0 (m+1),.lsl (L (.n 5)) 1 0 s.lists.length,.mp (L (.n 6)),.mp (L (.n 7))])).set (L (.n (8+m))) (.map (BH mr (S p) (.agg (Gd (Bm (.mk nk nt nks nl))))))++[.box [.d (.int .i64 nk),.d (S nt),.d (Ss nks false),.d (.sl nl.length false (AY nl))],.row false [S p],.row false (strs s.paths++[S p]),.box [.d (.bool false),.d (.str ByteArray.empty)]]) (by show 0<s.rows.length;omega) (by simp) ⟨mr,?_,?_⟩ (by show (s.rows.getD (s.rows.length-1) fun _=>none) p=none;rw[hm1];exact hcD) fun a ha hn=>?_,⟨AR _ _ (by decide),AR _ _ (by decide),by simp,fun i hi hr=>?_,fun a ha=>Jh (by omega) (Gp (by rw[e1];exact ha))⟩,hX⟩
    ·show (((H.set (L (.n 1)) (.map (BH ms (S p) (.bool true)))).set (L (.n 3)) .dead).set (L (.n 0)) (.box [.d (.bool s.further),.lsl (L (.n 2)) 1 0 s.above.length,.lsl (H.length+2) 1 0 (s.paths.length+1),.lsl (L (.n 4)) 1 0 (m+1),.lsl (L (.n 5)) 1 0 s.lists.length,.mp (L (.n 6)),.mp (L (.n 7))])++[.box [.d (.int .i64 nk),.d (S nt),.d (Ss nks false),.d (.sl nl.length false (AY nl))],.row false [S p],.row false (strs s.paths++[S p]),.box [.d (.bool false),.d (.str ByteArray.empty)]])[Bg L 3 (H.length+2) (.n (8+(s.rows.length-1)))]?=_
     rw[hm1,er,Az (by simpa using lr),An n0r,An n3r,An n1r]
     exact mr1
    ·show ((((H.set (L (.n 1)) (.map (BH ms (S p) (.bool true)))).set (L (.n 3)) .dead).set (L (.n 0)) (.box [.d (.bool s.further),.lsl (L (.n 2)) 1 0 s.above.length,.lsl (H.length+2) 1 0 (s.paths.length+1),.lsl (L (.n 4)) 1 0 (m+1),.lsl (L (.n 5)) 1 0 s.lists.length,.mp (L (.n 6)),.mp (L (.n 7))])).set (L (.n (8+m))) (.map (BH mr (S p) (.agg (Gd (Bm (.mk nk nt nks nl))))))++[.box [.d (.int .i64 nk),.d (S nt),.d (Ss nks false),.d (.sl nl.length false (AY nl))],.row false [S p],.row false (strs s.paths++[S p]),.box [.d (.bool false),.d (.str ByteArray.empty)]])[Bg L 3 (H.length+2) (.n (8+(s.rows.length-1)))]?=_
     rw[hm1,er,Az (by simpa using lr),Bt (by simpa using lr)]
    ·have hn':¬Bg L 3 (H.length+2) (.n (8+m))=Bg L 3 (H.length+2) a:=hp1.ne hx ha (by
      have:a≠.n (8+(s.rows.length-1)):=hn
      rw[hm1] at this
      exact this.symm)
     rw[er] at hn'
     rcases AdX (Bg L 3 (H.length+2) a) H.length with q | q
     ·rw[Az (by simpa using q),Az (by simpa using q),An hn']
     ·rw[AQ (by simpa using q),AQ (by simpa using q)]
      simp only[Af3]
    ·rw[Az (by simpa using hi),An (hr _ (ok _ (by omega))),An (hr _ (ok _ (by omega))),An (hr _ (ok _ (by omega))),An (hr _ (ok _ (by omega)))]
  | some c =>
   have hcD:(s.rows.getD m fun _=>none) p=some c:=by rw[gD];exact hc
   have v2:C4 (.agg [.bool false,.str ByteArray.empty]) mr (S p) true=.tup [.agg (Gd c),.bool true]:=by rw[CP,mr3,hc];rfl
   have hX:NoX (((H.set (L (.n 1)) (.map (BH ms (S p) (.bool true)))).set (L (.n 3)) .dead).set (L (.n 0)) (.box [.d (.bool s.further),.lsl (L (.n 2)) 1 0 s.above.length,.lsl (H.length+2) 1 0 (s.paths.length+1),.lsl (L (.n 4)) 1 0 (m+1),.lsl (L (.n 5)) 1 0 s.lists.length,.mp (L (.n 6)),.mp (L (.n 7))])++[.box [.d (.int .i64 nk),.d (S nt),.d (Ss nks false),.d (.sl nl.length false (AY nl))],.row false [S p],.row false (strs s.paths++[S p]),.box [.d (.bool c.2),.d (S c.1)]]):=(((h0.set _ (by simp)).set _ (by simp)).set _ (by simp)).app (by simp[NoX])
   refine ⟨Bg L 3 (H.length+2),((H.set (L (.n 1)) (.map (BH ms (S p) (.bool true)))).set (L (.n 3)) .dead).set (L (.n 0)) (.box [.d (.bool s.further),.lsl (L (.n 2)) 1 0 s.above.length,.lsl (H.length+2) 1 0 (s.paths.length+1),.lsl (L (.n 4)) 1 0 (m+1),.lsl (L (.n 5)) 1 0 s.lists.length,.mp (L (.n 6)),.mp (L (.n 7))])++[.box [.d (.int .i64 nk),.d (S nt),.d (Ss nks false),.d (.sl nl.length false (AY nl))],.row false [S p],.row false (strs s.paths++[S p]),.box [.d (.bool c.2),.d (S c.1)]],Ctr.bodyI (M:=M0) Am Tryz.func60 rfl Zl ?h1 ?h2,?h3⟩
   case h2 =>
    simp(maxSteps:=1000000)(disch:=(try simp only[awL]);omega)only[awS,Tryz.f60,hm,q0,q3,q4,ms1,mr1,ks,kr,v1,v2,rl,rg,sl,ndC,awH,↓awU,awY,↓reduceIte,↓reduceDIte,↓Qe,Qu,Qv,Qw,Qx,Qy,Qz,QA,QB,QC,QD,QE,QF,QG,QH,QI,QK]
    refine ⟨by rfl,?_⟩
    first
    | exact Or.inr ⟨rfl,Or.inr ⟨_,rfl,rfl,rfl⟩⟩
   case h1=>exact hX.ok
   case h3 =>
    have hp1:Bz (Bg L 3 (H.length+2)) {s with paths:=s.paths++[p]} (((H.set (L (.n 1)) (.map (BH ms (S p) (.bool true)))).set (L (.n 3)) .dead).set (L (.n 0)) (.box [.d (.bool s.further),.lsl (L (.n 2)) 1 0 s.above.length,.lsl (H.length+2) 1 0 (s.paths.length+1),.lsl (L (.n 4)) 1 0 (m+1),.lsl (L (.n 5)) 1 0 s.lists.length,.mp (L (.n 6)),.mp (L (.n 7))])++[.box [.d (.int .i64 nk),.d (S nt),.d (Ss nks false),.d (.sl nl.length false (AY nl))],.row false [S p],.row false (strs s.paths++[S p]),.box [.d (.bool c.2),.d (S c.1)]]):=by
     refine h.path hpp (by omega) (by simp) (by simp) ?_ ⟨ms,ms1,?_⟩ ?_ fun a ha a0 a1 a3=>?_
     ·rw[Az (by simpa using l0),Bt (by simpa using l0),hm]
     ·rw[Az (by simpa using l1),An n01,An (Ne.symm n13),Bt l1]
     ·rw[AQ (by simp)]
      simp[strs]
     ·have la:=h.lt a ha
      rw[Az (by simpa using la),An (h.ne (ok 0 (by omega)) ha (Ne.symm a0)),An (h.ne (ok 3 (by omega)) ha (Ne.symm a3)),An (h.ne (ok 1 (by omega)) ha (Ne.symm a1))]
    have e1:s.single p (Bm (.mk nk nt nks nl))={s with paths:=s.paths++[p]}:=by
     unfold Ly.single
     rw[if_neg hpp,Ly.same_cell (c:=c) (by rw[hm1];exact hcD)]
    rw[e1]
    refine ⟨hp1,⟨AR _ _ (by decide),AR _ _ (by decide),by simp,fun i hi hr=>?_,fun a ha=>Jh (by omega) (Gp (by rw[e1];exact ha))⟩,hX⟩
    rw[Az (by simpa using hi),An (hr _ (ok _ (by omega))),An (hr _ (ok _ (by omega))),An (hr _ (ok _ (by omega)))]
theorem Bz.sev' {L:Rl→Nat} {s:Ly} {H K:List Aa} (h:Bz L s H) {p:List UInt8} {n:Nat} (hn:0<n) (hl:H.length≤K.length)
  (k7:∃ m:List (D × D),H[L (.n 7)]?=some (.map m)∧K[L (.n 7)]?=some (.map (BH m (S p) (.int .i64 (n:Nat)))))
  (kr:∀ a,Bj s a→a≠.n 7→K[L a]?=H[L a]?):Bz L {s with sv:=Cg s.sv p n} K:=by
 have ok:∀ k,k<8+s.rows.length→Bj s (.n k):=fun k hk=>hk
 have ne:∀ {k j:Nat},k≠j→Rl.n k≠Rl.n j:=fun h e=>h (by cases e;rfl)
 have get:∀ k,k<8+s.rows.length→k≠7→K[L (.n k)]?=H[L (.n k)]?:=fun k hk h7=>kr _ (ok k hk) (ne h7)
 refine ⟨h.inj,fun a ha=>AdU (h.lt a ha) hl,?_,?_,?_,?_,?_,?_,?_,?_,?_,?_⟩
 ·rw[get 0 (by omega) (by decide)];exact h.box
 ·rw[get 1 (by omega) (by decide)];exact h.seen
 ·rw[get 2 (by omega) (by decide)];exact h.above
 ·rw[get 3 (by omega) (by decide)];exact h.paths
 ·rw[get 4 (by omega) (by decide)];exact h.rows
 ·rw[get 5 (by omega) (by decide)];exact h.lists
 ·rw[get 6 (by omega) (by decide)];exact h.items
 ·obtain ⟨m,m1,m2⟩:=k7
  obtain ⟨m',q1,q2,q3⟩:=h.sev
  have:m=m':=by rw[m1] at q1;cases q1;rfl
  subst this
  refine ⟨_,m2,q2.upd _ _,fun q=>?_⟩
  show _=if Cg s.sv p n q=0 then none else some (D.int .i64 (Cg s.sv p n q:Nat))
  rw[Ij q2,q3]
  by_cases e:q=p
  ·subst e;rw[if_pos rfl,B8,if_neg (by omega)]
  ·rw[if_neg e,BN _ _ e]
 ·intro i hi;rw[get (8+i) (by simp at hi;omega) (by omega)];exact h.row i hi
 ·intro q hq;rw[kr (.i q) hq (by simp)];exact h.item q hq
theorem Bz.lst {L:Rl→Nat} {s:Ly} {H K:List Aa} (h:Bz L s H) {N:Nat} {p:List UInt8} (hN:H.length≤N) (hK:N<K.length) (hl:H.length≤K.length)
  (k0:K[L (.n 0)]?=some (.box [.d (.bool s.further),.lsl (L (.n 2)) 1 0 s.above.length,.lsl (L (.n 3)) 1 0 s.paths.length,.lsl (L (.n 4)) 1 0 s.rows.length,.lsl N 1 0 (s.lists.length+1),.mp (L (.n 6)),.mp (L (.n 7))]))
  (k5:K[N]?=some (.row false (strs (s.lists++[p])))) (kr:∀ a,Bj s a→a≠.n 0→a≠.n 5→K[L a]?=H[L a]?):Bz (Bg L 5 N) {s with lists:=s.lists++[p]} K:=by
 have ok:∀ k,k<8+s.rows.length→Bj s (.n k):=fun k hk=>hk
 have ne:∀ {k j:Nat},k≠j→Rl.n k≠Rl.n j:=fun h e=>h (by cases e;rfl)
 have get:∀ k,k<8+s.rows.length→k≠0→k≠5→K[Bg L 5 N (.n k)]?=H[L (.n k)]?:=fun k hk h0 h3=>by
  rw[AR L N h3];exact kr _ (ok k hk) (ne h0) (ne h3)
 have s3:=C1 L 5 N
 have sk:∀ k,k≠5→Bg L 5 N (.n k)=L (.n k):=fun k hk=>AR L N hk
 have hg:∀ a,Bj s a→Bg L 5 N a<K.length:=fun a ha=>by
  cases a with
  | n j =>
   by_cases e:j=5
   ·subst e;rw[s3];exact hK
   ·rw[sk j e];exact AdU (h.lt _ ha) hl
  | i q=>exact AdU (h.lt _ ha) hl
 refine ⟨MS (s':={s with lists:=s.lists++[p]}) h hN fun a ha _=>ha,hg,?_,?_,?_,?_,?_,?_,?_,?_,?_,?_⟩
 ·rw[sk 0 (by decide),sk 2 (by decide),sk 3 (by decide),sk 4 (by decide),s3,sk 6 (by decide),sk 7 (by decide),k0]
  simp
 ·rw[get 1 (by omega) (by decide) (by decide)];exact h.seen
 ·rw[get 2 (by omega) (by decide) (by decide)];exact h.above
 ·rw[get 3 (by omega) (by decide) (by decide)];exact h.paths
 ·rw[get 4 (by omega) (by decide) (by decide),h.rows]
  unfold IC
  have:∀ i,Bg L 5 N (.n (8+i))=L (.n (8+i)):=fun i=>sk _ (by omega)
  simp only[this]
 ·rw[s3];exact k5
 ·rw[get 6 (by omega) (by decide) (by decide)];exact h.items
 ·rw[get 7 (by omega) (by decide) (by decide)];exact h.sev
 ·intro i hi;rw[get (8+i) (by simp at hi;omega) (by omega) (by omega)];exact h.row i hi
 ·intro q hq
  have e:K[L (.i q)]?=H[L (.i q)]?:=kr (.i q) hq (by simp) (by simp)
  rw[Tz,e]
  exact h.item q hq
def Fb (L:Rl→Nat) (p:List UInt8) (N:Nat):Rl→Nat
 | .n j=>L (.n j)
 | .i q=>if q=p then N else L (.i q)
theorem Iz (L:Rl→Nat) (p:List UInt8) (N:Nat):Fb L p N (.i p)=N:=by simp[Fb]
theorem Ok (L:Rl→Nat) {p q:List UInt8} (N:Nat) (h:¬q=p):Fb L p N (.i q)=L (.i q):=by simp[Fb,h]
theorem Bz.itm {L:Rl→Nat} {s:Ly} {H K:List Aa} (h:Bz L s H) {N:Nat} {p:List UInt8} {e:Elm} (hN:H.length≤N) (hK:N<K.length) (hl:H.length≤K.length)
  (k6:∃ m:List (D × AV),H[L (.n 6)]?=some (.amap m)∧K[L (.n 6)]?=some (.amap (BH m (S p) (.lsl N 5 0 ((s.it p).length+1)))))
  (kn:K[N]?=some (.row false (Bl (s.it p++[e])))) (kr:∀ a,Bj s a→a≠.n 6→a≠.i p→K[L a]?=H[L a]?):Bz (Fb L p N) {s with it:=Cg s.it p (s.it p++[e])} K:=by
 have ok:∀ k,k<8+s.rows.length→Bj s (.n k):=fun k hk=>hk
 have ne:∀ {k j:Nat},k≠j→Rl.n k≠Rl.n j:=fun h e=>h (by cases e;rfl)
 have get:∀ k,k<8+s.rows.length→k≠6→K[L (.n k)]?=H[L (.n k)]?:=fun k hk h6=>kr _ (ok k hk) (ne h6) (by simp)
 have key:∀ a,Bj {s with it:=Cg s.it p (s.it p++[e])} a→(a=.i p∧Fb L p N a=N)∨(a≠.i p∧Bj s a∧Fb L p N a=L a∧L a<H.length):=by
  intro a ha
  cases a with
  | n k=>exact .inr ⟨by simp,ha,rfl,h.lt (.n k) ha⟩
  | i q =>
   by_cases eq:q=p
   ·subst eq;exact .inl ⟨rfl,Iz L q N⟩
   ·have hq:Bj s (.i q):=by
     have:¬Cg s.it p (s.it p++[e]) q=[]:=ha
     rwa[BN _ _ eq] at this
    exact .inr ⟨fun x=>eq (by cases x;rfl),hq,Ok L N eq,h.lt _ hq⟩
 refine ⟨fun a b ha hb hab=>?_,fun a ha=>?_,?_,?_,?_,?_,?_,?_,?_,?_,?_,?_⟩
 ·rcases key a ha with ⟨a1,a2⟩ | ⟨a1,a2,a3,a4⟩<;>rcases key b hb with ⟨b1,b2⟩ | ⟨b1,b2,b3,b4⟩
  ·rw[a1,b1]
  ·omega
  ·omega
  ·exact h.inj a b a2 b2 (by rw[←a3,←b3];exact hab)
 ·rcases key a ha with ⟨a1,a2⟩ | ⟨a1,a2,a3,a4⟩<;>omega
 ·show K[L (.n 0)]?=_
  rw[get 0 (by omega) (by decide)];exact h.box
 ·show ∃ m:List (D × D),K[L (.n 1)]?=_∧_
  rw[get 1 (by omega) (by decide)];exact h.seen
 ·show K[L (.n 2)]?=_
  rw[get 2 (by omega) (by decide)];exact h.above
 ·show K[L (.n 3)]?=_
  rw[get 3 (by omega) (by decide)];exact h.paths
 ·show K[L (.n 4)]?=_
  rw[get 4 (by omega) (by decide)];exact h.rows
 ·show K[L (.n 5)]?=_
  rw[get 5 (by omega) (by decide)];exact h.lists
 ·obtain ⟨m,m1,m2⟩:=k6
  obtain ⟨m',q1,q2,q3⟩:=h.items
  have:m=m':=by rw[m1] at q1;cases q1;rfl
  subst this
  refine ⟨_,m2,q2.upd _ _,fun q=>?_⟩
  show _=if Cg s.it p (s.it p++[e]) q=[] then none else some (AV.lsl (Fb L p N (.i q)) 5 0 (Cg s.it p (s.it p++[e]) q).length)
  rw[Ij q2,q3]
  by_cases eq:q=p
  ·subst eq
   rw[if_pos rfl,B8,if_neg (by simp),Iz,AdV]
   rfl
  ·rw[if_neg eq,BN _ _ eq,Ok L N eq]
 ·show ∃ m:List (D × D),K[L (.n 7)]?=_∧_
  rw[get 7 (by omega) (by decide)];exact h.sev
 ·intro i hi
  show ∃ m:List (D × D),K[L (.n (8+i))]?=_∧_
  rw[get (8+i) (by simp at hi;omega) (by omega)];exact h.row i hi
 ·intro q hq
  rcases key (.i q) hq with ⟨a1,a2⟩ | ⟨a1,a2,a3,a4⟩
  ·cases a1
   rw[Iz,kn]
   simp only[B8]
  ·rw[a3,kr (.i q) a2 (by simp) a1]
   have eq:¬q=p:=fun x=>a1 (by rw[x])
   simp only[BN _ _ eq]
   exact h.item q a2
theorem Uz {L:Rl→Nat} {s:Ly} {H:List Aa} {p:List UInt8} {N:Nat} {l:List Elm} (hN:H.length≤N) {a:Rl} (ha:Bj {s with it:=Cg s.it p l} a):(∃ b,Bj s b∧L b=Fb L p N a)∨H.length≤Fb L p N a:=by
 cases a with
 | n j=>exact .inl ⟨.n j,ha,rfl⟩
 | i q =>
  by_cases e:q=p
  ·subst e;rw[Iz];exact .inr hN
  ·rw[Ok L N e]
   have:¬Cg s.it p l q=[]:=ha
   rw[BN _ _ e] at this
   exact .inl ⟨.i q,this,rfl⟩
def Ly.itk (s:Ly) (p:List UInt8) (kids:List Nd) (k:Nat):Ly:={s with it:=Cg s.it p (s.it p++(kids.take k).map fun x=>((s.rows.length:Int)-1,x))}
theorem Ly.itk_zero (s:Ly) (p:List UInt8) (kids:List Nd):s.itk p kids 0=s:=by
 have:Cg s.it p (s.it p)=s.it:=by
  funext q
  by_cases e:q=p
  ·subst e;exact B8 _ _ _
  ·exact BN _ _ e
 unfold Ly.itk
 simp only[AfR,AfZ,AfV,this]
theorem Ly.itk_at (s:Ly) (p:List UInt8) (kids:List Nd) (k:Nat):(s.itk p kids k).it p=s.it p++(kids.take k).map fun x=>((s.rows.length:Int)-1,x):=B8 _ _ _
theorem Ly.itk_succ (s:Ly) (p:List UInt8) (kids:List Nd) (k:Nat) (h:k<kids.length):s.itk p kids (k+1)={s.itk p kids k with it:=Cg (s.itk p kids k).it p ((s.itk p kids k).it p++[((s.rows.length:Int)-1,kids.getD k noN)])}:=by
 have e1:kids.take (k+1)=kids.take k++[kids.getD k noN]:=by
  rw[List.take_succ,AdT h,AcB,AdT h];rfl
 unfold Ly.itk
 simp only[e1,List.map_append,Afs,AfZ]
 congr 1
 funext q
 by_cases e:q=p
 ·subst e
  rw[B8,B8,B8,Ags]
 ·rw[BN _ _ e,BN _ _ e,BN _ _ e]
def FY (L:Rl→Nat) (H:List Aa) (mi:List (D × AV)) (p:List UInt8) (it:List Elm) (e:Elm):List Aa :=
 (if it=[] then H.set (L (.n 6)) (.amap (BH mi (S p) (.lsl (H.length+2) 5 0 (it.length+1)))) else (H.set (L (.i p)) .dead).set (L (.n 6)) (.amap (BH mi (S p) (.lsl (H.length+2) 5 0 (it.length+1))))) ++
  [.box ((ndC e.2).map .d),.row false (Bl [e]),.row false (Bl (it++[e]))]
def Vz (L:Rl→Nat) (s:Ly) (H:List Aa) (p:List UInt8) (kids:List Nd) (k:Nat) (x:(Rl→Nat) × List Aa):Prop :=
 Bz x.1 (s.itk p kids k) x.2∧CG L s H x.1 (s.itk p kids k) x.2∧NoX x.2
def Aa3 (s:Ly) (p:List UInt8) (kids:List Nd) (k:Nat) (x y:(Rl→Nat) × List Aa):Prop :=
 ∃ mi,x.2[x.1 (.n 6)]?=some (.amap mi)∧y.2=FY x.1 x.2 mi p ((s.itk p kids k).it p) ((s.rows.length:Int)-1,kids.getD k noN)
theorem P8 {L:Rl→Nat} {s:Ly} {H:List Aa} {p:List UInt8} {kids:List Nd} {k:Nat} (hk:k<kids.length) {x:(Rl→Nat) × List Aa} (hx:Vz L s H p kids k x):∃ y,Aa3 s p kids k x y∧Vz L s H p kids (k+1) y:=by
 obtain ⟨L1,H1⟩:=x
 obtain ⟨h1,h2,h3⟩:=hx
 simp only at h1 h2 h3
 obtain ⟨mi,m1,m2,m3⟩:=h1.items
 have ok:∀ k',k'<8+s.rows.length→Bj (s.itk p kids k) (.n k'):=fun k' hk'=>hk'
 have l6:=h1.lt (.n 6) (ok 6 (by omega))
 generalize he:(((s.rows.length:Int)-1,kids.getD k noN):Elm)=e
 refine ⟨(Fb L1 p (H1.length+2),FY L1 H1 mi p ((s.itk p kids k).it p) e),⟨mi,m1,by rw[he]⟩,?_⟩
 have hlen:(FY L1 H1 mi p ((s.itk p kids k).it p) e).length=H1.length+3:=by
  unfold FY
  split<;>simp
 have gN:(FY L1 H1 mi p ((s.itk p kids k).it p) e)[H1.length+2]?=some (.row false (Bl ((s.itk p kids k).it p++[e]))):=by
  unfold FY
  split<;>simp
 have g6:(FY L1 H1 mi p ((s.itk p kids k).it p) e)[L1 (.n 6)]?=some (.amap (BH mi (S p) (.lsl (H1.length+2) 5 0 (((s.itk p kids k).it p).length+1)))):=by
  unfold FY
  split
  ·rw[Az (by simpa using l6),Bt l6]
  ·rw[Az (by simpa using l6),Bt (by simpa using l6)]
 have gO:∀ i,i<H1.length→i≠L1 (.n 6)→(¬(s.itk p kids k).it p=[]→i≠L1 (.i p))→(FY L1 H1 mi p ((s.itk p kids k).it p) e)[i]?=H1[i]?:=by
  intro i hi h6 hp
  unfold FY
  split
  ·rw[Az (by simpa using hi),An (Ne.symm h6)]
  ·rename_i hne
   rw[Az (by simpa using hi),An (Ne.symm h6),An (Ne.symm (hp hne))]
 have hs':s.itk p kids (k+1)={s.itk p kids k with it:=Cg (s.itk p kids k).it p ((s.itk p kids k).it p++[e])}:=by rw[Ly.itk_succ s p kids k hk,he]
 refine ⟨?_,h2.trans ?_,?_⟩
 ·show Bz (Fb L1 p (H1.length+2)) (s.itk p kids (k+1)) (FY L1 H1 mi p ((s.itk p kids k).it p) e)
  rw[hs']
  refine h1.itm (by omega) (by omega) (by omega) ⟨mi,m1,g6⟩ gN fun a ha a6 ap=>gO _ (h1.lt a ha) (h1.ne ha (ok 6 (by omega)) a6) fun hne=>?_
  exact h1.ne ha (b:=.i p) hne ap
 ·show CG L1 (s.itk p kids k) H1 (Fb L1 p (H1.length+2)) (s.itk p kids (k+1)) (FY L1 H1 mi p ((s.itk p kids k).it p) e)
  refine ⟨rfl,rfl,by omega,fun i hi hr=>gO i hi (Ne.symm (hr _ (ok 6 (by omega)))) fun hne=>Ne.symm (hr (.i p) hne),fun a ha=>?_⟩
  rw[hs'] at ha
  exact Uz (by omega) ha
 ·show NoX (FY L1 H1 mi p ((s.itk p kids k).it p) e)
  unfold FY
  split
  ·exact (h3.set _ (by simp)).app (by simp[NoX])
  ·exact ((h3.set _ (by simp)).set _ (by simp)).app (by simp[NoX])
theorem WG {L:Rl→Nat} {s:Ly} {H:List Aa} (h:Bz L s H) (hr:0<s.rows.length) (h0:NoX H) (p:List UInt8) (kids:List Nd) (full:Bool) (hs:s.lists.length≤1000000000∧s.rows.length≤1000000000) (hk:(s.it p).length+kids.length≤1000000000) :
  ∃ L' H',Ctr TP G 97 [.ptr (L (.n 0)) 0,.d (S p),.d (NdS kids full)] H (.d (.tup [])) H'∧Bz L' (s.list p kids) H'∧CG L s H L' (s.list p kids) H'∧NoX H':=by
 obtain ⟨sl1,sl2⟩:=hs
 have ok:∀ k,k<8+s.rows.length→Bj s (.n k):=fun k hk=>hk
 obtain ⟨mv,mv1,mv2,mv3⟩:=h.sev
 have q0:=h.box
 have q5:=h.lists
 have l0:=h.lt _ (ok 0 (by omega))
 have l5:=h.lt _ (ok 5 (by omega))
 have l7:=h.lt _ (ok 7 (by omega))
 have n05:=h.ne (ok 0 (by omega)) (ok 5 (by omega)) (by simp)
 have n07:=h.ne (ok 0 (by omega)) (ok 7 (by omega)) (by simp)
 have n57:=h.ne (ok 5 (by omega)) (ok 7 (by omega)) (by simp)
 have ks:=mv2.ok
 have nl:=BK kids
 have sl:=@strs_length s.lists
 have v1:C4 (.int .i64 0) mv (S p) false=.int .i64 (s.sv p:Nat):=by
  rw[Jt,mv3]
  by_cases e:s.sv p=0
  ·rw[if_pos e,e];rfl
  ·rw[if_neg e];rfl
 by_cases hA:s.sv p=s.rows.length
 ·have e1:s.list p kids=s:=if_pos hA
  rw[e1]
  refine ⟨L,H,Ctr.bodyI (M:=M0) Am Tryz.func97 rfl AaR h0.ok ?_,h,CG.refl _ _ _,h0⟩
  rw[hA] at v1
  simp(maxSteps:=1000000)(disch:=(try simp only[awL]);omega)only[awS,Tryz.f97,q0,q5,mv1,ks,v1,nl,sl,awH,↓awU,awY,↓reduceIte,↓reduceDIte,↓Qe,Qu,Qv,Qw,Qx,Qy,Qz,QA,QB,QC,QD,QE,QF,QG,QH,QI,QK]
  first
  | exact RetI.unitR
 ·by_cases hB:s.sv p=0
  ·have e1:s.list p kids=({s with lists:=s.lists++[p],sv:=Cg s.sv p s.rows.length}:Ly).itk p kids kids.length:=by
    unfold Ly.list Ly.itk
    rw[if_neg hA,if_pos hB,Afv]
   rw[e1]
   have l1n:(Bg L 5 (H.length+1)) (.n 0)=L (.n 0):=AR _ _ (by decide)
   have x0:Bz (Bg L 5 (H.length+1)) {s with lists:=s.lists++[p]} ((H.set (L (.n 5)) .dead).set (L (.n 0)) (.box [.d (.bool s.further),.lsl (L (.n 2)) 1 0 s.above.length,.lsl (L (.n 3)) 1 0 s.paths.length,.lsl (L (.n 4)) 1 0 s.rows.length,.lsl (H.length+1) 1 0 (s.lists.length+1),.mp (L (.n 6)),.mp (L (.n 7))])++[.row false [S p],.row false (strs s.lists++[S p])]):=by
    refine h.lst (by omega) (by simp) (by simp) ?_ ?_ fun a ha a0 a5=>?_
    ·rw[Az (by simpa using l0),Bt (by simpa using l0)]
    ·rw[AQ (by simp)]
     simp[strs]
    ·have la:=h.lt a ha
     rw[Az (by simpa using la),An (h.ne (ok 0 (by omega)) ha (Ne.symm a0)),An (h.ne (ok 5 (by omega)) ha (Ne.symm a5))]
   have x1:Bz (Bg L 5 (H.length+1)) {s with lists:=s.lists++[p],sv:=Cg s.sv p s.rows.length} (((H.set (L (.n 5)) .dead).set (L (.n 0)) (.box [.d (.bool s.further),.lsl (L (.n 2)) 1 0 s.above.length,.lsl (L (.n 3)) 1 0 s.paths.length,.lsl (L (.n 4)) 1 0 s.rows.length,.lsl (H.length+1) 1 0 (s.lists.length+1),.mp (L (.n 6)),.mp (L (.n 7))])).set (L (.n 7)) (.map (BH mv (S p) (.int .i64 (s.rows.length:Nat))))++[.row false [S p],.row false (strs s.lists++[S p])]):=by
    refine x0.sev' hr (by simp) ⟨mv,?_,?_⟩ fun a ha a7=>?_
    ·rw[AR _ _ (by decide),Az (by simpa using l7),An n07,An n57]
     exact mv1
    ·rw[AR _ _ (by decide),Az (by simpa using l7),Bt (by simpa using l7)]
    ·have hn':=x0.ne (a:=.n 7) (b:=a) (by show 7<8+s.rows.length;omega) ha (Ne.symm a7)
     rw[AR _ _ (by decide)] at hn'
     rcases AdX (Bg L 5 (H.length+1) a) H.length with q | q
     ·rw[Az (by simpa using q),Az (by simpa using q),An hn']
     ·rw[AQ (by simpa using q),AQ (by simpa using q)]
      simp only[Af3]
   have x2:CG L s H (Bg L 5 (H.length+1)) {s with lists:=s.lists++[p],sv:=Cg s.sv p s.rows.length} (((H.set (L (.n 5)) .dead).set (L (.n 0)) (.box [.d (.bool s.further),.lsl (L (.n 2)) 1 0 s.above.length,.lsl (L (.n 3)) 1 0 s.paths.length,.lsl (L (.n 4)) 1 0 s.rows.length,.lsl (H.length+1) 1 0 (s.lists.length+1),.mp (L (.n 6)),.mp (L (.n 7))])).set (L (.n 7)) (.map (BH mv (S p) (.int .i64 (s.rows.length:Nat))))++[.row false [S p],.row false (strs s.lists++[S p])]) :=
    ⟨l1n,AR _ _ (by decide),by simp,fun i hi hr=>by rw[Az (by simpa using hi),An (hr _ (ok 7 (by omega))),An (hr _ (ok 0 (by omega))),An (hr _ (ok 5 (by omega)))],
     fun a ha=>Jh (by omega) (Jp (s':={s with lists:=s.lists++[p],sv:=Cg s.sv p s.rows.length}) rfl rfl ha)⟩
   have x3:NoX (((H.set (L (.n 5)) .dead).set (L (.n 0)) (.box [.d (.bool s.further),.lsl (L (.n 2)) 1 0 s.above.length,.lsl (L (.n 3)) 1 0 s.paths.length,.lsl (L (.n 4)) 1 0 s.rows.length,.lsl (H.length+1) 1 0 (s.lists.length+1),.mp (L (.n 6)),.mp (L (.n 7))])).set (L (.n 7)) (.map (BH mv (S p) (.int .i64 (s.rows.length:Nat))))++[.row false [S p],.row false (strs s.lists++[S p])]):=(((h0.set _ (by simp)).set _ (by simp)).set _ (by simp)).app (by simp[NoX])
   generalize hS1:({s with lists:=s.lists++[p],sv:=Cg s.sv p s.rows.length}:Ly)=S1 at *
   have hS1r:S1.rows=s.rows:=by rw[←hS1]
   have hS1i:S1.it=s.it:=by rw[←hS1]
   obtain ⟨f,f0,fI,fT⟩:=Ji (Vz (Bg L 5 (H.length+1)) S1 (((H.set (L (.n 5)) .dead).set (L (.n 0)) (.box [.d (.bool s.further),.lsl (L (.n 2)) 1 0 s.above.length,.lsl (L (.n 3)) 1 0 s.paths.length,.lsl (L (.n 4)) 1 0 s.rows.length,.lsl (H.length+1) 1 0 (s.lists.length+1),.mp (L (.n 6)),.mp (L (.n 7))])).set (L (.n 7)) (.map (BH mv (S p) (.int .i64 (s.rows.length:Nat))))++[.row false [S p],.row false (strs s.lists++[S p])]) p kids) (Aa3 S1 p kids) kids.length ((Bg L 5 (H.length+1)),((H.set (L (.n 5)) .dead).set (L (.n 0)) (.box [.d (.bool s.further),.lsl (L (.n 2)) 1 0 s.above.length,.lsl (L (.n 3)) 1 0 s.paths.length,.lsl (L (.n 4)) 1 0 s.rows.length,.lsl (H.length+1) 1 0 (s.lists.length+1),.mp (L (.n 6)),.mp (L (.n 7))])).set (L (.n 7)) (.map (BH mv (S p) (.int .i64 (s.rows.length:Nat))))++[.row false [S p],.row false (strs s.lists++[S p])])
    (by unfold Vz;rw[Ly.itk_zero];exact ⟨x1,CG.refl _ _ _,x3⟩) (fun k hk x hx=>P8 hk hx)
   refine ⟨(f kids.length).1,(f kids.length).2,Ctr.bodyI (M:=M0) Am Tryz.func97 rfl AaR (fI _ (Ad1 _)).2.2.ok ?_,(fI _ (Ad1 _)).1,x2.trans (fI _ (Ad1 _)).2.1,(fI _ (Ad1 _)).2.2⟩
   simp(maxSteps:=1000000)(disch:=(try simp only[awL]);omega)only[awS,Tryz.f97,hA,hB,q0,q5,mv1,ks,v1,nl,sl,awH,↓awU,awY,↓reduceIte,↓reduceDIte,↓Qe,Qu,Qv,Qw,Qx,Qy,Qz,QA,QB,QC,QD,QE,QF,QG,QH,QI,QK]
   refine ⟨by rfl,?_⟩
   refine Au.frI 26388279066627 (α:=Nat) (fun k=>kids.length-k) (fun k=>[(45,.d (.int .i64 k))]) (fun k=>(f k).2) (fun k=>k≤kids.length) 0 (Ae3 _) ?_ ?_
   ·rw[f0]
    first
    | exact .slots (by simp[sA,kA,CH])
   ·intro k hkk
    simp only[awK,AdY,AdZ,reduceIte]
    rcases AdX k kids.length with hlt | hge
    ·obtain ⟨mi,t1,t2⟩:=fT k hlt
     obtain ⟨i1,i2,i3⟩:=fI k hkk
     generalize hHk:(f k).2=Hk at *
     generalize hLk:(f k).1=Lk at *
     obtain ⟨mi',m1,m2,m3⟩:=i1.items
     have emi:mi=mi':=by rw[t1] at m1;cases m1;rfl
     subst emi
     have r0:=i1.box
     have k0:Lk (.n 0)=L (.n 0):=by rw[i2.n0,l1n]
     rw[k0] at r0
     have z0:=i1.lt (.n 0) (by show 0<8+S1.rows.length;omega)
     rw[k0] at z0
     have z6:=i1.lt (.n 6) (by show 6<8+S1.rows.length;omega)
     have y06:=i1.ne (a:=.n 0) (b:=.n 6) (by show 0<8+S1.rows.length;omega) (by show 6<8+S1.rows.length;omega) (by simp)
     rw[k0] at y06
     have kk:=m2.ok
     have g:=Et hlt
     have hit:=Ly.itk_at S1 p kids k
     have hil:((S1.itk p kids k).it p).length≤1000000000:=by
      rw[hit,hS1i,AdV,Agh,Ad0];omega
     have hrl:(S1.itk p kids k).rows.length=s.rows.length:=by show S1.rows.length=_;rw[hS1r]
     generalize hkd:kids.getD k noN=kd at *
     obtain ⟨ka,kb,kc,kl⟩:=kd
     have v2:=DI (.sl 0 true []) mi (S p)
     rw[m3] at v2
     by_cases he:(S1.itk p kids k).it p=[]
     ·rw[if_pos he] at v2
      simp(maxSteps:=1000000)(disch:=(try simp only[awL]);omega)only[awS,hrl,r0,t1,kk,v2,g,nl,ndC,awH,↓awU,awY,↓reduceIte,↓reduceDIte,↓Qe,Qu,Qv,Qw,Qx,Qy,Qz,QA,QB,QC,QD,QE,QF,QG,QH,QI,QK]
      obtain ⟨cf,hcf⟩:=CZ [L (.n 0),Lk (.n 6),Hk.length,Hk.length+1,Hk.length+2] (by simp;omega)
      have c0:=hcf 0 _ rfl
      have c1:=hcf 1 _ rfl
      have c2:=hcf 2 _ rfl
      have c3:=hcf 3 _ rfl
      have c4:=hcf 4 _ rfl
      refine ⟨by simp[cut],AE cf (by simp (disch:=omega) only[Bd,AN,AM,A8,A7,and_self]) (by simp only[Afs,AfZ,c0,c1,c2,c3,c4];rfl),k+1,hlt,by simp only;omega,.inl ⟨?_,by simp[sA,kA,CH]⟩⟩
      show (f (k+1)).2=_
      rw[t2];unfold FY;rw[if_pos he];simp[he,Bl,DJ,ndC,cut,hS1r]
     ·rw[if_neg he] at v2
      have zi:=i1.lt (.i p) he
      have yi:=i1.item p he
      have y0i:=i1.ne (a:=.n 0) (b:=.i p) (by show 0<8+S1.rows.length;omega) he (by simp)
      rw[k0] at y0i
      have y6i:=i1.ne (a:=.n 6) (b:=.i p) (by show 6<8+S1.rows.length;omega) he (by simp)
      have el:=Bu ((S1.itk p kids k).it p)
      simp(maxSteps:=1000000)(disch:=(try simp only[awL]);omega)only[awS,hrl,r0,t1,kk,v2,yi,el,g,nl,ndC,awH,↓awU,awY,↓reduceIte,↓reduceDIte,↓Qe,Qu,Qv,Qw,Qx,Qy,Qz,QA,QB,QC,QD,QE,QF,QG,QH,QI,QK]
      obtain ⟨cf,hcf⟩:=CZ [L (.n 0),Lk (.n 6),Lk (.i p),Hk.length,Hk.length+1,Hk.length+2] (by simp;omega)
      have c0:=hcf 0 _ rfl
      have c1:=hcf 1 _ rfl
      have c2:=hcf 2 _ rfl
      have c3:=hcf 3 _ rfl
      have c4:=hcf 4 _ rfl
      have c5:=hcf 5 _ rfl
      refine ⟨by simp[cut],AE cf (by simp (disch:=omega) only[Bd,AN,AM,A8,A7,and_self]) (by simp only[Afs,AfZ,c0,c1,c2,c3,c4,c5];rfl),k+1,hlt,by simp only;omega,.inl ⟨?_,by simp[sA,kA,CH]⟩⟩
      show (f (k+1)).2=_
      rw[t2];unfold FY;rw[if_neg he];simp[Bl,DJ,ndC,cut,hS1r]
    ·obtain rfl:k=kids.length:=by omega
     simp(maxSteps:=1000000)(disch:=(try simp only[awL]);omega)only[awS,nl,↓awU,awY,↓reduceIte,↓reduceDIte,↓Qe,Qu,Qv,Qw,Qx,Qy,Qz,QA,QB,QC,QD,QE,QF,QG,QH,QI,QK]
     first
     | exact RetI.unit
  ·have e1:s.list p kids=({s with sv:=Cg s.sv p s.rows.length}:Ly).itk p kids kids.length:=by
    unfold Ly.list Ly.itk
    rw[if_neg hA,if_neg hB,Afv]
   rw[e1]
   have l1n:L (.n 0)=L (.n 0):=rfl
   have x1:Bz L {s with sv:=Cg s.sv p s.rows.length} (H.set (L (.n 7)) (.map (BH mv (S p) (.int .i64 (s.rows.length:Nat))))):=h.sev' hr (by simp) ⟨mv,mv1,Bt l7⟩ fun a ha a7=>An (h.ne (ok 7 (by omega)) ha (Ne.symm a7))
   have x2:CG L s H L {s with sv:=Cg s.sv p s.rows.length} (H.set (L (.n 7)) (.map (BH mv (S p) (.int .i64 (s.rows.length:Nat))))) :=
    ⟨rfl,rfl,by simp,fun i hi hr=>An (hr _ (ok 7 (by omega))),fun a ha=>.inl ⟨a,Jp (s':={s with sv:=Cg s.sv p s.rows.length}) rfl rfl ha,rfl⟩⟩
   have x3:NoX (H.set (L (.n 7)) (.map (BH mv (S p) (.int .i64 (s.rows.length:Nat))))):=h0.set _ (by simp)
   generalize hS1:({s with sv:=Cg s.sv p s.rows.length}:Ly)=S1 at *
   have hS1r:S1.rows=s.rows:=by rw[←hS1]
   have hS1i:S1.it=s.it:=by rw[←hS1]
   obtain ⟨f,f0,fI,fT⟩:=Ji (Vz L S1 (H.set (L (.n 7)) (.map (BH mv (S p) (.int .i64 (s.rows.length:Nat))))) p kids) (Aa3 S1 p kids) kids.length (L,H.set (L (.n 7)) (.map (BH mv (S p) (.int .i64 (s.rows.length:Nat)))))
    (by unfold Vz;rw[Ly.itk_zero];exact ⟨x1,CG.refl _ _ _,x3⟩) (fun k hk x hx=>P8 hk hx)
   refine ⟨(f kids.length).1,(f kids.length).2,Ctr.bodyI (M:=M0) Am Tryz.func97 rfl AaR (fI _ (Ad1 _)).2.2.ok ?_,(fI _ (Ad1 _)).1,x2.trans (fI _ (Ad1 _)).2.1,(fI _ (Ad1 _)).2.2⟩
   simp(maxSteps:=1000000)(disch:=(try simp only[awL]);omega)only[awS,Tryz.f97,hA,hB,q0,q5,mv1,ks,v1,nl,sl,awH,↓awU,awY,↓reduceIte,↓reduceDIte,↓Qe,Qu,Qv,Qw,Qx,Qy,Qz,QA,QB,QC,QD,QE,QF,QG,QH,QI,QK]
   refine ⟨by rfl,?_⟩
   refine Au.frI 26388279066627 (α:=Nat) (fun k=>kids.length-k) (fun k=>[(45,.d (.int .i64 k))]) (fun k=>(f k).2) (fun k=>k≤kids.length) 0 (Ae3 _) ?_ ?_
   ·rw[f0]
    first
    | exact .slots (by simp[sA,kA,CH])
   ·intro k hkk
    simp only[awK,AdY,AdZ,reduceIte]
    rcases AdX k kids.length with hlt | hge
    ·obtain ⟨mi,t1,t2⟩:=fT k hlt
     obtain ⟨i1,i2,i3⟩:=fI k hkk
     generalize hHk:(f k).2=Hk at *
     generalize hLk:(f k).1=Lk at *
     obtain ⟨mi',m1,m2,m3⟩:=i1.items
     have emi:mi=mi':=by rw[t1] at m1;cases m1;rfl
     subst emi
     have r0:=i1.box
     have k0:Lk (.n 0)=L (.n 0):=by rw[i2.n0,l1n]
     rw[k0] at r0
     have z0:=i1.lt (.n 0) (by show 0<8+S1.rows.length;omega)
     rw[k0] at z0
     have z6:=i1.lt (.n 6) (by show 6<8+S1.rows.length;omega)
     have y06:=i1.ne (a:=.n 0) (b:=.n 6) (by show 0<8+S1.rows.length;omega) (by show 6<8+S1.rows.length;omega) (by simp)
     rw[k0] at y06
     have kk:=m2.ok
     have g:=Et hlt
     have hit:=Ly.itk_at S1 p kids k
     have hil:((S1.itk p kids k).it p).length≤1000000000:=by
      rw[hit,hS1i,AdV,Agh,Ad0];omega
     have hrl:(S1.itk p kids k).rows.length=s.rows.length:=by show S1.rows.length=_;rw[hS1r]
     generalize hkd:kids.getD k noN=kd at *
     obtain ⟨ka,kb,kc,kl⟩:=kd
     have v2:=DI (.sl 0 true []) mi (S p)
     rw[m3] at v2
     by_cases he:(S1.itk p kids k).it p=[]
     ·rw[if_pos he] at v2
      simp(maxSteps:=1000000)(disch:=(try simp only[awL]);omega)only[awS,hrl,r0,t1,kk,v2,g,nl,ndC,awH,↓awU,awY,↓reduceIte,↓reduceDIte,↓Qe,Qu,Qv,Qw,Qx,Qy,Qz,QA,QB,QC,QD,QE,QF,QG,QH,QI,QK]
      obtain ⟨cf,hcf⟩:=CZ [L (.n 0),Lk (.n 6),Hk.length,Hk.length+1,Hk.length+2] (by simp;omega)
      have c0:=hcf 0 _ rfl
      have c1:=hcf 1 _ rfl
      have c2:=hcf 2 _ rfl
      have c3:=hcf 3 _ rfl
      have c4:=hcf 4 _ rfl
      refine ⟨by simp[cut],AE cf (by simp (disch:=omega) only[Bd,AN,AM,A8,A7,and_self]) (by simp only[Afs,AfZ,c0,c1,c2,c3,c4];rfl),k+1,hlt,by simp only;omega,.inl ⟨?_,by simp[sA,kA,CH]⟩⟩
      show (f (k+1)).2=_
      rw[t2];unfold FY;rw[if_pos he];simp[he,Bl,DJ,ndC,cut,hS1r]
     ·rw[if_neg he] at v2
      have zi:=i1.lt (.i p) he
      have yi:=i1.item p he
      have y0i:=i1.ne (a:=.n 0) (b:=.i p) (by show 0<8+S1.rows.length;omega) he (by simp)
      rw[k0] at y0i
      have y6i:=i1.ne (a:=.n 6) (b:=.i p) (by show 6<8+S1.rows.length;omega) he (by simp)
      have el:=Bu ((S1.itk p kids k).it p)
      simp(maxSteps:=1000000)(disch:=(try simp only[awL]);omega)only[awS,hrl,r0,t1,kk,v2,yi,el,g,nl,ndC,awH,↓awU,awY,↓reduceIte,↓reduceDIte,↓Qe,Qu,Qv,Qw,Qx,Qy,Qz,QA,QB,QC,QD,QE,QF,QG,QH,QI,QK]
      obtain ⟨cf,hcf⟩:=CZ [L (.n 0),Lk (.n 6),Lk (.i p),Hk.length,Hk.length+1,Hk.length+2] (by simp;omega)
      have c0:=hcf 0 _ rfl
      have c1:=hcf 1 _ rfl
      have c2:=hcf 2 _ rfl
      have c3:=hcf 3 _ rfl
      have c4:=hcf 4 _ rfl
      have c5:=hcf 5 _ rfl
      refine ⟨by simp[cut],AE cf (by simp (disch:=omega) only[Bd,AN,AM,A8,A7,and_self]) (by simp only[Afs,AfZ,c0,c1,c2,c3,c4,c5];rfl),k+1,hlt,by simp only;omega,.inl ⟨?_,by simp[sA,kA,CH]⟩⟩
      show (f (k+1)).2=_
      rw[t2];unfold FY;rw[if_neg he];simp[Bl,DJ,ndC,cut,hS1r]
    ·obtain rfl:k=kids.length:=by omega
     simp(maxSteps:=1000000)(disch:=(try simp only[awL]);omega)only[awS,nl,↓awU,awY,↓reduceIte,↓reduceDIte,↓Qe,Qu,Qv,Qw,Qx,Qy,Qz,QA,QB,QC,QD,QE,QF,QG,QH,QI,QK]
     first
     | exact RetI.unit
mutual
def nsz:Nd→Nat
 | .mk _ _ _ l=>1+Cc l
def Cc:List Nd→Nat
 | []=>0
 | n::r=>nsz n+Cc r
end
theorem FF (n:Nd):nsz n=1+Cc n.kids:=by cases n;rfl
theorem EM (n:Nd):0<nsz n:=by rw[FF];omega
theorem IG:∀ {l:List Nd} {n:Nd},n∈l→nsz n≤Cc l
 | [],n,h=>by cases h
 | x::r,n,h=>by
   rcases AfN.1 h with rfl | h
   ·rw[Cc];omega
   ·have:=IG h;rw[Cc];omega
theorem Fh:∀ l:List Nd,l.length≤Cc l
 | []=>Ad1 _
 | x::r=>by have:=Fh r;have:=EM x;rw[Cc,AdW];omega
mutual
def Gm:Nd→Prop
 | .mk k _ ks l=>(k=6→ks.length=l.length)∧(∀ s∈ks,s.length≤100000)∧Lj l
def Lj:List Nd→Prop
 | []=>True
 | n::r=>Gm n∧Lj r
end
theorem Wa (n:Nd):Gm n=((n.kind=6→n.keys.length=n.kids.length)∧(∀ s∈n.keys,s.length≤100000)∧Lj n.kids):=by cases n;rfl
theorem Li:∀ {l:List Nd},Lj l→∀ n∈l,Gm n
 | [],_,n,h=>by cases h
 | x::r,h,n,hn=>by
   rcases AfN.1 hn with rfl | hn
   ·exact h.1
   ·exact Li h.2 n hn
def partO (n:Nd) (path:List UInt8):List Pt:=if n.kind=6 then Bi n (path++[46]) else if n.kind=5 then [.l path n.kids] else [.c path (Bm n)]
theorem Na:∀ (l:List Nd) (front:List UInt8) (ks:List (List UInt8)),ks.length=l.length→D2 l front ks=(Af0 l.length).flatMap fun i=>partO (l.getD i noN) (front++ks.getD i [])
 | [],front,ks,h=>rfl
 | n::r,front,ks,h=>by
   cases ks with
   | nil=>simp at h
   | cons k kr =>
    have ih:=Na r front kr (by simpa using h)
    rw[Df,AdW,List.range_succ_eq_map,Aga,List.flatMap_map,List.tail_cons,ih]
    rfl
def Ly.kid (s:Ly) (l:List Nd) (front:List UInt8) (ks:List (List UInt8)) (k:Nat):Ly:=s.parts ((Af0 k).flatMap fun i=>partO (l.getD i noN) (front++ks.getD i []))
theorem Ly.kid_zero (s:Ly) (l:List Nd) (front:List UInt8) (ks:List (List UInt8)):s.kid l front ks 0=s:=rfl
theorem Ly.kid_succ (s:Ly) (l:List Nd) (front:List UInt8) (ks:List (List UInt8)) (k:Nat):s.kid l front ks (k+1)=(s.kid l front ks k).parts (partO (l.getD k noN) (front++ks.getD k [])):=by
 unfold Ly.kid
 rw[List.range_succ,List.flatMap_append,Ly.parts_app]
 simp
theorem Ly.kid_all (s:Ly) (l:List Nd) (front:List UInt8) (ks:List (List UInt8)) (h:ks.length=l.length):s.kid l front ks l.length=s.parts (D2 l front ks):=by rw[Na l front ks h];rfl
structure LyB (s:Ly) (B:Nat):Prop where
 paths:s.paths.length≤B
 lists:s.lists.length≤B
 rows:s.rows.length≤1000000000
 it:∀ p,(s.it p).length≤B
theorem LyB.single {s:Ly} {B:Nat} (h:LyB s B) (p:List UInt8) (x:Cel):LyB (s.single p x) (B+1):=by
 refine ⟨?_,Agt h.lists,by rw[s.single_rows];exact h.rows,fun q=>Agt (h.it q)⟩
 have:=h.paths
 show (if p∈s.paths then s.paths else s.paths++[p]).length≤B+1
 split
 ·omega
 ·simp;omega
theorem LyB.list {s:Ly} {B:Nat} (h:LyB s B) (p:List UInt8) (kids:List Nd):LyB (s.list p kids) (B+1+kids.length):=by
 have h1:=h.lists
 have h2:=h.paths
 unfold Ly.list
 split
 ·exact ⟨by omega,by omega,h.rows,fun q=>by have:=h.it q;omega⟩
 ·refine ⟨by show s.paths.length≤_;omega,?_,h.rows,fun q=>?_⟩
  ·show (if s.sv p=0 then s.lists++[p] else s.lists).length≤_
   split
   ·simp;omega
   ·omega
  ·show (Cg s.it p (s.it p++kids.map fun k=>((s.rows.length:Int)-1,k)) q).length≤_
   by_cases e:q=p
   ·subst e
    rw[B8,AdV,Agh]
    have:=h.it q
    omega
   ·rw[BN _ _ e]
    have:=h.it q
    omega
theorem LyB.mono {s:Ly} {B C:Nat} (h:LyB s B) (hc:B≤C):LyB s C:=⟨AfY h.paths hc,AfY h.lists hc,h.rows,fun p=>AfY (h.it p) hc⟩
mutual
theorem LyB.parts:∀ (n:Nd) (front:List UInt8) {s:Ly} {B:Nat},LyB s B→LyB (s.parts (Bi n front)) (B+nsz n)
 | .mk k t ks l,front,s,B,h=>by
   have:=LyB.partsL l front ks h
   exact this.mono (by rw[nsz];omega)
theorem LyB.partsL:∀ (l:List Nd) (front:List UInt8) (ks:List (List UInt8)) {s:Ly} {B:Nat},LyB s B→LyB (s.parts (D2 l front ks)) (B+Cc l)
 | [],front,ks,s,B,h=>h
 | n::r,front,ks,s,B,h=>by
   rw[Df,Ly.parts_app]
   have h1:LyB (s.parts (if n.kind=6 then Bi n (front++ks.headD []++[46]) else if n.kind=5 then [.l (front++ks.headD []) n.kids] else [.c (front++ks.headD []) (Bm n)])) (B+nsz n):=by
    split
    ·exact LyB.parts n _ h
    ·split
     ·rw[Ly.parts_one]
      have:=Fh n.kids
      have e:=FF n
      exact (h.list _ n.kids).mono (by omega)
     ·rw[Ly.parts_one]
      have:=EM n
      exact (h.single _ _).mono (by omega)
   have h2:=LyB.partsL r front ks.tail h1
   exact h2.mono (by rw[Cc];omega)
end
theorem LyB.partO {s:Ly} {B:Nat} (h:LyB s B) (n:Nd) (path:List UInt8):LyB (s.parts (partO n path)) (B+nsz n):=by
 unfold Go.Proofs.YtmidaophnbdcdaaGreatDoor.partO
 split
 ·exact LyB.parts n _ h
 ·split
  ·rw[Ly.parts_one]
   have:=Fh n.kids
   have e:=FF n
   exact (h.list _ n.kids).mono (by omega)
  ·rw[Ly.parts_one]
   have:=EM n
   exact (h.single _ _).mono (by omega)
def Sl (l:List Nd) (k:Nat):Nat:=Cc (l.take k)
theorem Nh {l:List Nd} {k:Nat} (h:k<l.length):Sl l (k+1)=Sl l k+nsz (l.getD k noN):=by
 have app:∀ (a b:List Nd),Cc (a++b)=Cc a+Cc b:=by
  intro a b
  induction a with
  | nil=>simp[Cc]
  | cons x r ih=>simp only[Agd,Cc,ih];omega
 unfold Sl
 rw[Agp,AdT h,app,AcB,AdT h]
 simp[Cc]
theorem Y5 (l:List Nd):∀ k,Sl l k≤Cc l:=by
 intro k
 have app:∀ (a b:List Nd),Cc (a++b)=Cc a+Cc b:=by
  intro a b
  induction a with
  | nil=>simp[Cc]
  | cons x r ih=>simp only[Agd,Cc,ih];omega
 have:=app (l.take k) (l.drop k)
 rw[List.take_append_drop] at this
 unfold Sl
 omega
theorem LyB.kid {s:Ly} {B:Nat} (h:LyB s B) (l:List Nd) (front:List UInt8) (ks:List (List UInt8)):∀ k,k≤l.length→LyB (s.kid l front ks k) (B+Sl l k)
 | 0,_=>by rw[Ly.kid_zero];exact h.mono (by omega)
 | k+1,hk=>by
   rw[Ly.kid_succ,Nh (by omega),←Nat.add_assoc]
   exact (LyB.kid h l front ks k (by omega)).partO _ _
theorem Ly.kid_rows (s:Ly) (l:List Nd) (front:List UInt8) (ks:List (List UInt8)) (k:Nat):(s.kid l front ks k).rows.length=s.rows.length:=s.parts_rows _
end Go.Proofs.YtmidaophnbdcdaaGreatDoor
namespace Go.Proofs.YtmidaophnbdcdaaGreatDoor
open Go Go.Proofs Go.Abs
variable {G:Ad}
def Hd:List UInt8:=[116,114,117,101]
def Hf:List UInt8:=[102,97,108,115,101]
def DC (k:Int) (t:List UInt8):Bool:=if k=2 then decide (t=Hd∨t=Hf) else if k=3 then Num.decOk t else if k=4 then Bb t else decide (t=[])
theorem On (hT:HT G) (hG:Num.HG G) (n:Nd) (hs:n.text.length≤1000000000):Ctr TP G 73 [.d (NdD n)] [] (.d (.bool (DC n.kind n.text))) []:=by
 obtain ⟨k,t,ks,l⟩:=n
 obtain ⟨r,hr⟩:∃ r,r=DC k t:=⟨_,rfl⟩
 show Ctr _ _ _ _ _ (.d (.bool (DC k t))) _
 replace hs:t.length≤1000000000:=hs
 rw[←hr]
 unfold DC at hr
 refine Ctr.pure (M:=M0) Am Tryz.func73 rfl go73 ?_
 by_cases k2:k=2
 ·subst k2
  rw[if_pos rfl] at hr
  simp(maxSteps:=1000000)(disch:=(try simp only[awL]);omega)only[awS,ndC,Tryz.f73,↓awU,awY,↓reduceIte,↓reduceDIte,↓Qe,Qu,Qv,Qw,Qx,Qy,Qz,QA,QB,QC,QD,QE,QF,QG,QH,QI,QK]
  rw[hr]
  unfold Hd Hf
  refine ⟨fun h1=>?_,fun h1=>?_⟩
  ·exact decide_eq_decide.2 ⟨fun h2=>.inr h2,fun h2=>h2.resolve_left h1⟩
  ·exact (decide_eq_true (Or.inl h1)).symm
 ·rw[if_neg k2] at hr
  by_cases k3:k=3
  ·subst k3
   rw[if_pos rfl] at hr
   subst hr
   simp(maxSteps:=1000000)(disch:=(try simp only[awL]);omega)only[awS,ndC,Tryz.f73,↓awU,awY,↓reduceIte,↓reduceDIte,↓Qe,Qu,Qv,Qw,Qx,Qy,Qz,QA,QB,QC,QD,QE,QF,QG,QH,QI,QK]
   refine Ab.pure (Num.decimalF_spec hG t (by omega)) ?_
   cases Num.decOk t
   ·simp(maxSteps:=1000000)(disch:=(try simp only[awL]);omega)only[awS,Num.Zf,↓awU,awY,↓reduceIte,↓reduceDIte,↓Qe,Qu,Qv,Qw,Qx,Qy,Qz,QA,QB,QC,QD,QE,QF,QG,QH,QI,QK]
   ·simp(maxSteps:=1000000)(disch:=(try simp only[awL]);omega)only[awS,Num.Frac,↓awU,awY,↓reduceIte,↓reduceDIte,↓Qe,Qu,Qv,Qw,Qx,Qy,Qz,QA,QB,QC,QD,QE,QF,QG,QH,QI,QK]
  ·rw[if_neg k3] at hr
   by_cases k4:k=4
   ·subst k4
    rw[if_pos rfl] at hr
    subst hr
    simp(maxSteps:=1000000)(disch:=(try simp only[awL]);omega)only[awS,ndC,Tryz.f73,↓awU,awY,↓reduceIte,↓reduceDIte,↓Qe,Qu,Qv,Qw,Qx,Qy,Qz,QA,QB,QC,QD,QE,QF,QG,QH,QI,QK]
    refine Ab.pure (LG hT t hs) ?_
    simp(maxSteps:=1000000)(disch:=(try simp only[awL]);omega)only[awS,↓awU,awY,↓reduceIte,↓reduceDIte,↓Qe,Qu,Qv,Qw,Qx,Qy,Qz,QA,QB,QC,QD,QE,QF,QG,QH,QI,QK]
   ·rw[if_neg k4] at hr
    simp(maxSteps:=1000000)(disch:=(try simp only[awL]);omega)only[awS,ndC,k2,k3,k4,Tryz.f73,↓awU,awY,↓reduceIte,↓reduceDIte,↓Qe,Qu,Qv,Qw,Qx,Qy,Qz,QA,QB,QC,QD,QE,QF,QG,QH,QI,QK]
    exact hr.symm
end Go.Proofs.YtmidaophnbdcdaaGreatDoor
namespace Go.Proofs.YtmidaophnbdcdaaGreatDoor.Dst
def c1 (a b:Int):Nat:=if a=b then 0 else 1
end Go.Proofs.YtmidaophnbdcdaaGreatDoor.Dst
