/-
  Contracts of the functions, one after another.
-/
import Derived.Test.YtmidaophnbdcdaaGreatDoorMb1
set_option linter.all false
open Go.Abs renaming A6->HW,Dz->BW,Cm->SW,Am->AW,Bd->sA,A4->kZ
open Go.Proofs.Tryz renaming prog->TP
set_option maxHeartbeats 4000000
set_option maxRecDepth 1000000
open Go.Abs renaming Ef->Qe
open Nat renaming reduceAdd->Qu,reduceSub->Qv,reduceMul->Qw,reducePow->Qx,reduceDiv->Qy,reduceMod->Qz,reduceEqDiff->QI,reduceBEq->QK
open Int renaming reduceAdd->QA,reduceSub->QB,reduceMul->QC,reducePow->QD,reduceNeg->QE,reduceToNat->QF,reduceLT->QG,reduceLE->QH
open List renaming take_of_length_le->AbH,getD_eq_getElem?_getD->AbM,replicate->AbR,getElem?_append_right->AbV,length_eq_zero_iff->AdC,set_cons_zero->AdD,set_append_right->AdF,getElem?_append_left->AdH,replicate_succ->AdI,mem_cons->AdJ,append_assoc->AdM,drop_of_length_le->AdN,set_cons_succ->AdS,getElem?_drop->AdU,drop_eq_getElem_cons->AdW,not_mem_nil->AdY,getElem?_eq_none->Ad3,getElem?_take->Ad7,take_length->Aeb,cons_append->Aec,take_left'->Aeg,foldl->Aeh,nodup_nil->Aek
open Nat renaming mul_comm->AbO,mul_le_mul_right->AbP,mul_assoc->AbQ,add_mul->AbS,mod_lt->AbT,mul_add->AbU,reduceMod->AbY,reduceDiv->AbZ,pow_succ->Ac6,mod_add_div->Ac7,mod_eq_of_lt->Ac8,pow_le_pow_right->Adc,div_div_eq_div_mul->Adg,div_lt_iff_lt_mul->Adh,add_zero->Adt,mul_le_mul_left->Adu,le_refl->Ady,div_eq_of_lt->Adz,lt_of_lt_of_le->AdA,add_sub_cancel_left->AdB,mul_zero->AdE,one_mul->AdG,two_pow_pos->AdK,sub_self->AdL,gcd->AdO,log2_lt->AdP,add_mul_div_left->AdQ,mul_lt_mul_of_pos_right->AdR,eq_zero_or_pos->AdT,add_mul_mod_self_left->AdV,pow_add->AdX,le_of_lt->AdZ,zero_add->Ad0,lt_trans->Ad1,gcd_comm->Ad2,le_div_iff_mul_le->Ad4,mul_one->Ad5,add_sub_cancel->Ad6,mul_right_comm->Ad8,lt_of_le_of_lt->Ad9,le_trans->Aea,mul_add_div->Aed,div_le_self->Aee,min_eq_left->Aef,mul_le_mul->Aej,add_comm->Ael,zero_mul->Aem,zero_le->Aen,pow_pos->Aeo
open Int renaming ofNat_tdiv->Aei
namespace Go.Proofs.YtmidaophnbdcdaaGreatDoor
namespace Num
open Go Go.Proofs Go.Abs
variable {G:Ah}
def HM (a b:Nat) (ha:(toW a).length<2^40) (hb:(toW b).length<2^40) :
  Ctr TP G 137 [.d (W (toW a)),.d (W (toW b))] [] (.d (W (toW (a+b)))) []:=by
 have da:=DL a;have db:=DL b;have va:=Dl a;have vb:=Dl b;generalize toW a=l at *;generalize toW b=m at *;refine Ctr.pure (M:=M0) Al Tryz.func137 rfl AcI ?_;simp(disch:=(try simp only[Ad]);omega)only[Tryz.f137,↓Ac,Ae,↓reduceIte,↓reduceDIte,↓Qe,Qu,Qv,Qw,Qx,Qy,Qz,QA,QB,QC,QD,QE,QF,QG,QH,QI,QK];refine As.inv (α:=Nat × List Nat × Nat) (fun x=>max l.length m.length-x.1) (fun x=>mkS 45 [(0,.d (W l)),(1,.d (W m)),(5,.lsl 0 1 0 x.1),(6,.d (.int .u32 x.2.2)),(20,.d (.int .i64 (max l.length m.length:Nat))),(21,.d (.int .i64 x.1))])
  (fun x=>[.row false (AY .u32 x.2.1)]) (fun x=>x.1<=max l.length m.length/\x.2.1.length=x.1/\Dig x.2.1/\x.2.2<=1/\val x.2.1+B^x.1*x.2.2=val (l.take x.1)+val (m.take x.1)) (0,[],0) ⟨by simp,rfl,by simp[Dig],by simp,by simp[val]⟩ ?_ ?_
 ·refine ⟨[some 0],rfl,by simp,by simp[mkS,SW,AW],by simp[HW,BW]⟩
 rintro ⟨k,out,c⟩ ⟨hk,ho,hd,hc,hv⟩;simp only at hk ho hd hc hv;simp only[mkS,Aeh,AbR,AdD,AdS];simp(disch:=(try simp only[Ad]);omega)only[↓Ac,Ae,↓reduceIte,↓reduceDIte,↓Qe,Qu,Qv,Qw,Qx,Qy,Qz,QA,QB,QC,QD,QE,QF,QG,QH,QI,QK];refine ⟨fun h=>?_,fun h=>?_⟩
 ·refine Ab.pure (Rm l k) ?_;simp(disch:=(try simp only[Ad]);omega)only[↓Ac,Ae,↓reduceIte,↓reduceDIte,↓Qe,Qu,Qv,Qw,Qx,Qy,Qz,QA,QB,QC,QD,QE,QF,QG,QH,QI,QK];refine Ab.pure (Rm m k) ?_;simp(disch:=(try simp only[Ad]);omega)only[↓Ac,Ae,↓reduceIte,↓reduceDIte,↓Qe,Qu,Qv,Qw,Qx,Qy,Qz,QA,QB,QC,QD,QE,QF,QG,QH,QI,QK];refine Ab.pure (AaW _ _ _ (da.getD k) (db.getD k) hc) ?_;simp(disch:=(try simp only[Ad]);omega)only[↓Ac,Ae,↓reduceIte,↓reduceDIte,↓Qe,Qu,Qv,Qw,Qx,Qy,Qz,QA,QB,QC,QD,QE,QF,QG,QH,QI,QK];refine ⟨(k+1,out++[(l.getD k 0+m.getD k 0+c) % B],(l.getD k 0+m.getD k 0+c) / B),⟨by omega,by simp[ho],hd.append ?_,?_,?_⟩,by simp only;omega,[some 2],rfl,by simp,?_,?_⟩;·intro x hx;simp at hx;subst hx;exact AbT _ (by decide)
  ·have h1:=da.getD k;have h2:=db.getD k;simp only[B] at *;omega
  ·have e1:val (l.take (k+1))=val (l.take k)+B^k*l.getD k 0:=BE l k;have e2:val (m.take (k+1))=val (m.take k)+B^k*m.getD k 0:=BE m k;simp only[e1,e2,Cp,ho,val,AdE,Adt];have e3:=Ac7 (l.getD k 0+m.getD k 0+c) B;have e4:B^(k+1)=B^k*B:=Ac6 ..;rw[e4,AbQ,Nat.add_assoc,<-AbU,e3];simp only[AbU];omega
  ·simp[SW,AW]
  simp[HW,BW,nats_push]
 have ek:k=max l.length m.length:=by omega
 have e:(D.sl (k+1) false (AY .u32 (out++[c])))=W (out++[c]):=by simp[W,ho]
 have hv':val (out++[c])=a+b:=by rw[AbH (by omega),AbH (by omega)] at hv;rw[Cp,ho];simp[val,hv,va,vb]
 rw[e];refine Ab.frozen (Ez _ (hd.append ?_) ?_) ?_;·intro x hx;simp at hx;subst hx;simp only[B];omega
 ·simp[ho];omega
 rw[hv'];simp(disch:=(try simp only[Ad]);omega)only[↓Ac,Ae,↓reduceIte,↓reduceDIte,↓Qe,Qu,Qv,Qw,Qx,Qy,Qz,QA,QB,QC,QD,QE,QF,QG,QH,QI,QK]
def CM (a b:Nat) (ha:(toW a).length<2^40) (hb:(toW b).length<2^40) :
  Ctr TP G 136 [.d (W (toW a)),.d (W (toW b))] [] (.d (W (toW (a*b)))) []:=by
 have da:=DL a;have db:=DL b;have va:=Dl a;have vb:=Dl b;generalize toW a=l at *;generalize toW b=m at *;refine Ctr.pure (M:=M0) Al Tryz.func136 rfl AcJ ?_;simp(disch:=(try simp only[Ad]);omega)only[Tryz.f136,↓Ac,Ae,↓reduceIte,↓reduceDIte,↓Qe,Qu,Qv,Qw,Qx,Qy,Qz,QA,QB,QC,QD,QE,QF,QG,QH,QI,QK];refine As.inv (α:=Nat × List Nat) (fun x=>l.length-x.1) (fun x=>mkS 67 [(0,.d (W l)),(1,.d (W m)),(5,.lsl 0 1 0 (l.length+m.length)),(17,.d (W l)),(18,.d (.int .i64 l.length)),(19,.d (.int .i64 x.1))])
  (fun x=>[.row false (AY .u32 x.2)]) (fun x=>x.1<=l.length/\x.2.length=l.length+m.length/\Dig x.2/\val x.2=val (l.take x.1)*b/\∀ p,x.1+m.length<=p->x.2.getD p 0=0) (0,AbR (l.length+m.length) 0)
  ⟨by simp,by simp,Dig.zeros _,by simp[VC,val],fun p _=>by simp only[AbM,List.getElem?_replicate];split<;>rfl⟩ ?_ ?_
 ·refine ⟨[some 0],rfl,by simp,by simp[mkS,SW,AW],by simp[HW,BW]⟩
 rintro ⟨i,o⟩ ⟨hi,ho,hd,hv,hz⟩;simp only at hi ho hd hv hz;simp only[mkS,Aeh,AbR,AdD,AdS];simp(disch:=(try simp only[Ad]);omega)only[↓Ac,Ae,↓reduceIte,↓reduceDIte,↓Qe,Qu,Qv,Qw,Qx,Qy,Qz,QA,QB,QC,QD,QE,QF,QG,QH,QI,QK];refine ⟨fun h=>?_,fun h=>?_⟩
 ·refine As.inv (α:=Nat × List Nat × Nat) (fun x=>m.length-x.1) (fun x=>mkS 67 [(0,.d (W l)),(1,.d (W m)),(5,.lsl 0 1 0 (l.length+m.length)),(17,.d (W l)),(18,.d (.int .i64 l.length)),(19,.d (.int .i64 i)),
    (6,.d (.int .i64 i)),(7,.d (.int .u32 (l.getD i 0:Nat))),(8,.d (.int .u64 x.2.2)),(24,.d (W m)),(25,.d (.int .i64 m.length)),(26,.d (.int .i64 x.1))])
   (fun x=>[.row false (AY .u32 x.2.1)]) (fun x=>x.1<=m.length/\x.2.1.length=l.length+m.length/\Dig x.2.1/\x.2.2<B/\val x.2.1+B^(i+x.1)*x.2.2=val o+B^i*(l.getD i 0*val (m.take x.1))/\∀ p,i+m.length<=p->x.2.1.getD p 0=0) (0,o,0)
   ⟨by simp,ho,hd,by simp[B],by simp[val],hz⟩ ?_ ?_
  ·refine ⟨[some 0],rfl,by simp,by simp[mkS,SW,AW],by simp[HW,BW]⟩
  rintro ⟨j,q,c⟩ ⟨hj,hq,hdq,hc,hvq,hzq⟩;simp only at hj hq hdq hc hvq hzq;replace hv:=Hid.mk hv;replace hvq:=Hid.mk hvq;have p1:=J8 (da.getD i) (db.getD j);have p2:=hdq.getD (i+j);have p3:c<4294967296:=hc;have p4:q.getD (i+j) 0<4294967296:=p2;have p5:l.getD i 0<4294967296:=da.getD i;have p6:m.getD j 0<4294967296:=db.getD j;simp only[mkS,Aeh,AbR,AdD,AdS];simp(disch:=(try simp only[Ad]);omega)only[↓Ac,Ae,↓reduceIte,↓reduceDIte,↓Qe,Qu,Qv,Qw,Qx,Qy,Qz,QA,QB,QC,QD,QE,QF,QG,QH,QI,QK];refine ⟨fun h1=>?_,fun h1=>?_⟩
  ·simp only[IX,nats_set];have hsl:c+(l.getD i 0*m.getD j 0+q.getD (i+j) 0)<B*B:=(by simp only[B];omega)
   generalize hg:c+(l.getD i 0*m.getD j 0+q.getD (i+j) 0)=s at hsl ⊢;refine ⟨(j+1,q.set (i+j) (s % B),s / B),⟨by simp only;omega,by simp[hq],hdq.set (AbT _ (by decide)),(Adh (by decide)).2 hsl,Tm (by omega) hg.symm hvq.out,fun p hp=>?_⟩,
    by simp only;omega,[some 0],rfl,by simp,by simp[SW,AW,B],by simp[HW,BW,IX,nats_set,B]⟩
   rw[KM (by omega)];exact hzq p hp
  have ej:j=m.length:=by omega
  have hvq:=hvq.out;rw[ej,AbH (Ady _),vb] at hvq;refine ⟨(i+1,q.set (i+m.length) c),⟨by simp only;omega,by simp[hq],hdq.set hc,VJ (by omega) (hzq _ (Ady _)) hvq hv.out,fun p hp=>?_⟩,
   by simp only;omega,[some 0],rfl,by simp,by simp[SW,AW],by simp[HW,BW]⟩
  rw[KM (by omega)];exact hzq p (by omega)
 have e:(D.sl (l.length+m.length) false (AY .u32 o))=W o:=by simp[W,ho]
 have ei:i=l.length:=by omega
 rw[e];refine Ab.frozen (Ez _ hd ?_) ?_;·omega
 rw[hv,ei,AbH (Ady _),va];simp(disch:=(try simp only[Ad]);omega)only[↓Ac,Ae,↓reduceIte,↓reduceDIte,↓Qe,Qu,Qv,Qw,Qx,Qy,Qz,QA,QB,QC,QD,QE,QF,QG,QH,QI,QK]
def Ada (h x d:Nat) (hh:h<d) (hd:d<B) (hx:x<B):Ctr TP G 223 [.d (.int .u32 h),.d (.int .u32 x),.d (.int .u32 d)] []
  (.d (.tup [.int .u32 ((h*B+x) / d:Nat),.int .u32 ((h*B+x) % d:Nat)])) []:=by
 refine Ctr.pure (M:=M0) Al Tryz.func223 rfl Ab3 ?_;have hq:=KP hh hx;simp only[B] at *;simp(disch:=(try simp only[Ad]);omega)only[Tryz.f223,↓Ac,Ae,↓reduceIte,↓reduceDIte,↓Qe,Qu,Qv,Qw,Qx,Qy,Qz,QA,QB,QC,QD,QE,QF,QG,QH,QI,QK];refine ⟨by rfl,?_⟩;have hm:(h*4294967296+x) % d<d:=AbT _ (by omega);rw[XO (by omega) hx,<-Aei,<-Int.ofNat_tmod,AbF,IX,IX,Ac8 (a:=(h*4294967296+x) / d) (by omega),Ac8 hq,Ac8 (by omega)]
def EE (n:Nat) (hn:n<18446744073709551616):Ctr TP G 138 [.d (.int .u64 n)] [] (.d (W (toW n))) []:=by
 refine Ctr.pure (M:=M0) Al Tryz.func138 rfl AcH ?_;simp(disch:=(try simp only[Ad]);omega)only[Tryz.f138,↓Ac,Ae,↓reduceIte,↓reduceDIte,↓Qe,Qu,Qv,Qw,Qx,Qy,Qz,QA,QB,QC,QD,QE,QF,QG,QH,QI,QK];refine Ab.frozenE (Ez [n % B,n / B] ?_ (by simp)) ?_ ?_
 ·intro x hx;simp only[AdJ,AdY,or_false] at hx;rcases hx with rfl | rfl
  ·exact AbT _ (by decide)
  simp only[B];omega
 ·rw[IX];rfl
 have:val [n % B,n / B]=n:=by simp only[val,AdE,Adt];exact Ac7 n B
 rw[this];simp(disch:=(try simp only[Ad]);omega)only[↓Ac,Ae,↓reduceIte,↓reduceDIte,↓Qe,Qu,Qv,Qw,Qx,Qy,Qz,QA,QB,QC,QD,QE,QF,QG,QH,QI,QK]
def ZY:List UInt8:=[0,1,2,2,3,3,3,3,4,4,4,4,4,4,4,4,5,5,5,5,5,5,5,5,5,5,5,5,5,5,5,5,6,6,6,6,6,6,6,6,6,6,6,6,6,6,6,6,6,6,6,6,6,6,6,6,6,6,6,6,6,6,6,6,7,7,7,7,7,7,7,7,7,7,7,7,7,7,7,7,7,7,7,7,7,7,7,7,7,7,7,7,7,7,7,7,7,7,7,7,7,7,7,7,7,7,7,7,7,7,7,7,7,7,7,7,7,7,7,7,7,7,7,7,7,7,7,7,8,8,8,8,8,8,8,8,8,8,8,8,8,8,8,8,8,8,8,8,8,8,8,8,8,8,8,8,8,8,8,8,8,8,8,8,8,8,8,8,8,8,8,8,8,8,8,8,8,8,8,8,8,8,8,8,8,8,8,8,8,8,8,8,8,8,8,8,8,8,8,8,8,8,8,8,8,8,8,8,8,8,8,8,8,8,8,8,8,8,8,8,8,8,8,8,8,8,8,8,8,8,8,8,8,8,8,8,8,8,8,8,8,8,8,8,8,8,8,8,8,8,8,8,8,8,8,8]
def MJ (s:ByteArray) (hs:s.data.toList=ZY):s.size=256/\∀ i,i<256->Hl s i=((if i=0 then 0 else i.log2+1:Nat):Int):=by
 refine ⟨by rw[ByteArray.size,<-Array.length_toList,hs];decide +kernel,fun i hi=>?_⟩;have:∀ i:Fin 256,((ZY.getD i.val 0).toNat:Int)=((if i.val=0 then 0 else i.val.log2+1:Nat):Int):=by decide +kernel
 unfold Hl;rw[hs];exact this ⟨i,hi⟩
def HB {s:ByteArray} (h:s.data.toList=ZY):s.size=256:=(MJ s h).1
def Ki {s:ByteArray} {i:Int} (h:s.data.toList=ZY) (h0:0<=i) (h1:i<256):Hl s i.toNat=((if i.toNat=0 then 0 else i.toNat.log2+1:Nat):Int):=(MJ s h).2 _ (by omega)
def AbK (n:Nat) (hn:n<B):Ctr TP G 224 [.d (.int .u32 n)] [] (.d (.int .i64 (if n=0 then 0 else n.log2+1:Nat))) []:=by
 refine Ctr.pure (M:=M0) Al Tryz.func224 rfl Ab2 ?_;simp only[B] at *;have l24:(256:Int)<=n / 65536->n≠0/\(n / 65536 / 256)≠0/\n.log2=24+(n / 65536 / 256).log2:=fun h=>by
  have h1:n / 2^24≠0:=by omega
  have:=Iy h1;rw[show (2:Nat)^24=65536*256 from rfl,<-Adg] at this;exact ⟨by omega,by omega,this⟩
 have l16:(65536:Int)<=n->n≠0/\(n / 65536)≠0/\n.log2=16+(n / 65536).log2:=fun h=>by
  have h1:n / 2^16≠0:=by omega
  exact ⟨by omega,by omega,Iy h1⟩
 have l8:(256:Int)<=n->n≠0/\(n / 256)≠0/\n.log2=8+(n / 256).log2:=fun h=>by
  have h1:n / 2^8≠0:=by omega
  exact ⟨by omega,by omega,Iy h1⟩
 simp(disch:=(try simp only[Ad]);omega)only[Tryz.f224,↓Ac,Ae,↓reduceIte,↓reduceDIte,↓Qe,Qu,Qv,Qw,Qx,Qy,Qz,QA,QB,QC,QD,QE,QF,QG,QH,QI,QK];refine ⟨fun h1=>⟨fun h2=>?_,fun h2=>?_⟩,fun h1=>⟨fun h2=>?_,fun h2=>?_⟩⟩;·obtain ⟨a,b,c⟩:=l24 h2;have h8:=(AdP (k:=8) b).2 (by omega);rw[HB (by decide +kernel),Ki (by decide +kernel) (by omega) (by omega),show ((n:Int) / 65536 / 256).toNat=n / 65536 / 256 by omega,if_neg b];generalize hz:(n / 65536 / 256).log2+1=z;rw[wr_i64 (x:=(z:Int)) (by omega) (by omega),wr_i64 (by omega) (by omega)];omega
 ·obtain ⟨a,b,c⟩:=l16 h1;have h8:=(AdP (k:=8) b).2 (by omega);rw[HB (by decide +kernel),Ki (by decide +kernel) (by omega) (by omega),show ((n:Int) / 65536).toNat=n / 65536 by omega,if_neg b];generalize hz:(n / 65536).log2+1=z;rw[wr_i64 (x:=(z:Int)) (by omega) (by omega),wr_i64 (by omega) (by omega)];omega
 ·obtain ⟨a,b,c⟩:=l8 h2;have h8:=(AdP (k:=8) b).2 (by omega);rw[HB (by decide +kernel),Ki (by decide +kernel) (by omega) (by omega),show ((n:Int) / 256).toNat=n / 256 by omega,if_neg b];generalize hz:(n / 256).log2+1=z;rw[wr_i64 (x:=(z:Int)) (by omega) (by omega),wr_i64 (by omega) (by omega)];omega
 rw[HB (by decide +kernel),(MJ _ (by decide +kernel)).2 n (by omega)];have h8:(if n=0 then 0 else n.log2+1:Nat)<=8:=by
  split;·omega
  rename_i h;have:=(AdP (k:=8) h).2 (by omega);omega
 generalize (if n=0 then 0 else n.log2+1:Nat)=z at *;rw[wr_i64 (x:=(z:Int)) (by omega) (by omega),wr_i64 (by omega) (by omega)];omega
def lz32 (n:Nat) (h0:n≠0) (hn:n<B):Ctr TP G 204 [.d (.int .u32 n)] [] (.d (.int .i64 (31-n.log2:Nat))) []:=by refine Ctr.pure (M:=M0) Al Tryz.func204 rfl Ab9 ?_;have h8:=(AdP (k:=32) h0).2 hn;simp(disch:=(try simp only[Ad]);omega)only[Tryz.f204,↓Ac,Ae,↓reduceIte,↓reduceDIte,↓Qe,Qu,Qv,Qw,Qx,Qy,Qz,QA,QB,QC,QD,QE,QF,QG,QH,QI,QK];refine Ab.pure (AbK n hn) ?_;rw[if_neg h0];simp(disch:=(try simp only[Ad]);omega)only[↓Ac,Ae,↓reduceIte,↓reduceDIte,↓Qe,Qu,Qv,Qw,Qx,Qy,Qz,QA,QB,QC,QD,QE,QF,QG,QH,QI,QK]
def Tz (a d:Nat) (hd:0<d) (hdB:d<B) (ha:(toW a).length<2^40) :
  Ctr TP G 203 [.d (W (toW a)),.d (.int .u32 d)] [] (.d (.tup [W (toW (a / d)),.int .u32 (a % d:Nat)])) []:=by
 have da:=DL a;have va:=Dl a;generalize toW a=l at *;refine Ctr.pure (M:=M0) Al Tryz.func203 rfl Aca ?_;simp(disch:=(try simp only[Ad]);omega)only[Tryz.f203,↓Ac,Ae,↓reduceIte,↓reduceDIte,↓Qe,Qu,Qv,Qw,Qx,Qy,Qz,QA,QB,QC,QD,QE,QF,QG,QH,QI,QK];refine As.fr 67 (α:=Nat × List Nat × Nat) (fun x=>x.1) (fun x=>[(7,.d (.int .u32 x.2.2)),(8,.d (.int .i64 ((x.1:Int)-1)))])
  (fun x=>[.row false (AY .u32 (AbR x.1 0++x.2.1))]) (fun x=>x.1<=l.length/\x.2.1.length+x.1=l.length/\Dig x.2.1/\x.2.2<d/\val (l.drop x.1)=val x.2.1*d+x.2.2) (l.length,[],0) ⟨by simp,by simp,by simp[Dig],hd,by simp[val]⟩ ?_ ?_
 ·exact ⟨[some 0],rfl,by simp,by simp[sA,kZ,SW,AW],by simp[HW,BW,SW,AW]⟩
 rintro ⟨k,q,r⟩ ⟨hk,hq,hdq,hr,hv⟩;simp only at hk hq hdq hr hv;rcases k with _ | k
 ·simp(disch:=(try simp only[Ad]);omega)only[↓Ac,Ae,↓reduceIte,↓reduceDIte,↓Qe,Qu,Qv,Qw,Qx,Qy,Qz,QA,QB,QC,QD,QE,QF,QG,QH,QI,QK];simp only[Adt] at hq;rw[List.drop_zero,va] at hv;have e:D.sl l.length false (AY .u32 ([]++q))=W q:=by simp[W,hq]
  refine Ab.frozenE (Ez q hdq (by omega)) (by rw[<-e];simp[AbR]) ?_;have e1:a / d=val q:=by rw[hv,AbO];rw[Aed hd,Adz hr];rfl
  have e2:a % d=r:=by rw[hv,AbO,Nat.mul_add_mod,Ac8 hr]
  rw[e1,e2];simp(disch:=(try simp only[Ad]);omega)only[↓Ac,Ae,↓reduceIte,↓reduceDIte,↓Qe,Qu,Qv,Qw,Qx,Qy,Qz,QA,QB,QC,QD,QE,QF,QG,QH,QI,QK]
 simp(disch:=(try simp only[Ad]);omega)only[↓Ac,Ae,↓reduceIte,↓reduceDIte,↓Qe,Qu,Qv,Qw,Qx,Qy,Qz,QA,QB,QC,QD,QE,QF,QG,QH,QI,QK];refine Ab.pure (Ada r _ d hr hdB (da.getD k)) ?_;simp(disch:=(try simp only[Ad]);omega)only[↓Ac,Ae,↓reduceIte,↓reduceDIte,↓Qe,Qu,Qv,Qw,Qx,Qy,Qz,QA,QB,QC,QD,QE,QF,QG,QH,QI,QK];refine ⟨(k,(r*B+l.getD k 0) / d::q,(r*B+l.getD k 0) % d),⟨by simp only;omega,by simp;omega,fun x hx=>?_,AbT _ hd,Ty (by omega) hv⟩,by simp only;omega,
  [some 0],rfl,by simp,by simp[SW,AW],by simp[HW,BW,UX]⟩
 rcases AdJ.1 hx with rfl | hx
 ·exact KP hr (da.getD k)
 exact hdq x hx
end Num
namespace Num
open Go Go.Proofs Go.Abs
def Yd {U V P top u3 lu d1 d2 lv g:Nat} (hU:U=(top*B+u3)*P+lu) (hlu:lu<P) (hV:V=(d1*B+d2)*P+lv) (hu3:u3<B) (hUV:U<V*B)
  (hg:top<(g+1)*d1\/g+1=B):U<(g+1)*V:=by
 rcases hg with hg | hg
 ·have h1:(top+1)*(B*P)<=((g+1)*d1)*(B*P):=AbP _ hg;have h2:U<(top+1)*(B*P):=by
   have h3:(u3+1)*P<=B*P:=AbP _ hu3;rw[hU,AbS,AbS,AdG,AbQ];rw[AbS,AdG] at h3;omega
  have h4:((g+1)*d1)*(B*P)<=(g+1)*V:=by rw[AbQ];refine Adu _ ?_;rw[hV,AbS,<-AbQ];omega
  omega
 rw[hg,AbO];exact hUV
def Z1 {U V P top u3 lu d1 d2 lv g rest:Nat} (hU:U=(top*B+u3)*P+lu) (hlu:lu<P) (hV:V=(d1*B+d2)*P+lv)
  (hr:g*d1+rest=top) (hgt:rest*B+u3<g*d2):U<g*V:=by
 have h1:U<(top*B+u3+1)*P:=by rw[hU,AbS (top*B+u3),AdG];omega
 have h2:(top*B+u3+1)*P<=(g*(d1*B+d2))*P:=by refine AbP _ ?_;rw[<-hr,AbU,AbS,AbQ];omega
 have h3:(g*(d1*B+d2))*P<=g*V:=by rw[AbQ];refine Adu _ ?_;omega
 omega
def Z0 {U V P top u3 lu d1 d2 lv g rest:Nat} (hU:U=(top*B+u3)*P+lu) (hV:V=(d1*B+d2)*P+lv) (hlv:lv<P) (hd1:1<=d1) (hd2:d2<B) (hg:g<B)
  (hr:g*d1+rest=top) (hle:B<=rest\/g*d2<=rest*B+u3):g*V<U+V:=by
 have hle:g*d2<=rest*B+u3:=by
  rcases hle with h | h
  ·have h1:g*d2<=B*B:=Aej (AdZ hg) (AdZ hd2);have h2:B*B<=rest*B:=AbP _ h;omega
  exact h
 have h1:(g*(d1*B+d2))*P<=(top*B+u3)*P:=by refine AbP _ ?_;rw[<-hr,AbU,AbS,AbQ];omega
 have h2:g*V=(g*(d1*B+d2))*P+g*lv:=by rw[hV,AbU,AbQ]
 have h3:B*P<=V:=by rw[hV,AbS,AbQ];have:1*(B*P)<=d1*(B*P):=AbP _ hd1;omega
 have h4:g*lv<B*P:=by have h5:g*lv<=g*P:=Adu _ (AdZ hlv);have h6:(g+1)*P<=B*P:=AbP _ hg;rw[AbS,AdG] at h6;omega
 omega
def W0 {d:List Nat} {n:Nat} (h:d.length=n+2):val d=(d.getD (n+1) 0*B+d.getD n 0)*B^n+val (d.take n):=by
 have e:d=d.take (n+2):=by rw[<-h,Aeb]
 rw[e,BE d (n+1),BE d n,<-e];rw[Ac6,AbS,AbQ (B^n),AbO (B^n) (d.getD n 0),AbO (B^n),AbO B (d.getD _ 0)];omega
def WZ {u:List Nat} {n:Nat} (h:u.length=n+3):val u=((u.getD (n+2) 0*B+u.getD (n+1) 0)*B+u.getD n 0)*B^n+val (u.take n):=by
 have e:u=u.take (n+3):=by rw[<-h,Aeb]
 rw[e,BE u (n+2),BE u (n+1),BE u n,<-e];generalize u.getD n 0=a;generalize u.getD (n+1) 0=b;generalize u.getD (n+2) 0=c;have e1:B^(n+1)*b=b*B*B^n:=by rw[Ac6,AbQ,AbO (B^n),AbO B b]
 have e2:B^(n+2)*c=c*B*B*B^n:=by rw[Ac6,Ac6];generalize B^n=p;ac_rfl
 rw[e1,e2,AbS,AbS,AbS,AbO (B^n) a];omega
def Pj {l:List Nat} (h:Dig l) (n:Nat):val (l.take n)<B^n:=by
 have h1:=GL (h.take n);have h2:(l.take n).length<=n:=by simp;omega
 exact AdA h1 (Adc (by decide) h2)
def P7 {done u d:List Nat} {i g c b dig low c' b':Nat} (hi:done.length=i) (h1:dig+low+b=u.getD i 0+B*b') (h2:low+B*c'=c+g*d.getD i 0)
  (hv:val done+g*val (d.take i)=val (u.take i)+B^i*(c+b)):val (done++[dig])+g*val (d.take (i+1))=val (u.take (i+1))+B^(i+1)*(c'+b'):=by
 rw[Cp,hi,BE d i,BE u i];simp only[val,AdE,Adt];have e1:g*(val (d.take i)+B^i*d.getD i 0)=g*val (d.take i)+B^i*(g*d.getD i 0):=by rw[AbU,Nat.mul_left_comm g]
 have e2:B^(i+1)*(c'+b')=B^i*(B*c'+B*b'):=by rw[Ac6,AbQ,AbU]
 have e3:B^i*(dig+g*d.getD i 0+c+b)=B^i*(u.getD i 0+(B*c'+B*b')):=by congr 1;omega
 rw[e1,e2];simp only[AbU] at e3 hv ⊢;omega
def Aaw {done u d:List Nat} {i a s:Nat} (hi:done.length=i) (hs:s=u.getD i 0+d.getD i 0+a) (hv:val done+B^i*a=val (u.take i)+val (d.take i)) :
  val (done++[s % B])+B^(i+1)*(s / B)=val (u.take (i+1))+val (d.take (i+1)):=by
 rw[Cp,hi,BE d i,BE u i];simp only[val,AdE,Adt];have e2:B^(i+1)*(s / B)=B^i*(B*(s / B)):=by rw[Ac6,AbQ]
 have e3:B^i*(s % B+B*(s / B))=B^i*(u.getD i 0+d.getD i 0+a):=by rw[Ac7,hs]
 rw[e2];simp only[AbU] at e3 ⊢;omega
def Abt {U V g r P:Nat} (h1:U<(g+1)*V) (hv:r+g*V=U+P*0):U / V=g/\U % V=r:=by
 rw[AdE,Adt] at hv;rw[AbS,AdG] at h1;have hr:r<V:=by omega
 subst hv;refine ⟨?_,?_⟩;·rw[AbO g,AdQ _ _ (by omega),Adz hr,Ad0]
 rw[AbO g,AdV,Ac8 hr]
def Aak {U V g r P r3 x3 dn a:Nat} (h2:g*V<U+V) (hV:V<P) (hr:r<P) (hv:r+g*V=U+P*1) (hb:dn+x3=r+V-0) (h3:r3=dn+x3\/r3+P=dn+x3) (hr3:r3<P) (ha:a=g):U / V=g-1/\U % V=r3:=by
 subst ha;rw[Ad5] at hv;rcases AdT a with h0 | h0
 ·subst h0;omega
 obtain ⟨m,rfl⟩:∃ m,a=m+1:=⟨a-1,by omega⟩;rw[AbS,AdG] at hv h2;have e:r3+m*V=U:=by omega
 have hlt:r3<V:=by omega
 rw[Ad6];subst e;refine ⟨?_,?_⟩;·rw[AbO m,AdQ _ _ (by omega),Adz hlt,Ad0]
 rw[AbO m,AdV,Ac8 hlt]
def Abd {a c sh:Nat} (ha:a<2^sh):a ||| c*2^sh=a+c*2^sh:=by have:=Nat.shiftLeft_add_eq_or_of_lt (i:=sh) (a:=c) (b:=a) ha;rw[Nat.shiftLeft_eq] at this;rw[Nat.or_comm,<-this,Ael]
def ZU {x sh:Nat} (h:sh<32):x*2^sh % 4294967296=x % 2^(32-sh)*2^sh:=by
 have:(4294967296:Nat)=2^(32-sh)*2^sh:=by rw[<-AdX,show 32-sh+sh=32 by omega]
 rw[this,Nat.mul_mod_mul_right]
def ZE {q l:List Nat} {k c x sh:Nat} (hq:q.length=k) (hx:l.getD k 0=x) (hv:val q+B^k*c=val (l.take k)*2^sh) :
  val (q++[c+x*2^sh % B])+B^(k+1)*(x*2^sh / B)=val (l.take (k+1))*2^sh:=by
 rw[Cp,hq,BE l k,hx];simp only[val,AdE,Adt];have h1:=Ac7 (x*2^sh) B;have e1:B^(k+1)*(x*2^sh / B)=B^k*(B*(x*2^sh / B)):=by rw[Ac6,AbQ]
 have e2:(val (l.take k)+B^k*x)*2^sh=val (l.take k)*2^sh+B^k*(x*2^sh):=by rw[AbS,AbQ]
 rw[e1,e2,<-hv];have e3:B^k*(x*2^sh % B+B*(x*2^sh / B))=B^k*(x*2^sh):=by rw[h1]
 simp only[AbU] at e3 ⊢;omega
end Num
namespace Num
open Go Go.Proofs Go.Abs
variable {G:Ah}
def Nr {pre u post:List Nat} {i j:Nat} (hj:pre.length=j) (hi:i<u.length):(pre++(u++post)).getD (j+i) 0=u.getD i 0:=by subst hj;simp only[AbM];rw[AbV (by omega),AdH (by omega),AdB]
def win (pre done u post:List Nat):List Nat:=pre++(done++(u.drop done.length++post))
def Zm {pre u post:List Nat}:win pre [] u post=pre++(u++post):=rfl
def FW {pre done u post:List Nat} (h:done.length<=u.length):(win pre done u post).length=pre.length+u.length+post.length:=by simp[win];omega
def IW {pre done u post:List Nat} (h:done.length<u.length):(win pre done u post).getD (pre.length+done.length) 0=u.getD done.length 0:=by unfold win;simp only[AbM];rw[AbV (by omega),AdB,AbV (by omega),AdL,AdH (by simp;omega),AdU,Adt]
def Ls {pre done u post:List Nat} {v:Nat} (h:done.length<u.length):(win pre done u post).set (pre.length+done.length) v=win pre (done++[v]) u post:=by unfold win;rw[AdF _ _ (by omega),AdB,AdF _ _ (by omega),AdL,AdW h,Aec,AdD,List.length_append,List.length_singleton,AdM];rfl
def Ul (pre u post d ex:List Nat) (n:Nat) (hd:d.length=n+2) (hu:u.length=n+3) (dd:Dig d) (du:Dig u) (hUV:val u<val d*B) (hn:2147483648<=d.getD (n+1) 0) (hl:pre.length+u.length+post.length<2^40) :
  Ctr TP G 206 [.lsl 0 1 pre.length (n+3),.lsl 1 1 0 (n+2)] [.row false (AY .u32 (pre++(u++post))),.row false (AY .u32 (d++ex))] (.d (.int .u32 (val u / val d:Nat)))
   [.row false (AY .u32 (pre++(Bp (n+3) (val u % val d)++post))),.row false (AY .u32 (d++ex))]:=by
 refine Ctr.body (M:=M0) Al Tryz.func206 rfl Ab7 ?_;have de:∀ i,i<n+2->(d++ex).getD i 0=d.getD i 0:=fun i hi=>by simp only[AbM];rw[AdH (by omega)]
 have dl:(d++ex).length=n+2+ex.length:=by simp;omega
 generalize hrow:d++ex=dr at *;have g1:(pre++(u++post)).getD (pre.length+(n+2)) 0=u.getD (n+2) 0:=Nr rfl (by omega);have g2:(pre++(u++post)).getD (pre.length+(n+1)) 0=u.getD (n+1) 0:=Nr rfl (by omega);have g3:(pre++(u++post)).getD (pre.length+n) 0=u.getD n 0:=Nr rfl (by omega);have p1:u.getD (n+2) 0<4294967296:=du.getD _;have p2:u.getD (n+1) 0<4294967296:=du.getD _;have p3:u.getD n 0<4294967296:=du.getD _;have q1:d.getD (n+1) 0<4294967296:=dd.getD _;have q2:d.getD n 0<4294967296:=dd.getD _;have hpl:(pre++(u++post)).length=pre.length+u.length+post.length:=by simp;omega
 generalize ho:pre++(u++post)=o at *;have hU:=WZ hu;have hV:=W0 hd;have hlu:=Pj du n;have hlv:=Pj dd n;rw[show n+3=(n+2)+1 from rfl];generalize ht:u.getD (n+2) 0*B+u.getD (n+1) 0=top at hU;have ht':u.getD (n+2) 0*4294967296+u.getD (n+1) 0=top:=by simpa only[B] using ht
 have htl:top<18446744073709551616:=by omega
 have hqt:=Aee top (d.getD (n+1) 0);have eg:(if (4294967295:Int)<((top / d.getD (n+1) 0:Nat):Int) then (4294967295:Int) else ((top / d.getD (n+1) 0:Nat):Int))=((min (top / d.getD (n+1) 0) 4294967295:Nat):Int):=by split<;>omega
 have hg0:min (top / d.getD (n+1) 0) 4294967295*d.getD (n+1) 0<=top:=Aea (AbP _ (Nat.min_le_left _ _)) (Nat.div_mul_le_self _ _);have hg1:top<(min (top / d.getD (n+1) 0) 4294967295+1)*d.getD (n+1) 0\/min (top / d.getD (n+1) 0) 4294967295+1=B:=by
  by_cases h:top / d.getD (n+1) 0<=4294967295;·rw[Aef h];left;rw[AbO];exact Nat.lt_mul_div_succ top (by omega)
  right;rw[Nat.min_eq_right (by omega)];rfl
 have hg2:min (top / d.getD (n+1) 0) 4294967295<B:=by simp only[B];omega
 have hK:=Yd (g:=min (top / d.getD (n+1) 0) 4294967295) hU hlu hV p3 hUV hg1;generalize hg:min (top / d.getD (n+1) 0) 4294967295=g0 at *;have hr0:((top:Nat):Int)-((g0*d.getD (n+1) 0:Nat):Int)=((top-g0*d.getD (n+1) 0:Nat):Int):=by omega
 simp(disch:=(try simp only[Ad]);omega)only[Tryz.f206,hd,dl,de,XO,g1,g2,g3,ht',<-Aei,eg,hr0,↓Ac,Ae,↓reduceIte,↓reduceDIte,↓Qe,Qu,Qv,Qw,Qx,Qy,Qz,QA,QB,QC,QD,QE,QF,QG,QH,QI,QK];refine ⟨by rfl,?_⟩;refine As.fx 35 (α:=Nat × Nat) (β:=Nat) (fun x=>x.1) (fun x=>[(7,.d (.int .u64 x.1)),(8,.d (.int .u64 x.2))])
  (fun _=>[.row false (AY .u32 o),.row false (AY .u32 dr)]) (fun x=>x.1<B/\val u<(x.1+1)*val d/\x.1*d.getD (n+1) 0+x.2=top)
  35 (fun g=>[(7,.d (.int .u64 g))]) (fun _=>[.row false (AY .u32 o),.row false (AY .u32 dr)]) (fun g=>g<B/\val u<(g+1)*val d/\g*val d<val u+val d) (g0,top-g0*d.getD (n+1) 0) ⟨hg2,hK,by simp only;omega⟩ ?_ ?_ ?_
 ·exact ⟨[some 0,some 1],rfl,by simp,by simp[sA,kZ,SW,AW],by simp[HW,BW,SW,AW]⟩
 ·rintro ⟨g,r⟩ ⟨hgB,hgU,hgr⟩;simp only at hgB hgU hgr;simp only[Cr,AbY,AbZ,reduceIte];have hE:∀ {g r},g<B->g*d.getD (n+1) 0+r=top->(B<=r\/g*d.getD n 0<=r*B+u.getD n 0)->g*val d<val u+val d :=
   fun a b c=>Z0 hU hV hlv (by omega) q2 a b c
  have hD:∀ {g r},g*d.getD (n+1) 0+r=top->r*B+u.getD n 0<g*d.getD n 0->val u<g*val d:=fun a b=>Z1 hU hlu hV a b;clear hU hV hlu hlv hUV hK hg1 eg hr0 hg0 hg2 hqt hg;replace hgU:=Hid.mk hgU;rcases g with _ | g
  ·simp(disch:=(try simp only[Ad]);omega)only[dl,de,XO,g1,g2,g3,ht',Int.zero_mul,↓Ac,Ae,↓reduceIte,↓reduceDIte,↓Qe,Qu,Qv,Qw,Qx,Qy,Qz,QA,QB,QC,QD,QE,QF,QG,QH,QI,QK];have e0:0*val d<val u+val d:=hE hgB hgr (.inr (by simp));exact ⟨fun h=>⟨by rfl,0,⟨by decide,hgU.out,e0⟩,⟨[some 0,some 1],rfl,by simp,by simp[sA,kZ,SW,AW],by simp[HW,BW,SW,AW]⟩⟩,fun h=>⟨by rfl,0,⟨by decide,hgU.out,e0⟩,⟨[some 0,some 1],rfl,by simp,by simp[sA,kZ,SW,AW],by simp[HW,BW,SW,AW]⟩⟩⟩
  have hgd:(g+1)*d.getD n 0<=18446744065119617025:=J8 hgB (dd.getD n);have hgB':g+1<4294967296:=by simpa only[B] using hgB
  simp(disch:=(try simp only[Ad]);omega)only[dl,de,XO,g1,g2,g3,ht',↓Ac,Ae,↓reduceIte,↓reduceDIte,↓Qe,Qu,Qv,Qw,Qx,Qy,Qz,QA,QB,QC,QD,QE,QF,QG,QH,QI,QK];refine ⟨fun h=>⟨by rfl,fun h2=>⟨(g,r+d.getD (n+1) 0),⟨?_,hD hgr (by simp only[B];omega),?_⟩,by simp only;omega,⟨[some 0,some 1],rfl,by simp,by simp[sA,kZ,SW,AW],by simp[HW,BW,SW,AW]⟩⟩,
   fun h2=>⟨g+1,⟨hgB,hgU.out,hE hgB hgr (.inr (by simp only[B];omega))⟩,⟨[some 0,some 1],rfl,by simp,by simp[sA,kZ,SW,AW],by simp[HW,BW,SW,AW]⟩⟩⟩,fun h=>⟨by rfl,g+1,⟨hgB,hgU.out,hE hgB hgr (.inl (by simp only[B];omega))⟩,⟨[some 0,some 1],rfl,by simp,by simp[sA,kZ,SW,AW],by simp[HW,BW,SW,AW]⟩⟩⟩
  ·simp only;omega
  simp only;rw[AbS,AdG] at hgr;omega
 rintro g ⟨hgB,hgU,hgV⟩;simp only[Cr,AbY,AbZ,reduceIte];clear eg hr0 hg0 hg2 hqt hg hK hg1;replace hU:=Hid.mk hU;replace hV:=Hid.mk hV;replace hlu:=Hid.mk hlu;replace hlv:=Hid.mk hlv;replace hgU:=Hid.mk hgU;replace hgV:=Hid.mk hgV;replace hUV:=Hid.mk hUV;replace ht:=Hid.mk ht;have hgB':g<4294967296:=by simpa only[B] using hgB
 simp(disch:=(try simp only[Ad]);omega)only[dl,de,↓Ac,Ae,↓reduceIte,↓reduceDIte,↓Qe,Qu,Qv,Qw,Qx,Qy,Qz,QA,QB,QC,QD,QE,QF,QG,QH,QI,QK];refine As.fx 14507109835375550096474275 (α:=List Nat × Nat × Nat) (β:=List Nat × Nat × Nat) (fun x=>n+2-x.1.length) (fun x=>[(9,.d (.int .u32 x.2.1)),(10,.d (.int .u64 x.2.2)),(84,.d (.int .i64 x.1.length))])
  (fun x=>[.row false (AY .u32 (win pre x.1 u post)),.row false (AY .u32 dr)]) (fun x=>x.1.length<=n+2/\Dig x.1/\x.2.1<=1/\x.2.2<B/\val x.1+g*val (d.take x.1.length)=val (u.take x.1.length)+B^x.1.length*(x.2.2+x.2.1))
  163 (fun x=>[(9,.d (.int .u32 x.2.1)),(10,.d (.int .u64 x.2.2))]) (fun x=>[.row false (AY .u32 (win pre x.1 u post)),.row false (AY .u32 dr)]) (fun x=>x.1.length=n+2/\Dig x.1/\x.2.1<=1/\x.2.2<B/\val x.1+g*val d=val (u.take (n+2))+B^(n+2)*(x.2.2+x.2.1))
  ([],0,0) ⟨by simp,by simp[Dig],by simp,by simp[B],by simp[val]⟩ ?_ ?_ ?_
 ·exact ⟨[some 0,some 1],rfl,by simp,by simp[sA,kZ,SW,AW],by simp[HW,BW,Zm,ho]⟩
 ·rintro ⟨done,b,c⟩ ⟨hi,hdd,hb,hc,hv⟩;simp only at hi hdd hb hc hv;simp only[Cr,AbY,AbZ,reduceIte];replace hv:=Hid.mk hv;have w1:(win pre done u post).getD (pre.length+done.length) 0=u.getD done.length 0:=IW (by omega);have w3:(win pre done u post).length=pre.length+u.length+post.length:=FW (by omega);have hcB:c<4294967296:=by simpa only[B] using hc
  have m1:g*d.getD done.length 0<=18446744065119617025:=J8 hgB (dd.getD _);have m2:u.getD done.length 0<4294967296:=du.getD _;have m3:d.getD done.length 0<4294967296:=dd.getD _;simp(disch:=(try simp only[Ad]);omega)only[w1,w3,hd,dl,de,IX,↓Ac,Ae,↓reduceIte,↓reduceDIte,↓Qe,Qu,Qv,Qw,Qx,Qy,Qz,QA,QB,QC,QD,QE,QF,QG,QH,QI,QK];refine ⟨fun h=>?_,fun h=>?_⟩
  ·refine Ab.pure (AaE _ _ _ (du.getD _) (AbT _ (by decide)) hb) ?_;have w2:∀ v,(win pre done u post).set (pre.length+done.length) v=win pre (done++[v]) u post:=fun v=>Ls (by omega);simp(disch:=(try simp only[Ad]);omega)only[w1,w2,w3,hd,dl,de,↓Ac,Ae,↓reduceIte,↓reduceDIte,↓Qe,Qu,Qv,Qw,Qx,Qy,Qz,QA,QB,QC,QD,QE,QF,QG,QH,QI,QK];have hsl:c+g*d.getD done.length 0<B*B:=(by simp only[B];omega)
   rw[show (4294967296:Nat)=B from rfl];refine ⟨(done++[(u.getD done.length 0+B-(c+g*d.getD done.length 0) % B-b) % B],if u.getD done.length 0<(c+g*d.getD done.length 0) % B+b then 1 else 0,(c+g*d.getD done.length 0) / B),
    ⟨by simp;omega,hdd.append ?_,by simp only;split<;>omega,(Adh (by decide)).2 hsl,?_⟩,by simp;omega,[some 0,some 1],rfl,by simp,by simp[SW,AW,B],by simp[HW,BW]⟩
   ·intro x hx;simp at hx;subst hx;exact AbT _ (by decide)
   have:=P7 (d:=d) (g:=g) rfl (JU (du.getD done.length) (AbT (c+g*d.getD done.length 0) (show 0<B by decide)) hb) (Ac7 (c+g*d.getD done.length 0) B) hv.out;simpa using this
  have hi':done.length=n+2:=by omega
  have hv:=hv.out;rw[hi',AbH (l:=d) (by omega)] at hv;exact ⟨(done,b,c),⟨hi',hdd,hb,hc,hv⟩,⟨[some 0,some 1],rfl,by simp,by simp[sA,kZ,SW,AW],by simp[HW,BW,SW,AW]⟩⟩
 rintro ⟨done,b,c⟩ ⟨hi,hdd,hb,hc,hv⟩;simp only at hi hdd hb hc hv;simp only[Cr,AbY,AbZ,reduceIte];replace hv:=Hid.mk hv;have w1:(win pre done u post).getD (pre.length+(n+2)) 0=u.getD (n+2) 0:=by rw[<-hi];exact IW (by omega)
 have w3:(win pre done u post).length=pre.length+u.length+post.length:=FW (by omega);have w2:∀ v,(win pre done u post).set (pre.length+(n+2)) v=win pre (done++[v]) u post:=fun v=>by rw[<-hi];exact Ls (by omega)
 have hcB:c<4294967296:=by simpa only[B] using hc
 simp(disch:=(try simp only[Ad]);omega)only[w1,w2,w3,hd,dl,de,↓Ac,Ae,↓reduceIte,↓reduceDIte,↓Qe,Qu,Qv,Qw,Qx,Qy,Qz,QA,QB,QC,QD,QE,QF,QG,QH,QI,QK];refine Ab.pure (AaE _ _ _ (du.getD _) hc hb) ?_;by_cases hbb:u.getD (n+2) 0<c+b
 ·rw[if_pos hbb];simp(disch:=(try simp only[Ad]);omega)only[w1,w2,w3,hd,dl,de,↓Ac,Ae,↓reduceIte,↓reduceDIte,↓Qe,Qu,Qv,Qw,Qx,Qy,Qz,QA,QB,QC,QD,QE,QF,QG,QH,QI,QK];have h1:=JU (du.getD (n+2)) hc hb;rw[if_pos hbb] at h1;have dz:d.getD (n+2) 0=0:=by rw[AbM,Ad3 (by omega)];rfl
  have h2:=P7 (d:=d) (g:=g) (c:=c) (c':=0) hi h1 (by rw[dz];simp) (by rw[AbH (l:=d) (by omega)];exact hv.out);generalize hdig:(u.getD (n+2) 0+B-c-b) % B=dig at h1 h2 ⊢;have hdB:dig<B:=by rw[<-hdig];exact AbT _ (by decide)
  rw[AbH (l:=d) (by omega),AbH (l:=u) (by omega),Ad0] at h2;generalize hu':done++[dig]=u' at h2 ⊢;have lu':u'.length=n+3:=by rw[<-hu'];simp;omega
  have du':Dig u':=by rw[<-hu'];exact hdd.append (by intro x hx;simp at hx;omega)
  have vu':=GL du';rw[lu'] at vu';obtain ⟨m,rfl⟩:∃ m,g=m+1:=by
   rcases g with _ | m
   ·rw[Aem,Ad5] at h2;have:B^(n+2+1)=B^(n+3):=rfl;omega
   exact ⟨m,rfl⟩
  have ew:win pre u' u post=win pre [] u' post:=by simp[win,lu',AdN (l:=u) (i:=n+3) (by omega)]
  rw[ew];clear w1 w2 w3 hv hb hc hcB hbb h1;replace h2:=Hid.mk h2;replace vu':=Hid.mk vu';refine As.fx 4083388403051261561560495289181218537633 (α:=List Nat × Nat) (β:=List Nat × Nat) (fun x=>n+2-x.1.length) (fun x=>[(13,.d (.int .u32 x.2)),(132,.d (.int .i64 x.1.length))])
   (fun x=>[.row false (AY .u32 (win pre x.1 u' post)),.row false (AY .u32 dr)]) (fun x=>x.1.length<=n+2/\Dig x.1/\x.2<=1/\val x.1+B^x.1.length*x.2=val (u'.take x.1.length)+val (d.take x.1.length))
   161 (fun x=>[(13,.d (.int .u32 x.2))]) (fun x=>[.row false (AY .u32 (win pre x.1 u' post)),.row false (AY .u32 dr)]) (fun x=>x.1.length=n+2/\Dig x.1/\x.2<=1/\val x.1+B^(n+2)*x.2=val (u'.take (n+2))+val d)
   ([],0) ⟨by simp,by simp[Dig],by simp,by simp[val]⟩ ?_ ?_ ?_
  ·exact ⟨[some 0,some 1],rfl,by simp,by simp[sA,kZ,SW,AW],by simp[HW,BW,SW,AW]⟩
  ·rintro ⟨done2,a⟩ ⟨hi2,hd2,ha,hv2⟩;simp only at hi2 hd2 ha hv2;simp only[Cr,AbY,AbZ,reduceIte];replace hv2:=Hid.mk hv2;have w1:(win pre done2 u' post).getD (pre.length+done2.length) 0=u'.getD done2.length 0:=IW (by omega);have w3:(win pre done2 u' post).length=pre.length+u'.length+post.length:=FW (by omega);simp(disch:=(try simp only[Ad]);omega)only[w1,w3,hd,dl,de,↓Ac,Ae,↓reduceIte,↓reduceDIte,↓Qe,Qu,Qv,Qw,Qx,Qy,Qz,QA,QB,QC,QD,QE,QF,QG,QH,QI,QK];refine ⟨fun h=>?_,fun h=>?_⟩
   ·refine Ab.pure (AaW _ _ _ (du'.getD _) (dd.getD _) ha) ?_;have w2:∀ v,(win pre done2 u' post).set (pre.length+done2.length) v=win pre (done2++[v]) u' post:=fun v=>Ls (by omega);have a1:=du'.getD done2.length;have a2:=dd.getD done2.length;simp(disch:=(try simp only[Ad]);omega)only[w1,w2,w3,hd,dl,de,↓Ac,Ae,↓reduceIte,↓reduceDIte,↓Qe,Qu,Qv,Qw,Qx,Qy,Qz,QA,QB,QC,QD,QE,QF,QG,QH,QI,QK];refine ⟨(done2++[(u'.getD done2.length 0+d.getD done2.length 0+a) % B],(u'.getD done2.length 0+d.getD done2.length 0+a) / B),
     ⟨by simp;omega,hd2.append ?_,by simp only[B] at *;omega,?_⟩,by simp;omega,[some 0,some 1],rfl,by simp,by simp[SW,AW],by simp[HW,BW]⟩
    ·intro x hx;simp at hx;subst hx;exact AbT _ (by decide)
    have:=Aaw (u:=u') (d:=d) rfl rfl hv2.out;simpa using this
   have hi':done2.length=n+2:=(by omega);have hv2:=hv2.out;rw[hi',AbH (l:=d) (by omega)] at hv2;exact ⟨(done2,a),⟨hi',hd2,ha,hv2⟩,⟨[some 0,some 1],rfl,by simp,by simp[sA,kZ,SW,AW],by simp[HW,BW,SW,AW]⟩⟩
  rintro ⟨done2,a⟩ ⟨hi2,hd2,ha,hv2⟩;simp only at hi2 hd2 ha hv2;simp only[Cr,AbY,AbZ,reduceIte];replace hv2:=Hid.mk hv2;have w1:(win pre done2 u' post).getD (pre.length+(n+2)) 0=u'.getD (n+2) 0:=by rw[<-hi2];exact IW (by omega)
  have w3:(win pre done2 u' post).length=pre.length+u'.length+post.length:=FW (by omega);have w2:∀ v,(win pre done2 u' post).set (pre.length+(n+2)) v=win pre (done2++[v]) u' post:=fun v=>by rw[<-hi2];exact Ls (by omega)
  have a1:=du'.getD (n+2);simp(disch:=(try simp only[Ad]);omega)only[w1,w2,w3,hd,dl,de,IX,cast_add,nats_set,↓Ac,Ae,↓reduceIte,↓reduceDIte,↓Qe,Qu,Qv,Qw,Qx,Qy,Qz,QA,QB,QC,QD,QE,QF,QG,QH,QI,QK];rw[show (4294967296:Nat)=B from rfl];have hB0:0<B:=by decide
  have h3:=Ac7 (u'.getD (n+2) 0+a) B;have hq:(u'.getD (n+2) 0+a) / B=0\/(u'.getD (n+2) 0+a) / B=1:=by simp only[B] at *;omega
  have du3:Dig (done2++[(u'.getD (n+2) 0+a) % B]):=hd2.append (by intro x hx;simp at hx;subst hx;exact AbT _ hB0);have l3:(done2++[(u'.getD (n+2) 0+a) % B]).length=n+3:=by simp;omega
  have v3:=GL du3;rw[l3] at v3;have hu3:val u'=val (u'.take (n+2))+B^(n+2)*u'.getD (n+2) 0:=by have:=BE u' (n+2);rwa[AbH (l:=u') (by omega)] at this
  have e3:val (done2++[(u'.getD (n+2) 0+a) % B])+B^(n+3)*((u'.getD (n+2) 0+a) / B)=val u'+val d:=by
   rw[Cp,hi2,hu3];simp only[val,AdE,Adt];have e4:B^(n+3)*((u'.getD (n+2) 0+a) / B)=B^(n+2)*(B*((u'.getD (n+2) 0+a) / B)):=(by rw[Ac6,AbQ])
   have e5:B^(n+2)*((u'.getD (n+2) 0+a) % B)+B^(n+2)*(B*((u'.getD (n+2) 0+a) / B))=B^(n+2)*u'.getD (n+2) 0+B^(n+2)*a:=(by rw[<-AbU,h3,AbU]);have e6:=hv2.out;omega
  generalize hr3:done2++[(u'.getD (n+2) 0+a) % B]=r3 at *;generalize (u'.getD (n+2) 0+a) / B=z at *;have hV:=GL dd;have hVP:val d<B^(n+3):=AdA hV (Adc hB0 (by omega));have hb:=Aak (U:=val u) (V:=val d) (g:=m+1) (r:=val u') (P:=B^(n+3)) (r3:=val r3) (x3:=0) (dn:=val u'+val d) hgV.out hVP vu'.out h2.out (by omega)
   (by rcases hq with rfl | rfl
       ·left;rw[AdE] at e3;omega
       right;rw[Ad5] at e3;omega) v3 rfl
  rw[hb.1,hb.2,Ad6,<-LI du3 l3 rfl];have ew3:win pre r3 u' post=pre++(r3++post):=by simp[win,l3,AdN (l:=u') (i:=n+3) (by omega)]
  rw[ew3];exact ⟨[some 0,some 1],rfl,by simp,by simp[HW,BW,SW,AW],.inl (by simp[AW,SW])⟩
 rw[if_neg hbb];simp(disch:=(try simp only[Ad]);omega)only[w1,w2,w3,hd,dl,de,↓Ac,Ae,↓reduceIte,↓reduceDIte,↓Qe,Qu,Qv,Qw,Qx,Qy,Qz,QA,QB,QC,QD,QE,QF,QG,QH,QI,QK];have h1:=JU (du.getD (n+2)) hc hb;rw[if_neg hbb] at h1;have dz:d.getD (n+2) 0=0:=by rw[AbM,Ad3 (by omega)];rfl
 have h2:=P7 (d:=d) (g:=g) (c:=c) (c':=0) hi h1 (by rw[dz];simp) (by rw[AbH (l:=d) (by omega)];exact hv.out);generalize hdig:(u.getD (n+2) 0+B-c-b) % B=dig at h1 h2 ⊢;have hdB:dig<B:=by rw[<-hdig];exact AbT _ (by decide)
 rw[AbH (l:=d) (by omega),AbH (l:=u) (by omega),Ad0] at h2;generalize hu':done++[dig]=u' at h2 ⊢;have lu':u'.length=n+3:=by rw[<-hu'];simp;omega
 have du':Dig u':=by rw[<-hu'];exact hdd.append (by intro x hx;simp at hx;omega)
 have hb:=Abt hgU.out h2;rw[hb.1,hb.2,<-LI du' lu' rfl];have ew3:win pre u' u post=pre++(u'++post):=by simp[win,lu',AdN (l:=u) (i:=n+3) (by omega)]
 rw[ew3];exact ⟨[some 0,some 1],rfl,by simp,by simp[HW,BW,SW,AW],.inl (by simp[AW,SW])⟩
def X8 {q r:List Nat} {c k:Nat} (h:q.length=k):(q++c::r).getD k 0=c:=by subst h;simp[AbM]
def ZS {q r:List Nat} {c k v:Nat} (h:q.length=k):(q++c::r).set k v=q++v::r:=by subst h;simp
def X7 {q r:List Nat} {c d k v:Nat} (h:q.length=k):(q++c::d::r).set (k+1) v=q++c::v::r:=by subst h;rw[AdF _ _ (by omega),AdB];rfl
def Ja (l:List Nat) (sh:Nat) (hl:Dig l) (hs:sh<32) (hll:l.length<2^40) :
  Ctr TP G 205 [.d (W l),.d (.int .i64 sh)] [] (.lsl 0 1 0 (l.length+1)) [.row false (AY .u32 (Bp (l.length+1) (val l*2^sh)))]:=by
 refine Ctr.body (M:=M0) Al Tryz.func205 rfl Ab8 ?_;simp(disch:=(try simp only[Ad]);omega)only[Tryz.f205,↓Ac,Ae,↓reduceIte,↓reduceDIte,↓Qe,Qu,Qv,Qw,Qx,Qy,Qz,QA,QB,QC,QD,QE,QF,QG,QH,QI,QK];have hm:(2:Int)^sh=((2^sh:Nat):Int):=by simp
 have hmb:2^sh<=2147483648:=Adc (by decide) (show sh<=31 by omega);have hmp:0<2^sh:=AdK sh;refine As.fr 24610 (α:=Nat × List Nat × Nat) (fun x=>l.length-x.1) (fun x=>[(15,.d (.int .i64 x.1))])
  (fun x=>[.row false (AY .u32 (x.2.1++x.2.2::AbR (l.length-x.1) 0))]) (fun x=>x.1<=l.length/\x.2.1.length=x.1/\Dig x.2.1/\x.2.2<2^sh/\val x.2.1+B^x.1*x.2.2=val (l.take x.1)*2^sh) (0,[],0) ⟨Aen _,rfl,(fun x hx=>by cases hx),hmp,(Aem _).symm▸rfl⟩ ?_ ?_
 ·exact ⟨[some 0],rfl,by simp,by simp[sA,kZ,SW,AW],by simp[HW,BW,AdI]⟩
 rintro ⟨k,q,c⟩ ⟨hk,hq,hd,hc,hv⟩;simp only at hk hq hd hc hv;simp only[Cr,AbY,AbZ,reduceIte];replace hv:=Hid.mk hv;have hx:l.getD k 0<4294967296:=hl.getD k;have hxm:l.getD k 0*2^sh<=4294967295*2147483648:=Aej (by omega) hmb;have c1:∀ r,(q++c::r).getD k 0=c:=fun r=>X8 hq;have c2:∀ r v,(q++c::r).set k v=q++v::r:=fun r v=>ZS hq;have c3:∀ a d r v,(q++a::d::r).set (k+1) v=q++a::v::r:=fun a d r v=>X7 hq;have hor:c ||| (l.getD k 0*2^sh % 4294967296)=c+l.getD k 0*2^sh % 4294967296:=by rw[ZU hs,Abd hc]
 have hlow:l.getD k 0*2^sh % 4294967296<4294967296:=AbT _ (by decide);have hmin:min sh 64=sh:=by omega
 simp(disch:=(try simp only[Ad]);omega)only[hm,hmin,c1,c2,hor,Im,IX,Nat.zero_lt_succ,↓Ac,Ae,↓reduceIte,↓reduceDIte,↓Qe,Qu,Qv,Qw,Qx,Qy,Qz,QA,QB,QC,QD,QE,QF,QG,QH,QI,QK];refine ⟨fun h=>?_,fun h=>?_⟩
 ·have er:AbR (l.length-k) 0=0::AbR (l.length-(k+1)) 0:=by rw[<-AdI];congr 1;omega
  rw[er];have ei:((l.getD k 0*2^sh:Nat):Int) / 4294967296=((l.getD k 0*2^sh / B:Nat):Int):=by simp only[B];omega
  rw[ei,nats_set,c3];refine ⟨(k+1,q++[c+l.getD k 0*2^sh % B],l.getD k 0*2^sh / B),⟨by simp only;omega,by simp[hq],hd.append ?_,?_,ZE hq rfl hv.out⟩,by simp only;omega,[some 0],rfl,by simp,by simp[SW,AW],?_⟩
  ·intro x hx;simp only[AdJ,AdY,or_false] at hx;subst hx;show c+l.getD k 0*2^sh % 4294967296<2^32
   rw[<-hor];exact Nat.or_lt_two_pow (by omega) hlow
  ·simp only;rw[Adh (by decide),AbO (2^sh)];exact AdR hx hmp
  have e2:(q++[c+l.getD k 0*2^sh % B])++l.getD k 0*2^sh / B::AbR (l.length-(k+1)) 0=q++(c+l.getD k 0*2^sh % 4294967296)::l.getD k 0*2^sh / B::AbR (l.length-(k+1)) 0:=by rw[AdM];rfl
  simp only[e2];simp[HW,BW]
 have ek:k=l.length:=by omega
 have hv:=hv.out;subst ek;rw[AbH (Ady _)] at hv;have hcB:c<B:=AdA hc (by simp only[B];omega);rw[AdL,List.replicate_zero,<-LI (l:=q++[c]) (hd.append (by intro x hx;simp only[AdJ,AdY,or_false] at hx;subst hx;exact hcB)) (by simp[hq]) (by rw[Cp,hq];simpa[val] using hv)];exact ⟨[some 0],rfl,by simp,by simp[HW,BW,SW,AW],.inl (by simp[AW,SW])⟩
def EX (l:List Nat) (hl:l.length<2^40):Ctr TP G 135 [.d (W l)] [] (.d (W l)) []:=by
 refine Ctr.of_body Tryz.func135 rfl AcK rfl ?_;refine Tri.seq (Tri.of_awp (M:=M0) Al _ _ _ _ ?_);simp(disch:=(try simp only[Ad]);omega)only[Ei,Tryz.f135,↓Ac,Ae,↓reduceIte,↓reduceDIte,↓Qe,Qu,Qv,Qw,Qx,Qy,Qz,QA,QB,QC,QD,QE,QF,QG,QH,QI,QK];refine Tri.seq (Tri.seq (Tri.nilRegion (e:=187) (by kernel_rfl) rfl ?_ ?_));·simp
 intro b hb;simp only[Ei];refine Tri.of_awp (M:=M0) Al _ _ _ _ ?_;cases b;·simp(disch:=(try simp only[Ad]);omega)only[Ei,Tryz.f135,Nl,↓Ac,Ae,↓reduceIte,↓reduceDIte,↓Qe,Qu,Qv,Qw,Qx,Qy,Qz,QA,QB,QC,QD,QE,QF,QG,QH,QI,QK];refine Tri.of_awp (M:=M0) Al _ _ _ _ ?_;simp(disch:=(try simp only[Ad]);omega)only[Ei,Tryz.f135,Nl,↓Ac,Ae,↓reduceIte,↓reduceDIte,↓Qe,Qu,Qv,Qw,Qx,Qy,Qz,QA,QB,QC,QD,QE,QF,QG,QH,QI,QK];refine ⟨[],rfl,Aek,trivial,.inr ⟨W l,?_,by simp[W,unf_sl],rfl⟩⟩;simp[sealA,W,cut_nats]
 simp(disch:=(try simp only[Ad]);omega)only[Ei,Tryz.f135,Nl,↓Ac,Ae,↓reduceIte,↓reduceDIte,↓Qe,Qu,Qv,Qw,Qx,Qy,Qz,QA,QB,QC,QD,QE,QF,QG,QH,QI,QK];have h0:l=[]:=AdC.1 (hb rfl);subst h0;exact ⟨[],rfl,Aek,trivial,.inr ⟨.sl 0 true [],rfl,rfl,rfl⟩⟩
def W9 {o:List Nat} (hd:Dig o) {k:Nat} (hk:k<=o.length) (h:k=0\/o.getD (k-1) 0≠0):toW (val (o.take k))=o.take k:=by
 refine Xa (hd.take k) ?_;rcases h with rfl | h
 ·left;simp
 rcases AdT k with rfl | hp
 ·left;simp
 right;have e:(o.take k).length-1=k-1:=by simp;omega
 rw[e,AbM,Ad7,if_pos (by omega),<-AbM];exact h
def E3 (o:List Nat) (n:Nat) (hd:Dig o) (hn:n<=o.length) (hl:o.length<2^60) :
  Ctr TP G 171 [.lsl 0 1 0 n] [.row false (AY .u32 o)] (.lsl 0 1 0 (toW (val (o.take n))).length) [.row false (AY .u32 o)]:=by
 refine Ctr.body (M:=M0) Al Tryz.func171 rfl AaO ?_;simp(disch:=(try simp only[Ad]);omega)only[Tryz.f171,↓Ac,Ae,↓reduceIte,↓reduceDIte,↓Qe,Qu,Qv,Qw,Qx,Qy,Qz,QA,QB,QC,QD,QE,QF,QG,QH,QI,QK];refine As.fr 0 (α:=Nat) (fun k=>k) (fun k=>[(0,.lsl 0 1 0 k)]) (fun _=>[.row false (AY .u32 o)]) (fun k=>k<=n/\val (o.take k)=val (o.take n)) n ⟨Ady _,rfl⟩ ?_ ?_;·exact ⟨[some 0],rfl,by simp,by simp[sA,kZ,SW,AW],by simp[HW,BW,SW,AW]⟩
 rintro k ⟨hk,hv⟩;simp only[Cr,AbY,AbZ,reduceIte];rcases k with _ | k
 ·simp(disch:=(try simp only[Ad]);omega)only[↓Ac,Ae,↓reduceIte,↓reduceDIte,↓Qe,Qu,Qv,Qw,Qx,Qy,Qz,QA,QB,QC,QD,QE,QF,QG,QH,QI,QK];have:toW (val (o.take n))=[]:=by rw[<-hv];exact Bs
  rw[this];exact ⟨[some 0],rfl,by simp,by simp[HW,BW,SW,AW],.inl (by simp[AW,SW])⟩
 simp(disch:=(try simp only[Ad]);omega)only[↓Ac,Ae,↓reduceIte,↓reduceDIte,↓Qe,Qu,Qv,Qw,Qx,Qy,Qz,QA,QB,QC,QD,QE,QF,QG,QH,QI,QK];refine ⟨fun h=>⟨k,⟨by omega,?_⟩,Nat.lt_succ_self _,⟨[some 0],rfl,by simp,by simp[sA,kZ,SW,AW],by simp[HW,BW,SW,AW]⟩⟩,fun h=>?_⟩;·rw[<-hv,BE o k,show o.getD k 0=0 by omega];simp
 have:=W9 hd (k:=k+1) (by omega) (.inr (by simpa using h));rw[hv] at this;rw[this];have e:(o.take (k+1)).length=k+1:=by simp;omega
 rw[e];exact ⟨[some 0],rfl,by simp,by simp[HW,BW,SW,AW],.inl (by simp[AW,SW])⟩
end Num
namespace Num
open Go Go.Proofs Go.Abs
def EU (i k n:Nat):Bp (i+k) n=Bp i n++Bp k (n / B^i):=by
 induction i generalizing n with
 | zero=>simp[Bp]
 | succ i ih =>rw[Nat.add_right_comm i 1 k];simp only[Bp,Aec];rw[ih,Adg,Ac6,AbO B]
def Wu (k:Nat):Bp k 0=AbR k 0:=by
 induction k with
 | zero=>rfl
 | succ k ih=>simp[Bp,AdI,ih]
def IE {k z n:Nat} (h:n<B^k):Bp (k+z) n=Bp k n++AbR z 0:=by rw[EU,Adz h,Wu]
def OE {i k n:Nat} (h:i<=k):(Bp k n).take i=Bp i n:=by obtain ⟨z,rfl⟩:∃ z,k=i+z:=⟨k-i,by omega⟩;rw[EU,Aeg (A5 i n)]
def HZ {i k n:Nat} (h:i<k):(Bp k n).getD i 0=n / B^i % B:=by obtain ⟨z,rfl⟩:∃ z,k=i+(z+1):=⟨k-i-1,by omega⟩;rw[EU,Bp];have:=A5 i n;rw[AbM,AbV (by omega),this,AdL];rfl
def OG (i n:Nat):Bp (i+1) n=Bp i n++[n / B^i % B]:=by rw[EU];rfl
def Xc (n:Nat):toW n=Bp (toW n).length n:=LI (DL n) rfl (Dl n)
def TT {m:List Nat} {k s:Nat} (hm:Dig m) (hl:m.length=k+2) (ht:m.getD (k+1) 0≠0) (hs:s=31-(m.getD (k+1) 0).log2) :
  s<32/\val m*2^s<B^(k+2)/\2147483648<=(Bp (k+2) (val m*2^s)).getD (k+1) 0:=by
 have htB:=hm.getD (k+1);have hv:val m=val (m.take (k+1))+B^(k+1)*m.getD (k+1) 0:=by have:=BE m (k+1);rwa[AbH (by omega)] at this
 have hlo:=Pj hm (k+1);generalize m.getD (k+1) 0=t at *;have he:=(Nat.log2_eq_iff ht).1 rfl;have he32:=(AdP (k:=32) ht).2 htB;have hp:2^(t.log2+1)*2^s=B:=by rw[<-AdX,hs,show t.log2+1+(31-t.log2)=32 by omega];rfl
 have hp':2^t.log2*2^s=2147483648:=by rw[<-AdX,hs,show t.log2+(31-t.log2)=31 by omega]
 have h1:2147483648<=t*2^s:=by rw[<-hp'];exact AbP _ he.1
 have h2:(t+1)*2^s<=B:=by rw[<-hp];exact AbP _ he.2
 have h3:val m*2^s<B^(k+2):=by
  have e1:val m+1<=B^(k+1)*(t+1):=by have:=AbU (B^(k+1)) t 1;omega
  have e2:(val m+1)*2^s<=B^(k+1)*(t+1)*2^s:=AbP _ e1;have e3:B^(k+1)*(t+1)*2^s<=B^(k+1)*B:=by rw[AbQ];exact Adu _ h2
  rw[AbS,AdG] at e2;have:0<2^s:=AdK s;rw[Ac6];omega
 refine ⟨by omega,h3,?_⟩;rw[HZ (by omega)];have hB:0<B^(k+1):=Aeo (by decide);have e4:val m*2^s / B^(k+1)<B:=by rw[Adh hB,AbO B,<-Ac6];exact h3
 rw[Ac8 e4];refine Aea h1 ((Ad4 hB).2 ?_);rw[Ad8];refine AbP _ ?_;rw[hv,AbO];omega
def ZO {U V j Q r:Nat} (h:U / B^(j+1)=Q*V+r) (hr:r<V) :
  U / B^j % B+B*r<V*B/\U / B^j=(B*Q+(U / B^j % B+B*r) / V)*V+(U / B^j % B+B*r) % V:=by
 have hx:U / B^j % B<B:=AbT _ (by decide);refine ⟨?_,?_⟩;·have:B*(r+1)<=B*V:=Adu _ hr;rw[AbU,Ad5] at this;rw[AbO V];omega
 have h1:=Ac7 (U / B^j) B;rw[Adg,<-Ac6,h,AbU] at h1;have h2:=Ac7 (U / B^j % B+B*r) V;rw[AbS,AbQ];rw[AbO V] at h2;omega
def Zn {r s i:Nat} (hs:s<32):((r / B^(i+1) % B)*B+r / B^i % B) / 2^s % B=r / 2^s / B^i % B:=by
 have hB:B=2^(32-s)*2^s:=by rw[<-AdX,show 32-s+s=32 by omega];rfl
 have e1:r / 2^s / B^i=r / B^i / 2^s:=by rw[Adg,AbO,<-Adg]
 have e2:r / B^(i+1)=r / B^i / B:=by rw[Adg,Ac6]
 rw[e1,e2];generalize r / B^i=y;have h1:=Ac7 y B;have h2:=Ac7 (y / B) B;generalize hc:y / B / B=c at *;generalize hh:y / B % B=h at *;generalize hl:y % B=l at *;have hp:0<2^s:=AdK s;have e3:y=(h*B+l)+2^s*(c*B*2^(32-s)):=by
  have:2^s*(c*B*2^(32-s))=B*(B*c):=by
   conv=>rhs;arg 1;rw[hB]
   ac_rfl
  rw[this,<-h1,<-h2,AbU,AbO B h];omega
 rw[e3,AdQ _ _ hp,Ad8,Nat.add_mul_mod_self_right]
def LS {l:List Nat} (h:Dig l):(toW (val l)).length<=l.length:=D3 (GL h)
def JR {l:List Nat} (h:Dig l):l.take (toW (val l)).length=toW (val l):=by
 conv=>lhs;arg 2;rw[<-Sz h]
 rw[OE (LS h),<-Xc]
def BV (N s r i:Nat):List Nat:=Bp i (r / 2^s)++(Bp N r).drop i
def DO {N s r i:Nat} (h:i<=N):(BV N s r i).length=N:=by simp[BV,A5];omega
def Ri {N s r:Nat}:BV N s r 0=Bp N r:=rfl
def Rk {N s r i:Nat} (h:i<N):(BV N s r i).getD i 0=r / B^i % B:=by have hl:=A5 i (r / 2^s);rw[BV,AbM,AbV (by omega),hl,AdL,AdU,Adt,<-AbM,HZ h]
def Rj {N s r i kk:Nat} (hk:kk<=N) (hr:r<B^kk):((BV N s r i).take kk).getD (i+1) 0=r / B^(i+1) % B:=by
 have hl:=A5 i (r / 2^s);rw[AbM,Ad7];split;·rename_i h;rw[BV,AbV (by omega),hl,AdU,show i+(i+1-i)=i+1 by omega,<-AbM,HZ (by omega)]
 rename_i h;have:r<B^(i+1):=AdA hr (Adc (by decide) (by omega));rw[Adz this];rfl
def SS {N s r i:Nat} (h:i<N):(BV N s r i).set i (r / 2^s / B^i % B)=BV N s r (i+1):=by have hl:=A5 i (r / 2^s);have hl2:=A5 N r;rw[BV,AdF _ _ (by omega),hl,AdL,AdW (by omega),AdD,BV,OG,AdM];rfl
def SA {N s r i:Nat}:Dig (BV N s r i):=(EV _ _).append ((EV _ _).drop _)
def JI {N s r i:Nat}:(BV N s r i).take i=Bp i (r / 2^s):=by rw[BV,Aeg (A5 _ _)]
def Zo {a b p q r:Nat} (hp:0<p) (h:a*p=q*(b*p)+r) (hr:r<b*p):a / b=q/\a % b=r / p/\r / p<=r:=by
 have h1:r % p=0:=by have:=congrArg (· % p) h;simp only[Nat.mul_mod_left] at this;rw[<-AbQ,Nat.mul_add_mod_self_right] at this;exact this.symm
 obtain ⟨c,rfl⟩:=Nat.dvd_of_mod_eq_zero h1;rw[AbO p c] at h hr;have hc:c<b:=Nat.lt_of_mul_lt_mul_right hr;have ha:a=q*b+c:=by rw[<-AbQ,<-AbS] at h;exact Nat.eq_of_mul_eq_mul_right hp h
 rw[Nat.mul_div_cancel_left _ hp];refine ⟨?_,?_,Nat.le_mul_of_pos_left _ hp⟩;·rw[ha,AbO q,Aed (by omega),Adz hc,Adt]
 rw[ha,AbO q,Nat.mul_add_mod_self_left,Ac8 hc]
def XN {l:List Nat} {k z s V:Nat} (hl:Dig l) (hz:l.length=k+2+z) (hs:s<32) (n3:2147483648<=(Bp (k+2) V).getD (k+1) 0):val l*2^s / B^(z+1)<V:=by
 have hB:∀ i,0<B^i:=fun i=>Aeo (by decide);rw[HZ (by omega)] at n3;have h1:2147483648<=V / B^(k+1):=Aea n3 (Nat.mod_le _ _);have h2:2147483648*B^(k+1)<=V:=(Ad4 (hB _)).1 h1;have h3:=GL hl;rw[hz] at h3;have h4:2^s<=2147483648:=Adc (by decide) (show s<=31 by omega);rw[Adh (hB _)];have h5:val l*2^s<B^(k+2+z)*2^s:=AdR h3 (AdK s);have h6:B^(k+2+z)*2^s<=B^(k+2+z)*2147483648:=Adu _ h4;have h7:B^(k+2+z)*2147483648=2147483648*B^(k+1)*B^(z+1):=by rw[AbO,AbQ,<-AdX];congr 2;omega
 have h8:2147483648*B^(k+1)*B^(z+1)<=V*B^(z+1):=AbP _ h2;omega
end Num
namespace Num
open Go Go.Proofs Go.Abs
variable {G:Ah}
def M1:B0:=fun f=>f == 206 || f == 171
def GH:M1 202=false:=rfl
def GG:M1 135=false:=rfl
def GF:M1 203=false:=rfl
def GE:M1 204=false:=rfl
def GD:M1 205=false:=rfl
def GC:M1 173=false:=rfl
def GB:M1 206=true:=rfl
def GA:M1 171=true:=rfl
def J3 (a b:Nat) (hb:b≠0) (ha:(toW a).length<2^38) (hb':(toW b).length<2^38) :
  Ctr TP G 175 [.d (W (toW a)),.d (W (toW b))] [] (.d (.tup [W (toW (a / b)),W (toW (a % b))])) []:=by
 have da:=DL a;have db:=DL b;have va:=Dl a;have vb:=Dl b;have tb:=Xb hb;have hcmp:cmpI (a:Int) b<0↔a<b:=by
  unfold cmpI;split;·omega
  split<;>omega
 refine Ctr.pure (M:=M1) Al Tryz.func175 rfl Acl ?_;simp(maxSteps:=1000000)(disch:=(try simp only[Ad]);omega)only[Tryz.f175,GH,GG,GF,GE,GD,GC,GB,GA,↓Ac,Ae,↓reduceIte,↓reduceDIte,↓Qe,Qu,Qv,Qw,Qx,Qy,Qz,QA,QB,QC,QD,QE,QF,QG,QH,QI,QK];refine Ab.pure (compare_spec a b (by omega) (by omega)) ?_;simp(maxSteps:=1000000)(disch:=(try simp only[Ad]);omega)only[GH,GG,GF,GE,GD,GC,GB,GA,hcmp,↓Ac,Ae,↓reduceIte,↓reduceDIte,↓Qe,Qu,Qv,Qw,Qx,Qy,Qz,QA,QB,QC,QD,QE,QF,QG,QH,QI,QK];refine ⟨fun h=>?_,fun h=>⟨fun h1=>?_,fun h1=>?_⟩⟩;·rw[Adz h,Ac8 h,Bs];refine Ab.pure (EX (toW a) (by omega)) ?_;simp(maxSteps:=1000000)(disch:=(try simp only[Ad]);omega)only[↓Ac,Ae,↓reduceIte,↓reduceDIte,↓Qe,Qu,Qv,Qw,Qx,Qy,Qz,QA,QB,QC,QD,QE,QF,QG,QH,QI,QK];rfl
 ·have h1:(toW b).length=1:=by omega
  have hb1:(toW b).getD 0 0=b:=by have:=BE (toW b) 0;rw[AbH (by omega),vb] at this;simpa[val] using this.symm
  have hbB:b<B:=by rw[<-hb1];exact db.getD 0
  rw[hb1];refine Ab.pure (Tz a b (by omega) hbB (by omega)) ?_;simp(maxSteps:=1000000)(disch:=(try simp only[Ad]);omega)only[GH,GG,GF,GE,GD,GC,GB,GA,↓Ac,Ae,↓reduceIte,↓reduceDIte,↓Qe,Qu,Qv,Qw,Qx,Qy,Qz,QA,QB,QC,QD,QE,QF,QG,QH,QI,QK];have dr:Dig [a % b]:=by intro x hx;simp at hx;subst hx;exact Ad1 (AbT _ (by omega)) hbB
  refine Ab.by (E3 [a % b] 1 dr (by simp) (by simp)) rfl rfl (Ady _) ?_;simp(maxSteps:=1000000)(disch:=(try simp only[Ad]);omega)only[GH,GG,GF,GE,GD,GC,GB,GA,↓Ac,Ae,↓reduceIte,↓reduceDIte,↓Qe,Qu,Qv,Qw,Qx,Qy,Qz,QA,QB,QC,QD,QE,QF,QG,QH,QI,QK];have vr:val [a % b]=a % b:=by simp[val]
  have tr:=JR dr;rw[vr] at tr;rw[vr,tr]
 generalize hl:toW a=l at *;generalize hm:toW b=m at *;obtain ⟨k,hk⟩:∃ k,m.length=k+2:=⟨m.length-2,by
  have:m.length≠0:=by intro h0;have:=AdC.1 h0;subst this;exact hb vb.symm
  omega⟩
 rw[hk,show k+2-1=k+1 from rfl] at tb;have mB:=db.getD (k+1);obtain ⟨z,hz⟩:∃ z,l.length=k+2+z:=⟨l.length-(k+2),by
  have h2:¬l.length<m.length:=by intro h3;rw[<-hl,<-hm] at h3;exact h (FY h3)
  omega⟩
 have e1:(l.length:Int)-((k+2:Nat):Int)+1=((z+1:Nat):Int):=by omega
 simp(maxSteps:=1000000)(disch:=(try simp only[Ad]);omega)only[GH,GG,GF,GE,GD,GC,GB,GA,hk,↓Ac,Ae,↓reduceIte,↓reduceDIte,↓Qe,Qu,Qv,Qw,Qx,Qy,Qz,QA,QB,QC,QD,QE,QF,QG,QH,QI,QK];refine Ab.pure (lz32 _ tb mB) ?_;obtain ⟨n1,n2,n3⟩:=TT db hk tb rfl;generalize hs:31-(m.getD (k+1) 0).log2=s at *;simp(maxSteps:=1000000)(disch:=(try simp only[Ad]);omega)only[GH,GG,GF,GE,GD,GC,GB,GA,hk,↓Ac,Ae,↓reduceIte,↓reduceDIte,↓Qe,Qu,Qv,Qw,Qx,Qy,Qz,QA,QB,QC,QD,QE,QF,QG,QH,QI,QK];refine Ab.by (Ja l s da n1 (by omega)) rfl rfl (by simp) ?_;simp(maxSteps:=1000000)(disch:=(try simp only[Ad]);omega)only[GH,GG,GF,GE,GD,GC,GB,GA,hk,↓Ac,Ae,↓reduceIte,↓reduceDIte,↓Qe,Qu,Qv,Qw,Qx,Qy,Qz,QA,QB,QC,QD,QE,QF,QG,QH,QI,QK];refine Ab.by (Ja m s db n1 (by omega)) (by rw[W,hk]) rfl (by simp) ?_;simp(maxSteps:=1000000)(disch:=(try simp only[Ad]);omega)only[e1,GH,GG,GF,GE,GD,GC,GB,GA,hk,↓Ac,Ae,↓reduceIte,↓reduceDIte,↓Qe,Qu,Qv,Qw,Qx,Qy,Qz,QA,QB,QC,QD,QE,QF,QG,QH,QI,QK];refine ⟨by rfl,?_⟩;have hVz:val m*2^s<B^(k+2+1):=AdA n2 (Adc (by decide) (by omega));generalize hU:val l*2^s=U at *;generalize hV:val m*2^s=V at *;refine As.fx 7936 (α:=Nat × Nat × List Nat) (β:=Nat × List Nat) (fun x=>x.1) (fun x=>[(13,.d (.int .i64 ((x.1:Int)-1)))])
  (fun x=>[.row false (AY .u32 (Bp x.1 U++Bp (l.length+1-x.1) x.2.1)),.row false (AY .u32 (Bp (k+2+1) V)),.row false (AY .u32 (AbR x.1 0++x.2.2))])
  (fun x=>x.1<=z+1/\x.2.2.length+x.1=z+1/\Dig x.2.2/\x.2.1<V/\U / B^x.1=val x.2.2*V+x.2.1)
  5888 (fun _=>[]) (fun x=>[.row false (AY .u32 (Bp (l.length+1) x.1)),.row false (AY .u32 (Bp (k+2+1) V)),.row false (AY .u32 x.2)])
  (fun x=>x.2.length=z+1/\Dig x.2/\x.1<V/\U=val x.2*V+x.1) (z+1,U / B^(z+1),[]) ⟨Ady _,by simp,(fun x hx=>by cases hx),?_,by simp[val]⟩ ?_ ?_ ?_
 ·rw[<-hU];exact XN da hz n1 n3
 ·refine ⟨[some 0,some 1,some 2],rfl,by simp,by simp[sA,kZ,SW,AW],?_⟩;have:Bp (l.length+1) U=Bp (z+1) U++Bp (l.length+1-(z+1)) (U / B^(z+1)):=by rw[<-EU];congr 1;omega
  simp[HW,BW,this,AdI]
 ·rintro ⟨i,r,qd⟩ ⟨hi,hq,hdq,hr,hv⟩;simp only at hi hq hdq hr hv;simp only[Cr,AbY,AbZ,reduceIte];rcases i with _ | j
  ·simp(maxSteps:=1000000)(disch:=(try simp only[Ad]);omega)only[GH,GG,GF,GE,GD,GC,GB,GA,hk,↓Ac,Ae,↓reduceIte,↓reduceDIte,↓Qe,Qu,Qv,Qw,Qx,Qy,Qz,QA,QB,QC,QD,QE,QF,QG,QH,QI,QK];rw[Nat.pow_zero,Nat.div_one] at hv;exact ⟨(r,qd),⟨by simpa using hq,hdq,hr,hv⟩,[some 0,some 1,some 2],rfl,by simp,by simp[SW,AW],by simp[HW,BW,Bp]⟩
  have e2:j+(k+2)+1-j=k+3:=by omega
  simp(maxSteps:=1000000)(disch:=(try simp only[Ad]);omega)only[GH,GG,GF,GE,GD,GC,GB,GA,hk,e2,↓Ac,Ae,↓reduceIte,↓reduceDIte,↓Qe,Qu,Qv,Qw,Qx,Qy,Qz,QA,QB,QC,QD,QE,QF,QG,QH,QI,QK];obtain ⟨hw,hq2⟩:=ZO hv hr;have hrB:r<B^(k+2):=Ad1 hr n2;have eu:Bp (j+1) U++Bp (l.length+1-(j+1)) r=Bp j U++((U / B^j % B::Bp (k+2) r)++AbR (z-j) 0):=by rw[OG,AdM,show l.length+1-(j+1)=(k+2)+(z-j) by omega,IE hrB];rfl
  have ed:Bp (k+2+1) V=Bp (k+2) V++[0]:=IE (z:=1) n2;have du:Dig (U / B^j % B::Bp (k+2) r):=fun x hx=>by
   rcases AdJ.1 hx with rfl | hx
   ·exact AbT _ (by decide)
   exact EV _ _ x hx
  have vu:val (U / B^j % B::Bp (k+2) r)=U / B^j % B+B*r:=by rw[val,GM hrB]
  have vd:val (Bp (k+2) V)=V:=GM n2;have hds:=Ul (G:=G) (Bp j U) (U / B^j % B::Bp (k+2) r) (AbR (z-j) 0) (Bp (k+2) V) [0] k (A5 _ _) (by simp[A5]) (EV _ _) du (by rw[vu,vd];exact hw) n3 (by simp[A5];omega);rw[A5,vu,vd] at hds;refine Ab.by hds rfl (by rw[eu,ed]) (Ady _) ?_;have hr':(U / B^j % B+B*r) % V<V:=AbT _ (by omega);have hqB:(U / B^j % B+B*r) / V<B:=(Adh (by omega)).2 (by have:=hw;rw[AbO V] at this;exact this);generalize hgq:(U / B^j % B+B*r) / V=q1 at *;generalize hgr:(U / B^j % B+B*r) % V=r1 at *;have er:Bp (l.length+1-j) r1=Bp (k+3) r1++AbR (z-j) 0:=by rw[show l.length+1-j=(k+3)+(z-j) by omega,IE];exact AdA (Ad1 hr' n2) (Adc (by decide) (by omega))
  simp(maxSteps:=1000000)(disch:=(try simp only[Ad]);omega)only[GH,GG,GF,GE,GD,GC,GB,GA,hk,e2,↓Ac,Ae,↓reduceIte,↓reduceDIte,↓Qe,Qu,Qv,Qw,Qx,Qy,Qz,QA,QB,QC,QD,QE,QF,QG,QH,QI,QK];refine ⟨(j,r1,q1::qd),⟨by simp only;omega,by simp;omega,?_,hr',by rw[val];rw[Ael q1];exact hq2⟩,by simp,[some 0,some 1,some 2],rfl,by simp,by simp[SW,AW],?_⟩
  ·intro x hx;rcases AdJ.1 hx with rfl | hx
   ·exact hqB
   exact hdq x hx
  simp[HW,BW,er,ed,UX]
 rintro ⟨r,qd⟩ ⟨hq,hdq,hr,hv⟩;simp only at hq hdq hr hv;simp only[Cr,AbY,AbZ,reduceIte];simp(maxSteps:=1000000)(disch:=(try simp only[Ad]);omega)only[GH,GG,GF,GE,GD,GC,GB,GA,hk,↓Ac,Ae,↓reduceIte,↓reduceDIte,↓Qe,Qu,Qv,Qw,Qx,Qy,Qz,QA,QB,QC,QD,QE,QF,QG,QH,QI,QK];have hrB:r<B^(k+2):=Ad1 hr n2;have vt:val ((Bp (l.length+1) r).take (k+2))=r:=by rw[OE (by omega),GM hrB]
 have ht:=E3 (G:=G) (Bp (l.length+1) r) (k+2) (EV _ _) (by rw[A5];omega) (by rw[A5];omega);rw[vt] at ht;refine Ab.by ht rfl rfl (Ady _) ?_;have hkk:(toW r).length<=k+2:=D3 hrB;have hrk:=Ol r;generalize (toW r).length=kk at *;simp(maxSteps:=1000000)(disch:=(try simp only[Ad]);omega)only[GH,GG,GF,GE,GD,GC,GB,GA,hk,↓Ac,Ae,↓reduceIte,↓reduceDIte,↓Qe,Qu,Qv,Qw,Qx,Qy,Qz,QA,QB,QC,QD,QE,QF,QG,QH,QI,QK];have hm2:(2:Int)^s=((2^s:Nat):Int):=by simp
 have hmin:min s 64=s:=by omega
 refine As.fx 77371252455336267181216256 (α:=Nat) (β:=Unit) (fun i=>kk-i) (fun i=>[(87,.d (.int .i64 i))])
  (fun i=>[.row false (AY .u32 (BV (l.length+1) s r i)),.row false (AY .u32 (Bp (k+2+1) V)),.row false (AY .u32 qd)]) (fun i=>i<=kk)
  20480 (fun _=>[]) (fun _=>[.row false (AY .u32 (BV (l.length+1) s r kk)),.row false (AY .u32 (Bp (k+2+1) V)),.row false (AY .u32 qd)]) (fun _=>True) 0 (Aen _) ?_ ?_ ?_
 ·exact ⟨[some 0,some 1,some 2],rfl,by simp,by simp[sA,kZ,SW,AW],by simp[HW,BW,Ri]⟩
 ·intro i hi;simp only[Cr,AbY,AbZ,reduceIte];have b1:=DO (s:=s) (r:=r) (show i<=l.length+1 by omega);simp(maxSteps:=1000000)(disch:=(try simp only[Ad]);omega)only[GH,GG,GF,GE,GD,GC,GB,GA,hk,b1,↓Ac,Ae,↓reduceIte,↓reduceDIte,↓Qe,Qu,Qv,Qw,Qx,Qy,Qz,QA,QB,QC,QD,QE,QF,QG,QH,QI,QK];refine ⟨fun h5=>?_,fun h5=>?_⟩
  ·refine Ab.frozenE (Rm ((BV (l.length+1) s r i).take kk) (i+1)) (by simp[W,b1];omega) ?_;rw[Rj (by omega) hrk];have b3:=Rk (N:=l.length+1) (s:=s) (r:=r) (i:=i) (by omega);have hun:=Zn (r:=r) (i:=i) n1;have bs:=SS (N:=l.length+1) (s:=s) (r:=r) (i:=i) (by omega);have g1:r / B^(i+1) % B<4294967296:=AbT _ (by decide);have g2:r / B^i % B<4294967296:=AbT _ (by decide);generalize r / B^(i+1) % B=hi' at *;generalize r / B^i % B=lo at *;simp(maxSteps:=1000000)(disch:=(try simp only[Ad]);omega)only[GH,GG,GF,GE,GD,GC,GB,GA,hk,b1,b3,XO,hmin,hm2,Yu,IX,↓Ac,Ae,↓reduceIte,↓reduceDIte,↓Qe,Qu,Qv,Qw,Qx,Qy,Qz,QA,QB,QC,QD,QE,QF,QG,QH,QI,QK];have hun':(hi'*4294967296+lo) / 2^s % 4294967296=r / 2^s / B^i % B:=hun;rw[hun',bs];exact ⟨i+1,by omega,by simp only;omega,[some 0,some 1,some 2],rfl,by simp,by simp[SW,AW],by simp[HW,BW]⟩
  have:i=kk:=by omega
  subst this;exact ⟨(),trivial,[some 0,some 1,some 2],rfl,by simp,by simp[SW,AW],by simp[HW,BW]⟩
 rintro ⟨⟩ -;simp only[Cr,AbY,AbZ,reduceIte];simp(maxSteps:=1000000)(disch:=(try simp only[Ad]);omega)only[GH,GG,GF,GE,GD,GC,GB,GA,hk,↓Ac,Ae,↓reduceIte,↓reduceDIte,↓Qe,Qu,Qv,Qw,Qx,Qy,Qz,QA,QB,QC,QD,QE,QF,QG,QH,QI,QK];have hq1:=E3 (G:=G) qd (z+1) hdq (by omega) (by omega);rw[AbH (by omega)] at hq1;refine Ab.by hq1 rfl rfl (Ady _) ?_;simp(maxSteps:=1000000)(disch:=(try simp only[Ad]);omega)only[GH,GG,GF,GE,GD,GC,GB,GA,hk,↓Ac,Ae,↓reduceIte,↓reduceDIte,↓Qe,Qu,Qv,Qw,Qx,Qy,Qz,QA,QB,QC,QD,QE,QF,QG,QH,QI,QK];have hus:=Zo (a:=a) (b:=b) (AdK s) (by rw[<-va,<-vb,hU,hV];exact hv) (by rw[<-vb,hV];exact hr);have vt2:val ((BV (l.length+1) s r kk).take kk)=r / 2^s:=by rw[JI,GM (Ad9 hus.2.2 hrk)]
 have hr1:=E3 (G:=G) (BV (l.length+1) s r kk) kk SA (by rw[DO (by omega)];omega) (by rw[DO (by omega)];omega);have htr:=JR (EV kk (r / 2^s));have htl:=LS (EV kk (r / 2^s));rw[GM (Ad9 hus.2.2 hrk)] at htr htl;rw[A5] at htl;rw[vt2] at hr1;refine Ab.by hr1 rfl rfl (Ady _) ?_;have htq:=JR hdq;have b1:=DO (s:=s) (r:=r) (show kk<=l.length+1 by omega);have hlq:=LS hdq;simp(maxSteps:=1000000)(disch:=(try simp only[Ad]);omega)only[GH,GG,GF,GE,GD,GC,GB,GA,hk,b1,↓Ac,Ae,↓reduceIte,↓reduceDIte,↓Qe,Qu,Qv,Qw,Qx,Qy,Qz,QA,QB,QC,QD,QE,QF,QG,QH,QI,QK];have e5:(BV (l.length+1) s r kk).take (toW (r / 2^s)).length=toW (r / 2^s):=by have:=congrArg (List.take (toW (r / 2^s)).length) (JI (N:=l.length+1) (s:=s) (r:=r) (i:=kk));rw[List.take_take,Aef htl,htr] at this;exact this
 rw[e5,htq,hus.1,hus.2.1]
def FX {a b:Nat} (h:a<=b):(toW a).length<=(toW b).length:=by
 by_cases h2:(toW b).length<(toW a).length;·have:=FY h2;omega
 omega
def SM (a b:Nat) (ha:(toW a).length<2^38) (hb:(toW b).length<2^38) :
  Ctr TP G 174 [.d (W (toW a)),.d (W (toW b))] [] (.d (W (toW (AdO a b)))) []:=by
 refine Ctr.pure (M:=M0) Al Tryz.func174 rfl Acm ?_;simp(disch:=(try simp only[Ad]);omega)only[Tryz.f174,↓Ac,Ae,↓reduceIte,↓reduceDIte,↓Qe,Qu,Qv,Qw,Qx,Qy,Qz,QA,QB,QC,QD,QE,QF,QG,QH,QI,QK];refine As.fr 0 (α:=Nat × Nat) (fun x=>x.2) (fun x=>[(0,.d (W (toW x.1))),(1,.d (W (toW x.2)))]) (fun _=>[]) (fun x=>AdO x.1 x.2=AdO a b/\(toW x.1).length<2^38/\(toW x.2).length<2^38) (a,b) ⟨rfl,ha,hb⟩ ?_ ?_;·exact ⟨[],rfl,by simp,by simp[sA,kZ,SW,AW],by simp[HW,BW,SW,AW]⟩
 rintro ⟨x,y⟩ ⟨hg,hx,hy⟩;simp only at hg hx hy;simp only[Cr,AbY,AbZ,reduceIte];by_cases h0:y=0;·subst h0;rw[Nat.gcd_zero_right] at hg;subst hg;have e:toW 0=[]:=Bs;rw[e];simp(disch:=(try simp only[Ad]);omega)only[↓Ac,Ae,↓reduceIte,↓reduceDIte,↓Qe,Qu,Qv,Qw,Qx,Qy,Qz,QA,QB,QC,QD,QE,QF,QG,QH,QI,QK]
 have hp:0<(toW y).length:=by
  rcases AdT (toW y).length with h | h
  ·exact absurd (UK.1 (AdC.1 h)) h0
  exact h
 simp(disch:=(try simp only[Ad]);omega)only[↓Ac,Ae,↓reduceIte,↓reduceDIte,↓Qe,Qu,Qv,Qw,Qx,Qy,Qz,QA,QB,QC,QD,QE,QF,QG,QH,QI,QK];refine Ab.pure (J3 x y h0 hx hy) ?_;simp(disch:=(try simp only[Ad]);omega)only[↓Ac,Ae,↓reduceIte,↓reduceDIte,↓Qe,Qu,Qv,Qw,Qx,Qy,Qz,QA,QB,QC,QD,QE,QF,QG,QH,QI,QK];have hlt:=AbT x (Nat.pos_of_ne_zero h0);refine ⟨(y,x % y),⟨by rw[<-hg,Ad2 x y];rw[Ad2 y (x % y)];exact (Nat.gcd_rec y x).symm,hy,?_⟩,hlt,⟨[],rfl,by simp,by simp[sA,kZ,SW,AW],by simp[HW,BW,SW,AW]⟩⟩;have:=FX (AdZ hlt);simp only;omega
abbrev Abx (n:Int):List D:=[.bool (decide (n<0)),W (toW n.natAbs)]
abbrev Big (n:Int):D:=.agg (Abx n)
abbrev Frac (x:Rat):D:=.agg [.bool (decide (x.num<0)),W (toW x.num.natAbs),.bool false,W (toW x.den)]
abbrev sz (n:Int):Nat:=(toW n.natAbs).length
def Aa3 {n:Nat}:0<(toW n).length↔n≠0:=by rw[Nat.pos_iff_ne_zero,ne_eq,AdC,UK]
def B7 (neg:Bool) (n:Nat) (hn:(toW n).length<2^38):Ctr TP G 140 [.d (.bool neg),.d (W (toW n))] [] (.d (Big (if neg then -(n:Int) else n))) []:=by
 refine Ctr.pure (M:=M0) Al Tryz.func140 rfl AcF ?_;cases neg;·simp(disch:=(try simp only[Ad]);omega)only[Tryz.f140,↓Ac,Ae,↓reduceIte,↓reduceDIte,↓Qe,Qu,Qv,Qw,Qx,Qy,Qz,QA,QB,QC,QD,QE,QF,QG,QH,QI,QK];simp[Big,Abx,W]
 simp(disch:=(try simp only[Ad]);omega)only[Tryz.f140,↓Ac,Ae,↓reduceIte,↓reduceDIte,↓Qe,Qu,Qv,Qw,Qx,Qy,Qz,QA,QB,QC,QD,QE,QF,QG,QH,QI,QK];have:=@Aa3 n;simp[Big,Abx,W];omega
def Xr {n d:Int} (hd:d≠0):d.sign*n=if ¬decide (n<0)=decide (d<0) then -((n.natAbs:Nat):Int) else ((n.natAbs:Nat):Int):=by
 rcases Int.lt_or_gt_of_ne hd with h | h
 ·rw[Int.sign_eq_neg_one_of_neg h];by_cases hn:n<0<;>simp[hn,h]<;>omega
 rw[Int.sign_eq_one_of_pos h];by_cases hn:n<0<;>simp[hn,show ¬d<0 by omega]<;>omega
def ZR {m g:Nat} (h:g ∣ m):(-((m:Nat):Int)) / (g:Int)=-((m / g:Nat):Int):=by rw[Int.neg_ediv_of_dvd (Int.natCast_dvd_natCast.2 h)];rfl
def Vk {a b:Nat}:(toW (a / b)).length<=(toW a).length:=FX (Aee _ _)
def ED (n d:Int) (hd:d≠0) (hn:sz n<2^36) (hds:sz d<2^36):Ctr TP G 139 [.d (Big n),.d (Big d)] [] (.d (Frac (Rat.divInt n d))) []:=by
 simp only[sz] at hn hds;have hg0:AdO n.natAbs d.natAbs≠0:=by intro h;exact hd (Int.natAbs_eq_zero.1 (Nat.gcd_eq_zero_iff.1 h).2)
 have hgl:(toW (AdO n.natAbs d.natAbs)).length<=(toW d.natAbs).length:=FX (Nat.gcd_le_right _ (by omega));have hx:=@Vk n.natAbs (AdO n.natAbs d.natAbs);have hy:=@Vk d.natAbs (AdO n.natAbs d.natAbs);have e1:(Rat.divInt n d).num=if ¬decide (n<0)=decide (d<0) then -((n.natAbs / AdO n.natAbs d.natAbs:Nat):Int) else ((n.natAbs / AdO n.natAbs d.natAbs:Nat):Int):=by
  rw[Rat.num_divInt,Xr hd,Int.gcd,Ad2 d.natAbs];split;·exact ZR (Nat.gcd_dvd_left _ _)
  rfl
 have e2:(Rat.divInt n d).den=d.natAbs / AdO n.natAbs d.natAbs:=by rw[Rat.den_divInt,if_neg hd,Int.gcd,Ad2 d.natAbs]
 refine Ctr.pure (M:=M0) Al Tryz.func139 rfl AcG ?_;simp(disch:=(try simp only[Ad]);omega)only[Tryz.f139,↓Ac,Ae,↓reduceIte,↓reduceDIte,↓Qe,Qu,Qv,Qw,Qx,Qy,Qz,QA,QB,QC,QD,QE,QF,QG,QH,QI,QK];refine Ab.pure (SM _ _ (by omega) (by omega)) ?_;generalize AdO n.natAbs d.natAbs=g at *;simp(disch:=(try simp only[Ad]);omega)only[↓Ac,Ae,↓reduceIte,↓reduceDIte,↓Qe,Qu,Qv,Qw,Qx,Qy,Qz,QA,QB,QC,QD,QE,QF,QG,QH,QI,QK];refine Ab.pure (J3 _ g hg0 (by omega) (by omega)) ?_;simp(disch:=(try simp only[Ad]);omega)only[↓Ac,Ae,↓reduceIte,↓reduceDIte,↓Qe,Qu,Qv,Qw,Qx,Qy,Qz,QA,QB,QC,QD,QE,QF,QG,QH,QI,QK];refine Ab.pure (J3 _ g hg0 (by omega) (by omega)) ?_;simp(disch:=(try simp only[Ad]);omega)only[↓Ac,Ae,↓reduceIte,↓reduceDIte,↓Qe,Qu,Qv,Qw,Qx,Qy,Qz,QA,QB,QC,QD,QE,QF,QG,QH,QI,QK];refine Ab.pure (B7 _ _ (by omega)) ?_;simp(disch:=(try simp only[Ad]);omega)only[↓Ac,Ae,↓reduceIte,↓reduceDIte,↓Qe,Qu,Qv,Qw,Qx,Qy,Qz,QA,QB,QC,QD,QE,QF,QG,QH,QI,QK];refine Ab.pure (B7 false _ (by omega)) ?_;simp only[Frac];rw[e1,e2];simp(disch:=(try simp only[Ad]);omega)only[↓Ac,Ae,↓reduceIte,↓reduceDIte,↓Qe,Qu,Qv,Qw,Qx,Qy,Qz,QA,QB,QC,QD,QE,QF,QG,QH,QI,QK]
def FV (x:Rat):Prop:=sz x.num<=256/\(toW x.den).length<=256
instance (x:Rat):Decidable (FV x):=inferInstanceAs (Decidable (_/\_))
def HG (G:Ah):Prop:=G 2=some [W [1]]
def Lu:toW 1=[1]:=by rw[E4 (by decide),show 1 / B=0 from rfl,Bs];rfl
abbrev Zf:D:=.agg [.bool false,.sl 0 false [],.bool false,.sl 0 false []]
end Num
section
open Go Go.Proofs Go.Abs Go.RowKit Go.ChangeShapes Go.WideShapes Go.ChangeAt Go.Shelf Go.Joins Go.Deep
def gOne:Tryz.prog.globalNamed "tablefinder/fraction.one" = some 2:=by kernel_rfl
def tOne:(Tryz.prog.globals[2]?).map (·.type)=some 205:=by kernel_rfl
def cU32:Tryz.prog.cellsOf 187=1:=by kernel_rfl
def G2 (b:Bool):Ah:=fun g=>if g=2 then some [Num.W [1]] else G1 b g
def hT2 {b:Bool}:HT (G2 b):=⟨rfl,rfl⟩
def hP2 {b:Bool}:HP (G2 b):=rfl
def hI2 {b:Bool}:HI (G2 b):=AbN hP2
def hG2 {b:Bool}:Num.HG (G2 b):=by simp[Num.HG,G2]
def Z7 {X:World} {b:Bool} (h0:Rs (G1 b) X) (h:Lib.VarReads TP X "tablefinder/fraction.one" Rows.laid_tablefinder_fraction_one):Rs (G2 b) X:=by
 obtain ⟨g,t,cs,fuel,p,hg,ht,hv,hd⟩:=h;obtain rfl:=Option.some.inj (gOne.symm.trans hg);obtain rfl:=Option.some.inj (tOne.symm.trans ht);rcases open_ints Tryz.underlying205 Tryz.underlying187 cU32 hd with ⟨_,hx⟩ | ⟨a,len,cap,zs,hcs,_,hl,hm,hz,hx,hcell,_⟩
 ·simp[Rows.laid_tablefinder_fraction_one] at hx
 have hz:zs.length=cap:=by simpa using hz
 simp only[Rows.laid_tablefinder_fraction_one,Prod.mk.injEq,DataW.slice.injEq] at hx;obtain ⟨⟨h1,h2⟩,_⟩:=hx;have e1:(zs.take len).length=1:=by have:=congrArg List.length h1;simpa[lits] using this.symm
 have e2:(zs.drop len).length=0:=by have:=congrArg List.length h2;simpa[lits] using this.symm
 have e3:len=1/\cap=1:=by simp at e1 e2;omega
 obtain ⟨rfl,rfl⟩:=e3;obtain ⟨z,rfl⟩:∃ z,zs=[z]:=by
  match zs,hz with
  | [z],_=>exact ⟨z,rfl⟩
 have ez:z=1:=by have:=h1;simp[lits] at this;exact this.symm
 subst ez;have hz0:=World.var?_cell hg hv 0;have e4:cs[0]?=some (.slice (some a) 1 1):=by
  have:cs=#[.slice (some a) 1 1]:=by rw[<-Array.toArray_toList (xs:=cs),hcs]
  rw[this];rfl
 rw[e4] at hz0;rcases Vy (W:=X) (k:=.u32) hl (by simp) hcell with hr | hr
 ·intro g ds hgd;simp only[G2] at hgd;split at hgd
  ·rename_i hgg;subst hgg;cases hgd;refine ⟨fun _=>.slice (some a) 1 1,fun i x hx=>?_,fun i x hx=>?_⟩
   ·rcases i with _ | i
    ·exact hz0
    simp at hx
   rcases i with _ | i
   ·simp at hx;subst hx;exact hr
   simp at hx
  exact h0 g ds hgd
 cases hr
end
end Go.Proofs.YtmidaophnbdcdaaGreatDoor
