/-
  Contracts of the functions, one after another.
-/
import Derived.Test.YtmidaophnbdcdaaGreatDoorMb1
set_option linter.all false
open Go.Abs renaming Bc->HW,Dv->BW,Cx->SW,Ap->AW,BP->sA,Bw->kZ
open Go.Proofs.Tryz renaming prog->TP
set_option maxHeartbeats 4000000
set_option maxRecDepth 1000000
open Go.Abs renaming FW->Qa,Co->Qb,BU->Qc,Cg->Qd,DD->Qe,AP->Qf,AY->Qg,AG->Qh,Bl->Qi,Dc->Qj,He->Qk,Fx->Ql,Cb->Qm,B4->Qn,BE->Qo,C2->Qr,unfA->Qs,Gr->QJ,Kv->QL,CA->QM,EZ->QN,ID->QO,Hv->QP,BS->QQ
open Go.Abs.AV renaming one->Qp
open Go.Abs.D renaming one->Qq
open Go.IntKind renaming signed->Qt
open Nat renaming reduceAdd->Qu,reduceSub->Qv,reduceMul->Qw,reducePow->Qx,reduceDiv->Qy,reduceMod->Qz,reduceEqDiff->QI,reduceBEq->QK
open Int renaming reduceAdd->QA,reduceSub->QB,reduceMul->QC,reducePow->QD,reduceNeg->QE,reduceToNat->QF,reduceLT->QG,reduceLE->QH
open List renaming getD_eq_getElem?_getD->AbY,take_of_length_le->AbZ,replicate->Aer,getElem?_append_right->Aex,set_cons_zero->Agb,length_eq_zero_iff->Agv,set_cons_succ->Agw,set_append_right->Agy,getElem?_append_left->AgA,replicate_succ->AgB,mem_cons->AgC,append_assoc->AgF,drop_of_length_le->AgG,getElem?_eq_none->AgH,getElem?_take->AgN,getElem?_drop->AgP,drop_eq_getElem_cons->AgR,not_mem_nil->AgS,foldl->AgT,drop_length->Ag6,take_length->Ag7,cons_append->Ag8,take_left'->Ahb,take_take->Ahc,drop_zero->Ahd,nodup_nil->Ahg
open Nat renaming mul_comm->Aeg,mul_le_mul_right->Aen,mul_assoc->Aeq,add_mul->Aes,pow_le_pow_right->Aet,mod_lt->Aeu,pow_succ->Aev,mul_add->Aew,reduceMod->AeA,reduceDiv->AeB,mod_add_div->AfI,lt_of_lt_of_le->AfZ,mod_eq_of_lt->Af0,div_div_eq_div_mul->Af1,mul_le_mul_left->Af2,le_refl->Af7,div_lt_iff_lt_mul->Aga,add_zero->Agp,div_eq_of_lt->Agq,add_sub_cancel_left->Agu,mul_zero->Agx,one_mul->Agz,two_pow_pos->AgD,sub_self->AgE,gcd->AgI,log2_lt->AgJ,add_mul_div_left->AgK,pow_add->AgL,mul_lt_mul_of_pos_right->AgM,eq_zero_or_pos->AgO,add_mul_mod_self_left->AgQ,le_of_lt->AgU,zero_add->AgV,lt_trans->AgW,gcd_comm->AgX,min_eq_left->AgY,le_div_iff_mul_le->AgZ,mul_one->Ag0,and_lt_two_pow->Ag1,add_sub_cancel->Ag2,mul_right_comm->Ag3,lt_of_le_of_lt->Ag4,le_trans->Ag5,mul_add_div->Ag9,div_le_self->Aha,mul_le_mul->Ahf,add_comm->Ahh,zero_mul->Ahi,zero_le->Ahj,pow_pos->Ahk,sub_lt->Ahl
open Int renaming ofNat_tdiv->Ahe
namespace Go.Proofs.YtmidaophnbdcdaaGreatDoor
namespace Num
open Go Go.Proofs Go.Abs
abbrev W (l:List Nat):D:=.sl l.length false (AR .u32 l)
variable {G:Ah}
abbrev M0:B8:=fun _=>false
def Tb (l:List Nat) (i:Nat) :
  Ctr TP G 173 [.d (W l),.d (.int .i64 i)] [] (.d (.int .u32 (l.getD i 0:Nat))) []:=by
 refine Ctr.pure (M:=M0) Ak Tryz.func173 rfl Ae2 ?_;simp(disch:=try exact aa)only[Tryz.f173,↓Ab,Ad,↓reduceIte,↓Qe,Qu,Qv];intro h;rw[AbY,AgH lA];rfl
def E8 (l:List Nat) (hd:Dig l) (hl:l.length<2^60):Ctr TP G 171 [.d (W l)] [] (.d (W (toW (val l)))) []:=by
 refine Ctr.pure (M:=M0) Ak Tryz.func171 rfl Adq ?_;simp only[Tryz.f171,↓Ab,awV,Qa,Qb,Qv];refine Al.inv (α:=Nat) (fun k=>k) (fun k=>mkS 21 [(0,.d (.sl k false (AR .u32 (l.take k))))]) (fun _=>[]) (fun k=>k<=l.length/\val (l.take k)=val l) l.length ⟨Af7 _,lC⟩ (.pure ?_) ?_;·simp[mkS,SW,AW]
 rintro k ⟨hk,hv⟩;simp only[mkS,AgT,Aer,Agb];simp(disch:=try exact aa)only[↓Ab,Ad,↓reduceIte,↓Qe];refine ⟨fun h=>⟨fun h0=>⟨k-1,⟨lA,?_⟩,Ahl lA lz,.pure ?_⟩,fun h0=>?_⟩,fun h=>?_⟩
 ·have e:((k:Int)-1).toNat=k-1:=by omega
  rw[e,AbY,AgN,if_pos lA,<-AbY] at h0;have:=Jj (l:=l) (k:=k-1) lA;rw[show k-1+1=k by omega,hv] at this;rw[this,show l.getD (k-1) 0=0 by omega];simp
 ·have e:((k:Int)-1).toNat=k-1:=by omega
  simp[SW,AW,e,Ahc]
 ·have e:((k:Int)-1).toNat=k-1:=by omega
  rw[e] at h0;have:=ZO (hd.take k) (.inr (by rw[show (l.take k).length-1=k-1 by simp;omega];omega));rw[hv] at this;rw[this];simp[W,hk,AgY]
 have:k=0:=lA
 subst this;have:val l=0:=by rw[<-hv];rfl
 rw[this,A5];rfl
def PY (a:Int):Ctr TP G 246 [.d (.int .i64 a)] [] (.d (.bool false)) []:=by refine Ctr.pure (M:=M0) Ak Tryz.func246 rfl Adl ?_;simp only[Tryz.f246,↓Ab,Ad,↓Qe,Qv]
def PX (a:Int):Ctr TP G 247 [.d (.int .u32 a)] [] (.d (.bool false)) []:=by refine Ctr.pure (M:=M0) Ak Tryz.func247 rfl AeC ?_;simp only[Tryz.f247,↓Ab,Ad,↓Qe,Qv]
def AcZ (a b:Int):Ctr TP G 221 [.d (.int .i64 a),.d (.int .i64 b)] [] (.d (.int .i64 (cmpI a b))) []:=by refine Ctr.pure (M:=M0) Ak Tryz.func221 rfl Adm ?_;simp only[Tryz.f221,↓Ab,Ad,↓reduceIte,Qu,Qv,QE];refine Aa.pure (PY _) ?_;simp only[↓Ab,Ad,↓reduceIte,QE];refine Aa.pure (PY _) ?_;exact pi
def AcY (a b:Int):Ctr TP G 222 [.d (.int .u32 a),.d (.int .u32 b)] [] (.d (.int .i64 (cmpI a b))) []:=by refine Ctr.pure (M:=M0) Ak Tryz.func222 rfl AeG ?_;simp only[Tryz.f222,↓Ab,Ad,↓reduceIte,Qu,Qv,QE];refine Aa.pure (PX _) ?_;simp only[↓Ab,Ad,↓reduceIte,QE];refine Aa.pure (PX _) ?_;exact pi
def Ady (x y c:Nat) (hx:x<B) (hy:y<B) (hc:c<=1):Ctr TP G 172 [.d (.int .u32 x),.d (.int .u32 y),.d (.int .u32 c)] []
  (.d (.tup [.int .u32 ((x+y+c) % B:Nat),.int .u32 ((x+y+c) / B:Nat)])) []:=by
 refine Ctr.pure (M:=M0) Ak Tryz.func172 rfl Ae3 ?_;simp only[B] at *;simp(disch:=try exact aa)only[Tryz.f172,↓Ab,Ad,↓Qe,Qu,Qv,QD,QF];rw[show IntKind.u32.wrap ((x+y+c:Nat):Int)=(((x+y+c) % 4294967296:Nat):Int) by simp[IntKind.wrap,IntKind.bits,IntKind.signed]];simp
def Adg (x y c:Nat) (hx:x<B) (hy:y<B) (hc:c<=1):Ctr TP G 225 [.d (.int .u32 x),.d (.int .u32 y),.d (.int .u32 c)] []
  (.d (.tup [.int .u32 ((x+B-y-c) % B:Nat),.int .u32 ((if x<y+c then 1 else 0:Nat):Int)])) []:=by
 refine Ctr.pure (M:=M0) Ak Tryz.func225 rfl AeD ?_;simp only[B] at *;simp(disch:=try exact aa)only[Tryz.f225,↓Ab,Ad,↓reduceIte,↓Qe,Qu,Qv,QB,QD,QF];have e1:IntKind.u32.wrap (IntKind.u32.wrap ((x:Int)-(y:Int))-(c:Int))=(((x+4294967296-y-c) % 4294967296:Nat):Int):=bt
 have hxy:x ^^^ y<2^32:=Nat.xor_lt_two_pow lA lA;have h1:((4294967295-x) &&& y)<2^32:=Ag1 _ lA;have h2:((4294967295-(x ^^^ y)) &&& ((x+4294967296-y-c) % 4294967296))<2^32:=Ag1 _ lA;rw[e1,IB hx hy,ZB hx,ZB hxy,Ec lA hy,Ec lA lA,DM h1 h2];have:=Ad5 hx hy hc rfl;rw[<-this];rfl
end Num
namespace Num
open Go Go.Proofs Go.Abs
variable {G:Ah}
def compare_spec (a b:Nat) (ha:(toW a).length<2^40) (hb:(toW b).length<2^40) :
  Ctr TP G 202 [.d (W (toW a)),.d (W (toW b))] [] (.d (.int .i64 (cmpI a b))) []:=by
 have da:=Bg a;have db:=Bg b;have va:=Bf a;have vb:=Bf b;have la:=@Ek a b;have lb:=@Ek b a;generalize toW a=l at *;generalize toW b=m at *;refine Ctr.pure (M:=M0) Ak Tryz.func202 rfl AeN ?_;simp only[Tryz.f202,↓Ab,Ad,↓reduceIte,Qu,Qv];refine Aa.pure (AcZ _ _) ?_;simp(disch:=try exact aa)only[↓Ab,Ad,↓Qe];refine ⟨fun h=>?_,fun h=>?_⟩
 ·refine XS (fun h=>?_) (fun h=>?_) (fun h'=>absurd (Fh h') h);·have:=la lA;omega
  have:=lb lA;omega
 have e:l.length=m.length:=by have:=Rp.1 h;omega
 refine Al.inv (α:=Nat) (fun k=>k) (fun k=>mkS 35 [(0,.d (W l)),(1,.d (W m)),(6,.d (.int .i64 ((k:Int)-1)))]) (fun _=>[]) (fun k=>k<=l.length/\l.drop k=m.drop k) l.length ⟨Af7 _,by rw[Ag6,e,Ag6]⟩ (.pure ?_) ?_;·simp[mkS,SW,AW]
 rintro k ⟨hk,hv⟩;simp only[mkS,AgT,Aer,Agb,Agw];simp(disch:=try exact aa)only[↓Ab,Ad,↓reduceIte,↓Qe];refine ⟨fun h=>?_,fun h=>?_⟩
 ·have e1:((k:Int)-1).toNat=k-1:=by omega
  refine Aa.pure (AcY _ _) ?_;simp(disch:=try exact aa)only[↓Ab,Ad,↓Qe];refine ⟨lD,fun h1=>?_,fun h1=>?_⟩
  ·rw[e1,<-va,<-vb];rw[e1] at h1;refine XS (fun h2=>?_) (fun h2=>?_) (fun h'=>absurd (Fh h') h1);·have:=IK (k:=k-1) da lA lA cZ (by omega:l.getD (k-1) 0<m.getD (k-1) 0);omega
   have:=IK (k:=k-1) db lA lA (by rw[show k-1+1=k by omega];exact hv.symm) (by omega:m.getD (k-1) 0<l.getD (k-1) 0);omega
  rw[e1] at h1;have h2:=Rp.1 h1;refine ⟨k-1,⟨lA,XM lA lA cZ lA⟩,Ahl lA lz,.pure ?_⟩;simp[SW,AW];omega
 have:k=0:=lA
 subst this;simp only[Ahd] at hv;rw[<-va,<-vb,hv];exact (Fh rfl).symm
def IY (a b:Nat) (ha:(toW a).length<2^40) (hb:(toW b).length<2^40) :
  Ctr TP G 137 [.d (W (toW a)),.d (W (toW b))] [] (.d (W (toW (a+b)))) []:=by
 have da:=Bg a;have db:=Bg b;have va:=Bf a;have vb:=Bf b;generalize toW a=l at *;generalize toW b=m at *;refine Ctr.pure (M:=M0) Ak Tryz.func137 rfl Aft ?_;simp(disch:=try exact aa)only[Tryz.f137,↓Ab,Ad,↓reduceIte,Qu,Qv];refine Al.inv (α:=Nat × List Nat × Nat) (fun x=>max l.length m.length-x.1) (fun x=>mkS 45 [(0,.d (W l)),(1,.d (W m)),(5,.lsl 0 1 0 x.1),(6,.d (.int .u32 x.2.2)),(20,.d (.int .i64 (max l.length m.length:Nat))),(21,.d (.int .i64 x.1))])
  (fun x=>[.row false (AR .u32 x.2.1)]) (fun x=>x.1<=max l.length m.length/\x.2.1.length=x.1/\Dig x.2.1/\x.2.2<=1/\val x.2.1+B^x.1*x.2.2=val (l.take x.1)+val (m.take x.1)) (0,[],0) nF ?_ ?_
 ·refine np
 rintro ⟨k,out,c⟩ ⟨hk,ho,hd,hc,hv⟩;simp only at hk ho hd hc hv;simp only[mkS,AgT,Aer,Agb,Agw];simp(disch:=try exact aa)only[↓Ab,Ad,↓reduceIte,Qu];refine ⟨fun h=>?_,fun h=>?_⟩
 ·refine Aa.pure (Tb l k) ?_;simp only[↓Ab,Ad,↓reduceIte];refine Aa.pure (Tb m k) ?_;simp only[↓Ab,Ad,↓reduceIte];refine Aa.pure (Ady _ _ _ (da.getD k) (db.getD k) hc) ?_;simp(disch:=try exact aa)only[↓Ab,Ad,↓reduceIte,Qu];refine ⟨(k+1,out++[(l.getD k 0+m.getD k 0+c) % B],(l.getD k 0+m.getD k 0+c) / B),⟨lA,kR,hd.append ?_,?_,?_⟩,iz,[some 2],rfl,lC,?_,?_⟩;·intro x hx;simp at hx;subst hx;exact Aeu _ lz
  ·have h1:=da.getD k;have h2:=db.getD k;simp only[B] at *;omega
  ·have e1:val (l.take (k+1))=val (l.take k)+B^k*l.getD k 0:=Bo l k;have e2:val (m.take (k+1))=val (m.take k)+B^k*m.getD k 0:=Bo m k;simp only[e1,e2,BZ,ho,val,Agx,Agp];have e3:=AfI (l.getD k 0+m.getD k 0+c) B;have e4:B^(k+1)=B^k*B:=Aev ..;rw[e4,Aeq,Nat.add_assoc,<-Aew,e3];simp only[Aew];omega
  ·simp[SW,AW]
  simp[HW,BW]
 have ek:k=max l.length m.length:=lA
 have e:(D.sl (k+1) false (AR .u32 (out++[c])))=W (out++[c]):=kf
 have hv':val (out++[c])=a+b:=by rw[AbZ lA,AbZ lA] at hv;rw[BZ,ho];simp[val,hv,va,vb]
 rw[e];refine Aa.frozen (E8 _ (hd.append ?_) ?_) ?_;·intro x hx;simp at hx;subst hx;simp only[B];omega
 ·simp[ho];omega
 rw[hv'];exact pg
def Db (a b:Nat) (ha:(toW a).length<2^40) (hb:(toW b).length<2^40) :
  Ctr TP G 136 [.d (W (toW a)),.d (W (toW b))] [] (.d (W (toW (a*b)))) []:=by
 have da:=Bg a;have db:=Bg b;have va:=Bf a;have vb:=Bf b;generalize toW a=l at *;generalize toW b=m at *;refine Ctr.pure (M:=M0) Ak Tryz.func136 rfl Afu ?_;simp(disch:=try exact aa)only[Tryz.f136,↓Ab,Ad,↓reduceIte,Qu,Qv];refine Al.inv (α:=Nat × List Nat) (fun x=>l.length-x.1) (fun x=>mkS 67 [(0,.d (W l)),(1,.d (W m)),(5,.lsl 0 1 0 (l.length+m.length)),(17,.d (W l)),(18,.d (.int .i64 l.length)),(19,.d (.int .i64 x.1))])
  (fun x=>[.row false (AR .u32 x.2)]) (fun x=>x.1<=l.length/\x.2.length=l.length+m.length/\Dig x.2/\val x.2=val (l.take x.1)*b/\∀ p,x.1+m.length<=p->x.2.getD p 0=0) (0,Aer (l.length+m.length) 0)
  ⟨lC,lC,Dig.zeros _,by simp[KW,val],fun p _=>by simp only[AbY,List.getElem?_replicate];split<;>rfl⟩ ?_ ?_
 ·refine np
 rintro ⟨i,o⟩ ⟨hi,ho,hd,hv,hz⟩;simp only at hi ho hd hv hz;simp only[mkS,AgT,Aer,Agb,Agw];simp(disch:=try exact aa)only[↓Ab,Ad,↓reduceIte];refine ⟨fun h=>?_,fun h=>?_⟩
 ·refine Al.inv (α:=Nat × List Nat × Nat) (fun x=>m.length-x.1) (fun x=>mkS 67 [(0,.d (W l)),(1,.d (W m)),(5,.lsl 0 1 0 (l.length+m.length)),(17,.d (W l)),(18,.d (.int .i64 l.length)),(19,.d (.int .i64 i)),
    (6,.d (.int .i64 i)),(7,.d (.int .u32 (l.getD i 0:Nat))),(8,.d (.int .u64 x.2.2)),(24,.d (W m)),(25,.d (.int .i64 m.length)),(26,.d (.int .i64 x.1))])
   (fun x=>[.row false (AR .u32 x.2.1)]) (fun x=>x.1<=m.length/\x.2.1.length=l.length+m.length/\Dig x.2.1/\x.2.2<B/\val x.2.1+B^(i+x.1)*x.2.2=val o+B^i*(l.getD i 0*val (m.take x.1))/\∀ p,i+m.length<=p->x.2.1.getD p 0=0) (0,o,0)
   ⟨lC,ho,hd,by simp[B],kD,hz⟩ ?_ ?_
  ·refine np
  rintro ⟨j,q,c⟩ ⟨hj,hq,hdq,hc,hvq,hzq⟩;simp only at hj hq hdq hc hvq hzq;replace hv:=Hid.mk hv;replace hvq:=Hid.mk hvq;have p1:=I1 (da.getD i) (db.getD j);have p2:=hdq.getD (i+j);have p3:c<4294967296:=hc;have p4:q.getD (i+j) 0<4294967296:=p2;have p5:l.getD i 0<4294967296:=da.getD i;have p6:m.getD j 0<4294967296:=db.getD j;simp only[mkS,AgT,Aer,Agb,Agw];simp(disch:=try exact aa)only[↓Ab,Ad,↓reduceIte,QD,QF];refine ⟨fun h1=>?_,fun h1=>?_⟩
  ·simp only[DW,nats_set];have hsl:c+(l.getD i 0*m.getD j 0+q.getD (i+j) 0)<B*B:=gR
   generalize hg:c+(l.getD i 0*m.getD j 0+q.getD (i+j) 0)=s at hsl ⊢;refine ⟨(j+1,q.set (i+j) (s % B),s / B),⟨iz,kS,hdq.set (Aeu _ lz),(Aga lz).2 hsl,Nk lA hg.symm hvq.out,fun p hp=>?_⟩,
    iz,[some 0],rfl,lC,js,jt⟩
   rw[FZ lA];exact hzq p hp
  have ej:j=m.length:=lA
  have hvq:=hvq.out;rw[ej,AbZ (Af7 _),vb] at hvq;refine ⟨(i+1,q.set (i+m.length) c),⟨iz,kS,hdq.set hc,Ps lA (hzq _ (Af7 _)) hvq hv.out,fun p hp=>?_⟩,
   iz,[some 0],rfl,lC,jR,jT⟩
  rw[FZ lA];exact hzq p lA
 have e:(D.sl (l.length+m.length) false (AR .u32 o))=W o:=kf
 have ei:i=l.length:=lA
 rw[e];refine Aa.frozen (E8 _ hd ?_) ?_;·omega
 rw[hv,ei,AbZ (Af7 _),va];exact pq
def Af4 (h x d:Nat) (hh:h<d) (hd:d<B) (hx:x<B):Ctr TP G 223 [.d (.int .u32 h),.d (.int .u32 x),.d (.int .u32 d)] []
  (.d (.tup [.int .u32 ((h*B+x) / d:Nat),.int .u32 ((h*B+x) % d:Nat)])) []:=by
 refine Ctr.pure (M:=M0) Ak Tryz.func223 rfl AeF ?_;have hq:=Md hh hx;simp only[B] at *;simp(disch:=try exact aa)only[Tryz.f223,↓Ab,Ad,↓reduceIte,↓Qe,Qu,Qv,QD,QF];refine ⟨lD,?_⟩;have hm:(h*4294967296+x) % d<d:=Aeu _ lA;rw[Aas lA hx,<-Ahe,<-Int.ofNat_tmod,Aec,DW,DW,Af0 (a:=(h*4294967296+x) / d) lA,Af0 hq,Af0 lA]
def Fg (n:Nat) (hn:n<18446744073709551616):Ctr TP G 138 [.d (.int .u64 n)] [] (.d (W (toW n))) []:=by
 refine Ctr.pure (M:=M0) Ak Tryz.func138 rfl Afs ?_;simp(disch:=try exact aa)only[Tryz.f138,↓Ab,Ad,↓reduceIte,Qu,Qv,Qz,QD,QF];refine Aa.frozenE (E8 [n % B,n / B] ?_ lC) ?_ ?_
 ·intro x hx;simp only[AgC,AgS,or_false] at hx;rcases hx with rfl | rfl
  ·exact Aeu _ lz
  simp only[B];omega
 ·rw[DW];rfl
 have:val [n % B,n / B]=n:=by simp only[val,Agx,Agp];exact AfI n B
 rw[this];exact pq
def AcC:List UInt8:=[0,1,2,2,3,3,3,3,4,4,4,4,4,4,4,4,5,5,5,5,5,5,5,5,5,5,5,5,5,5,5,5,6,6,6,6,6,6,6,6,6,6,6,6,6,6,6,6,6,6,6,6,6,6,6,6,6,6,6,6,6,6,6,6,7,7,7,7,7,7,7,7,7,7,7,7,7,7,7,7,7,7,7,7,7,7,7,7,7,7,7,7,7,7,7,7,7,7,7,7,7,7,7,7,7,7,7,7,7,7,7,7,7,7,7,7,7,7,7,7,7,7,7,7,7,7,7,7,8,8,8,8,8,8,8,8,8,8,8,8,8,8,8,8,8,8,8,8,8,8,8,8,8,8,8,8,8,8,8,8,8,8,8,8,8,8,8,8,8,8,8,8,8,8,8,8,8,8,8,8,8,8,8,8,8,8,8,8,8,8,8,8,8,8,8,8,8,8,8,8,8,8,8,8,8,8,8,8,8,8,8,8,8,8,8,8,8,8,8,8,8,8,8,8,8,8,8,8,8,8,8,8,8,8,8,8,8,8,8,8,8,8,8,8,8,8,8,8,8,8,8,8,8,8,8,8]
def N9 (s:ByteArray) (hs:s.data.toList=AcC):s.size=256/\∀ i,i<256->Iz s i=((if i=0 then 0 else i.log2+1:Nat):Int):=by
 refine ⟨by rw[ByteArray.size,<-Array.length_toList,hs];decide +kernel,fun i hi=>?_⟩;have:∀ i:Fin 256,((AcC.getD i.val 0).toNat:Int)=((if i.val=0 then 0 else i.val.log2+1:Nat):Int):=iY
 unfold Iz;rw[hs];exact this ⟨i,hi⟩
def IQ {s:ByteArray} (h:s.data.toList=AcC):s.size=256:=(N9 s h).1
def LB {s:ByteArray} {i:Int} (h:s.data.toList=AcC) (h0:0<=i) (h1:i<256):Iz s i.toNat=((if i.toNat=0 then 0 else i.toNat.log2+1:Nat):Int):=(N9 s h).2 _ lA
def Ael (n:Nat) (hn:n<B):Ctr TP G 224 [.d (.int .u32 n)] [] (.d (.int .i64 (if n=0 then 0 else n.log2+1:Nat))) []:=by
 refine Ctr.pure (M:=M0) Ak Tryz.func224 rfl AeE ?_;simp only[B] at *;have l24:(256:Int)<=n / 65536->n≠0/\(n / 65536 / 256)≠0/\n.log2=24+(n / 65536 / 256).log2:=fun h=>by
  have h1:n / 2^24≠0:=lA
  have:=Jy h1;rw[show (2:Nat)^24=65536*256 from rfl,<-Af1] at this;exact ⟨lA,lA,this⟩
 have l16:(65536:Int)<=n->n≠0/\(n / 65536)≠0/\n.log2=16+(n / 65536).log2:=fun h=>by
  have h1:n / 2^16≠0:=lA
  exact ⟨lA,lA,Jy h1⟩
 have l8:(256:Int)<=n->n≠0/\(n / 256)≠0/\n.log2=8+(n / 256).log2:=fun h=>by
  have h1:n / 2^8≠0:=lA
  exact ⟨lA,lA,Jy h1⟩
 simp(disch:=try exact aa)only[Tryz.f224,↓Ab,Ad,↓reduceIte,↓Qe,Qv,QA,QD,QF];refine ⟨fun h1=>⟨fun h2=>?_,fun h2=>?_⟩,fun h1=>⟨fun h2=>?_,fun h2=>?_⟩⟩;·obtain ⟨a,b,c⟩:=l24 h2;have h8:=(AgJ (k:=8) b).2 lA;rw[IQ iY,LB iY lA lA,show ((n:Int) / 65536 / 256).toNat=n / 65536 / 256 by omega,if_neg b];generalize hz:(n / 65536 / 256).log2+1=z;rw[wr_i64 (x:=(z:Int)) lA lA,wr_i64 lA lA];omega
 ·obtain ⟨a,b,c⟩:=l16 h1;have h8:=(AgJ (k:=8) b).2 lA;rw[IQ iY,LB iY lA lA,show ((n:Int) / 65536).toNat=n / 65536 by omega,if_neg b];generalize hz:(n / 65536).log2+1=z;exact pS
 ·obtain ⟨a,b,c⟩:=l8 h2;have h8:=(AgJ (k:=8) b).2 lA;rw[IQ iY,LB iY lA lA,show ((n:Int) / 256).toNat=n / 256 by omega,if_neg b];generalize hz:(n / 256).log2+1=z;exact pS
 rw[IQ iY,(N9 _ iY).2 n lA];have h8:(if n=0 then 0 else n.log2+1:Nat)<=8:=by
  split;·omega
  rename_i h;have:=(AgJ (k:=8) h).2 lA;omega
 generalize (if n=0 then 0 else n.log2+1:Nat)=z at *;exact pS
def lz32 (n:Nat) (h0:n≠0) (hn:n<B):Ctr TP G 204 [.d (.int .u32 n)] [] (.d (.int .i64 (31-n.log2:Nat))) []:=by refine Ctr.pure (M:=M0) Ak Tryz.func204 rfl AeL ?_;have h8:=(AgJ (k:=32) h0).2 hn;simp only[Tryz.f204,↓Ab,Ad,↓reduceIte,Qv];refine Aa.pure (Ael n hn) ?_;rw[if_neg h0];exact pK
def VG (a d:Nat) (hd:0<d) (hdB:d<B) (ha:(toW a).length<2^40) :
  Ctr TP G 203 [.d (W (toW a)),.d (.int .u32 d)] [] (.d (.tup [W (toW (a / d)),.int .u32 (a % d:Nat)])) []:=by
 have da:=Bg a;have va:=Bf a;generalize toW a=l at *;refine Ctr.pure (M:=M0) Ak Tryz.func203 rfl AeM ?_;simp(disch:=try exact aa)only[Tryz.f203,↓Ab,Ad,↓reduceIte,Qu,Qv];refine Al.fr 67 (α:=Nat × List Nat × Nat) (fun x=>x.1) (fun x=>[(7,.d (.int .u32 x.2.2)),(8,.d (.int .i64 ((x.1:Int)-1)))])
  (fun x=>[.row false (AR .u32 (Aer x.1 0++x.2.1))]) (fun x=>x.1<=l.length/\x.2.1.length+x.1=l.length/\Dig x.2.1/\x.2.2<d/\val (l.drop x.1)=val x.2.1*d+x.2.2) (l.length,[],0) ⟨lC,lC,kC,hd,kD⟩ ?_ ?_
 ·exact nj
 rintro ⟨k,q,r⟩ ⟨hk,hq,hdq,hr,hv⟩;simp only at hk hq hdq hr hv;rcases k with _ | k
 ·simp(disch:=try exact aa)only[↓Ab,Ad,↓reduceIte,Qy,Qz,QB,QE];simp only[Agp] at hq;rw[Ahd,va] at hv;have e:D.sl l.length false (AR .u32 ([]++q))=W q:=by simp[W,hq]
  refine Aa.frozenE (E8 q hdq lA) (by rw[<-e];simp[]) ?_;have e1:a / d=val q:=by rw[hv,Aeg];rw[Ag9 hd,Agq hr];rfl
  have e2:a % d=r:=by rw[hv,Aeg,Nat.mul_add_mod,Af0 hr]
  rw[e1,e2];simp(disch:=try exact aa)only[↓Ab,Ad,↓reduceIte,↓Qe,QE]
 simp(disch:=try exact aa)only[↓Ab,Ad,↓reduceIte,Qy,Qz];refine Aa.pure (Af4 r _ d hr hdB (da.getD k)) ?_;simp(disch:=try exact aa)only[↓Ab,Ad,↓reduceIte,Qu];refine ⟨(k,(r*B+l.getD k 0) / d::q,(r*B+l.getD k 0) % d),⟨iz,jW,fun x hx=>?_,Aeu _ hd,VF lA hv⟩,iz,
  [some 0],rfl,lC,jR,by simp[HW,BW,Xh]⟩
 rcases AgC.1 hx with rfl | hx
 ·exact Md hr (da.getD k)
 exact hdq x hx
end Num
namespace Num
open Go Go.Proofs Go.Abs
def AaT {U V P top u3 lu d1 d2 lv g:Nat} (hU:U=(top*B+u3)*P+lu) (hlu:lu<P) (hV:V=(d1*B+d2)*P+lv) (hu3:u3<B) (hUV:U<V*B)
  (hg:top<(g+1)*d1\/g+1=B):U<(g+1)*V:=by
 rcases hg with hg | hg
 ·have h1:(top+1)*(B*P)<=((g+1)*d1)*(B*P):=Aen _ hg;have h2:U<(top+1)*(B*P):=by
   have h3:(u3+1)*P<=B*P:=Aen _ hu3;rw[hU,Aes,Aes,Agz,Aeq];rw[Aes,Agz] at h3;omega
  have h4:((g+1)*d1)*(B*P)<=(g+1)*V:=by rw[Aeq];refine Af2 _ ?_;rw[hV,Aes,<-Aeq];omega
  omega
 rw[hg,Aeg];exact hUV
def AcF {U V P top u3 lu d1 d2 lv g rest:Nat} (hU:U=(top*B+u3)*P+lu) (hlu:lu<P) (hV:V=(d1*B+d2)*P+lv)
  (hr:g*d1+rest=top) (hgt:rest*B+u3<g*d2):U<g*V:=by
 have h1:U<(top*B+u3+1)*P:=by rw[hU,Aes (top*B+u3),Agz];omega
 have h2:(top*B+u3+1)*P<=(g*(d1*B+d2))*P:=cq
 have h3:(g*(d1*B+d2))*P<=g*V:=by rw[Aeq];refine Af2 _ ?_;omega
 omega
def AcE {U V P top u3 lu d1 d2 lv g rest:Nat} (hU:U=(top*B+u3)*P+lu) (hV:V=(d1*B+d2)*P+lv) (hlv:lv<P) (hd1:1<=d1) (hd2:d2<B) (hg:g<B)
  (hr:g*d1+rest=top) (hle:B<=rest\/g*d2<=rest*B+u3):g*V<U+V:=by
 have hle:g*d2<=rest*B+u3:=by
  rcases hle with h | h
  ·have h1:g*d2<=B*B:=Ahf (AgU hg) (AgU hd2);have h2:B*B<=rest*B:=Aen _ h;omega
  exact h
 have h1:(g*(d1*B+d2))*P<=(top*B+u3)*P:=cq
 have h2:g*V=(g*(d1*B+d2))*P+g*lv:=by rw[hV,Aew,Aeq]
 have h3:B*P<=V:=by rw[hV,Aes,Aeq];have:1*(B*P)<=d1*(B*P):=Aen _ hd1;omega
 have h4:g*lv<B*P:=by have h5:g*lv<=g*P:=Af2 _ (AgU hlv);have h6:(g+1)*P<=B*P:=Aen _ hg;rw[Aes,Agz] at h6;omega
 omega
def ZE {d:List Nat} {n:Nat} (h:d.length=n+2):val d=(d.getD (n+1) 0*B+d.getD n 0)*B^n+val (d.take n):=by
 have e:d=d.take (n+2):=by rw[<-h,Ag7]
 rw[e,Bo d (n+1),Bo d n,<-e];rw[Aev,Aes,Aeq (B^n),Aeg (B^n) (d.getD n 0),Aeg (B^n),Aeg B (d.getD _ 0)];omega
def ZD {u:List Nat} {n:Nat} (h:u.length=n+3):val u=((u.getD (n+2) 0*B+u.getD (n+1) 0)*B+u.getD n 0)*B^n+val (u.take n):=by
 have e:u=u.take (n+3):=by rw[<-h,Ag7]
 rw[e,Bo u (n+2),Bo u (n+1),Bo u n,<-e];generalize u.getD n 0=a;generalize u.getD (n+1) 0=b;generalize u.getD (n+2) 0=c;have e1:B^(n+1)*b=b*B*B^n:=by rw[Aev,Aeq,Aeg (B^n),Aeg B b]
 have e2:B^(n+2)*c=c*B*B*B^n:=by rw[Aev,Aev];generalize B^n=p;ac_rfl
 rw[e1,e2,Aes,Aes,Aes,Aeg (B^n) a];omega
def RR {l:List Nat} (h:Dig l) (n:Nat):val (l.take n)<B^n:=by
 have h1:=GR (h.take n);have h2:(l.take n).length<=n:=jW
 exact AfZ h1 (Aet lz h2)
def SK {done u d:List Nat} {i g c b dig low c' b':Nat} (hi:done.length=i) (h1:dig+low+b=u.getD i 0+B*b') (h2:low+B*c'=c+g*d.getD i 0)
  (hv:val done+g*val (d.take i)=val (u.take i)+B^i*(c+b)):val (done++[dig])+g*val (d.take (i+1))=val (u.take (i+1))+B^(i+1)*(c'+b'):=by
 rw[BZ,hi,Bo d i,Bo u i];simp only[val,Agx,Agp];have e1:g*(val (d.take i)+B^i*d.getD i 0)=g*val (d.take i)+B^i*(g*d.getD i 0):=by rw[Aew,Nat.mul_left_comm g]
 have e2:B^(i+1)*(c'+b')=B^i*(B*c'+B*b'):=by rw[Aev,Aeq,Aew]
 have e3:B^i*(dig+g*d.getD i 0+c+b)=B^i*(u.getD i 0+(B*c'+B*b')):=by congr 1;omega
 rw[e1,e2];simp only[Aew] at e3 hv ⊢;omega
def XX {done u d:List Nat} {i a s:Nat} (hi:done.length=i) (hs:s=u.getD i 0+d.getD i 0+a) (hv:val done+B^i*a=val (u.take i)+val (d.take i)) :
  val (done++[s % B])+B^(i+1)*(s / B)=val (u.take (i+1))+val (d.take (i+1)):=by
 rw[BZ,hi,Bo d i,Bo u i];simp only[val,Agx,Agp];have e2:B^(i+1)*(s / B)=B^i*(B*(s / B)):=by rw[Aev,Aeq]
 have e3:B^i*(s % B+B*(s / B))=B^i*(u.getD i 0+d.getD i 0+a):=by rw[AfI,hs]
 rw[e2];simp only[Aew] at e3 ⊢;omega
def Ad2 {U V g r P:Nat} (h1:U<(g+1)*V) (hv:r+g*V=U+P*0):U / V=g/\U % V=r:=by
 rw[Agx,Agp] at hv;rw[Aes,Agz] at h1;have hr:r<V:=lA
 subst hv;refine ⟨?_,?_⟩;·rw[Aeg g,AgK _ _ lA,Agq hr,AgV]
 rw[Aeg g,AgQ,Af0 hr]
def AcU {U V g r P r3 x3 dn a:Nat} (h2:g*V<U+V) (hV:V<P) (hr:r<P) (hv:r+g*V=U+P*1) (hb:dn+x3=r+V-0) (h3:r3=dn+x3\/r3+P=dn+x3) (hr3:r3<P) (ha:a=g):U / V=g-1/\U % V=r3:=by
 subst ha;rw[Ag0] at hv;rcases AgO a with h0 | h0
 ·subst h0;omega
 obtain ⟨m,rfl⟩:∃ m,a=m+1:=⟨a-1,lA⟩;rw[Aes,Agz] at hv h2;have e:r3+m*V=U:=lA
 have hlt:r3<V:=lA
 rw[Ag2];subst e;refine ⟨?_,?_⟩;·rw[Aeg m,AgK _ _ lA,Agq hlt,AgV]
 rw[Aeg m,AgQ,Af0 hlt]
def Sm {a c sh:Nat} (ha:a<2^sh):a ||| c*2^sh=a+c*2^sh:=by have:=Nat.shiftLeft_add_eq_or_of_lt (i:=sh) (a:=c) (b:=a) ha;rw[Nat.shiftLeft_eq] at this;rw[Nat.or_comm,<-this,Ahh]
def Sv {x sh:Nat} (h:sh<32):x*2^sh % 4294967296=x % 2^(32-sh)*2^sh:=by
 have:(4294967296:Nat)=2^(32-sh)*2^sh:=by rw[<-AgL,show 32-sh+sh=32 by omega]
 rw[this,Nat.mul_mod_mul_right]
def Aci {q l:List Nat} {k c x sh:Nat} (hq:q.length=k) (hx:l.getD k 0=x) (hv:val q+B^k*c=val (l.take k)*2^sh) :
  val (q++[c+x*2^sh % B])+B^(k+1)*(x*2^sh / B)=val (l.take (k+1))*2^sh:=by
 rw[BZ,hq,Bo l k,hx];simp only[val,Agx,Agp];have h1:=AfI (x*2^sh) B;have e1:B^(k+1)*(x*2^sh / B)=B^k*(B*(x*2^sh / B)):=by rw[Aev,Aeq]
 have e2:(val (l.take k)+B^k*x)*2^sh=val (l.take k)*2^sh+B^k*(x*2^sh):=by rw[Aes,Aeq]
 rw[e1,e2,<-hv];have e3:B^k*(x*2^sh % B+B*(x*2^sh / B))=B^k*(x*2^sh):=by rw[h1]
 simp only[Aew] at e3 ⊢;omega
end Num
namespace Num
open Go Go.Proofs Go.Abs
variable {G:Ah}
def OQ {pre u post:List Nat} {i j:Nat} (hj:pre.length=j) (hi:i<u.length):(pre++(u++post)).getD (j+i) 0=u.getD i 0:=by subst hj;simp only[AbY];rw[Aex lA,AgA lA,Agu]
def win (pre done u post:List Nat):List Nat:=pre++(done++(u.drop done.length++post))
def Ab0 {pre u post:List Nat}:win pre [] u post=pre++(u++post):=rfl
def GQ {pre done u post:List Nat} (h:done.length<=u.length):(win pre done u post).length=pre.length+u.length+post.length:=by simp[win];omega
def JR {pre done u post:List Nat} (h:done.length<u.length):(win pre done u post).getD (pre.length+done.length) 0=u.getD done.length 0:=by unfold win;simp only[AbY];rw[Aex lA,Agu,Aex lA,AgE,AgA jW,AgP,Agp]
def ML {pre done u post:List Nat} {v:Nat} (h:done.length<u.length):(win pre done u post).set (pre.length+done.length) v=win pre (done++[v]) u post:=by unfold win;rw[Agy _ _ lA,Agu,Agy _ _ lA,AgE,AgR h,Ag8,Agb,List.length_append,List.length_singleton,AgF];rfl
def Ww (pre u post d ex:List Nat) (n:Nat) (hd:d.length=n+2) (hu:u.length=n+3) (dd:Dig d) (du:Dig u) (hUV:val u<val d*B) (hn:2147483648<=d.getD (n+1) 0) (hl:pre.length+u.length+post.length<2^40) :
  Ctr TP G 206 [.lsl 0 1 pre.length (n+3),.lsl 1 1 0 (n+2)] [.row false (AR .u32 (pre++(u++post))),.row false (AR .u32 (d++ex))] (.d (.int .u32 (val u / val d:Nat)))
   [.row false (AR .u32 (pre++(Be (n+3) (val u % val d)++post))),.row false (AR .u32 (d++ex))]:=by
 refine Ctr.body (M:=M0) Ak Tryz.func206 rfl AeJ ?_;have de:∀ i,i<n+2->(d++ex).getD i 0=d.getD i 0:=fun i hi=>by simp only[AbY];rw[AgA lA]
 have dl:(d++ex).length=n+2+ex.length:=jW
 generalize hrow:d++ex=dr at *;have g1:(pre++(u++post)).getD (pre.length+(n+2)) 0=u.getD (n+2) 0:=OQ rfl lA;have g2:(pre++(u++post)).getD (pre.length+(n+1)) 0=u.getD (n+1) 0:=OQ rfl lA;have g3:(pre++(u++post)).getD (pre.length+n) 0=u.getD n 0:=OQ rfl lA;have p1:u.getD (n+2) 0<4294967296:=du.getD _;have p2:u.getD (n+1) 0<4294967296:=du.getD _;have p3:u.getD n 0<4294967296:=du.getD _;have q1:d.getD (n+1) 0<4294967296:=dd.getD _;have q2:d.getD n 0<4294967296:=dd.getD _;have hpl:(pre++(u++post)).length=pre.length+u.length+post.length:=jW
 generalize ho:pre++(u++post)=o at *;have hU:=ZD hu;have hV:=ZE hd;have hlu:=RR du n;have hlv:=RR dd n;rw[show n+3=(n+2)+1 from rfl];generalize ht:u.getD (n+2) 0*B+u.getD (n+1) 0=top at hU;have ht':u.getD (n+2) 0*4294967296+u.getD (n+1) 0=top:=by simpa only[B] using ht
 have htl:top<18446744073709551616:=lA
 have hqt:=Aha top (d.getD (n+1) 0);have eg:(if (4294967295:Int)<((top / d.getD (n+1) 0:Nat):Int) then (4294967295:Int) else ((top / d.getD (n+1) 0:Nat):Int))=((min (top / d.getD (n+1) 0) 4294967295:Nat):Int):=ju
 have hg0:min (top / d.getD (n+1) 0) 4294967295*d.getD (n+1) 0<=top:=Ag5 (Aen _ (Nat.min_le_left _ _)) (Nat.div_mul_le_self _ _);have hg1:top<(min (top / d.getD (n+1) 0) 4294967295+1)*d.getD (n+1) 0\/min (top / d.getD (n+1) 0) 4294967295+1=B:=by
  by_cases h:top / d.getD (n+1) 0<=4294967295;·rw[AgY h];left;rw[Aeg];exact Nat.lt_mul_div_succ top lA
  right;rw[Nat.min_eq_right lA];rfl
 have hg2:min (top / d.getD (n+1) 0) 4294967295<B:=gR
 have hK:=AaT (g:=min (top / d.getD (n+1) 0) 4294967295) hU hlu hV p3 hUV hg1;generalize hg:min (top / d.getD (n+1) 0) 4294967295=g0 at *;have hr0:((top:Nat):Int)-((g0*d.getD (n+1) 0:Nat):Int)=((top-g0*d.getD (n+1) 0:Nat):Int):=lA
 simp(disch:=try exact aa)only[Tryz.f206,dl,de,Aas,g1,g2,ht',<-Ahe,eg,hr0,↓Ab,Ad,↓reduceIte,Qu,Qv,QD,QF];refine ⟨lD,?_⟩;refine Al.fx 35 (α:=Nat × Nat) (β:=Nat) (fun x=>x.1) (fun x=>[(7,.d (.int .u64 x.1)),(8,.d (.int .u64 x.2))])
  (fun _=>[.row false (AR .u32 o),.row false (AR .u32 dr)]) (fun x=>x.1<B/\val u<(x.1+1)*val d/\x.1*d.getD (n+1) 0+x.2=top)
  35 (fun g=>[(7,.d (.int .u64 g))]) (fun _=>[.row false (AR .u32 o),.row false (AR .u32 dr)]) (fun g=>g<B/\val u<(g+1)*val d/\g*val d<val u+val d) (g0,top-g0*d.getD (n+1) 0) ⟨hg2,hK,iz⟩ ?_ ?_ ?_
 ·exact ⟨[some 0,some 1],rfl,lC,gV,jT⟩
 ·rintro ⟨g,r⟩ ⟨hgB,hgU,hgr⟩;simp only at hgB hgU hgr;simp only[Bm,AeA,AeB];have hE:∀ {g r},g<B->g*d.getD (n+1) 0+r=top->(B<=r\/g*d.getD n 0<=r*B+u.getD n 0)->g*val d<val u+val d :=
   fun a b c=>AcE hU hV hlv lA q2 a b c
  have hD:∀ {g r},g*d.getD (n+1) 0+r=top->r*B+u.getD n 0<g*d.getD n 0->val u<g*val d:=fun a b=>AcF hU hlu hV a b;clear hU hV hlu hlv hUV hK hg1 eg hr0 hg0 hg2 hqt hg;replace hgU:=Hid.mk hgU;rcases g with _ | g
  ·simp(disch:=try exact aa)only[dl,de,Aas,g3,Int.zero_mul,↓Ab,Ad,↓reduceIte,Qu,QD,QF];have e0:0*val d<val u+val d:=hE hgB hgr (.inr lC);exact ⟨fun h=>lZ,fun h=>lZ⟩
  have hgd:(g+1)*d.getD n 0<=18446744065119617025:=I1 hgB (dd.getD n);have hgB':g+1<4294967296:=by simpa only[B] using hgB
  simp(disch:=try exact aa)only[dl,de,Aas,g3,↓Ab,Ad,↓reduceIte,Qu,QD,QF];refine ⟨fun h=>⟨lD,fun h2=>⟨(g,r+d.getD (n+1) 0),⟨?_,hD hgr gR,?_⟩,iz,mT⟩,
   fun h2=>⟨g+1,⟨hgB,hgU.out,hE hgB hgr (.inr gR)⟩,mT⟩⟩,fun h=>⟨lD,g+1,⟨hgB,hgU.out,hE hgB hgr (.inl gR)⟩,mT⟩⟩
  ·simp only;omega
  simp only;rw[Aes,Agz] at hgr;omega
 rintro g ⟨hgB,hgU,hgV⟩;simp only[Bm,AeA,AeB];clear eg hr0 hg0 hg2 hqt hg hK hg1;replace hU:=Hid.mk hU;replace hV:=Hid.mk hV;replace hlu:=Hid.mk hlu;replace hlv:=Hid.mk hlv;replace hgU:=Hid.mk hgU;replace hgV:=Hid.mk hgV;replace hUV:=Hid.mk hUV;replace ht:=Hid.mk ht;have hgB':g<4294967296:=by simpa only[B] using hgB
 simp only[↓Ab,Ad,Qu];refine Al.fx 14507109835375550096474275 (α:=List Nat × Nat × Nat) (β:=List Nat × Nat × Nat) (fun x=>n+2-x.1.length) (fun x=>[(9,.d (.int .u32 x.2.1)),(10,.d (.int .u64 x.2.2)),(84,.d (.int .i64 x.1.length))])
  (fun x=>[.row false (AR .u32 (win pre x.1 u post)),.row false (AR .u32 dr)]) (fun x=>x.1.length<=n+2/\Dig x.1/\x.2.1<=1/\x.2.2<B/\val x.1+g*val (d.take x.1.length)=val (u.take x.1.length)+B^x.1.length*(x.2.2+x.2.1))
  163 (fun x=>[(9,.d (.int .u32 x.2.1)),(10,.d (.int .u64 x.2.2))]) (fun x=>[.row false (AR .u32 (win pre x.1 u post)),.row false (AR .u32 dr)]) (fun x=>x.1.length=n+2/\Dig x.1/\x.2.1<=1/\x.2.2<B/\val x.1+g*val d=val (u.take (n+2))+B^(n+2)*(x.2.2+x.2.1))
  ([],0,0) ⟨lC,kC,lC,by simp[B],kD⟩ ?_ ?_ ?_
 ·exact ⟨[some 0,some 1],rfl,lC,gV,by simp[HW,BW,Ab0,ho]⟩
 ·rintro ⟨done,b,c⟩ ⟨hi,hdd,hb,hc,hv⟩;simp only at hi hdd hb hc hv;simp only[Bm,AeA,AeB];replace hv:=Hid.mk hv;have w1:(win pre done u post).getD (pre.length+done.length) 0=u.getD done.length 0:=JR lA;have w3:(win pre done u post).length=pre.length+u.length+post.length:=GQ lA;have hcB:c<4294967296:=by simpa only[B] using hc
  have m1:g*d.getD done.length 0<=18446744065119617025:=I1 hgB (dd.getD _);have m2:u.getD done.length 0<4294967296:=du.getD _;have m3:d.getD done.length 0<4294967296:=dd.getD _;simp(disch:=try exact aa)only[w1,w3,dl,de,DW,↓Ab,Ad,↓reduceIte,Qu];refine ⟨fun h=>?_,fun h=>?_⟩
  ·refine Aa.pure (Adg _ _ _ (du.getD _) (Aeu _ lz) hb) ?_;have w2:∀ v,(win pre done u post).set (pre.length+done.length) v=win pre (done++[v]) u post:=fun v=>ML lA;simp(disch:=try exact aa)only[w2,w3,↓Ab,Ad,↓reduceIte,Qu,QD,QF];have hsl:c+g*d.getD done.length 0<B*B:=gR
   rw[show (4294967296:Nat)=B from rfl];refine ⟨(done++[(u.getD done.length 0+B-(c+g*d.getD done.length 0) % B-b) % B],if u.getD done.length 0<(c+g*d.getD done.length 0) % B+b then 1 else 0,(c+g*d.getD done.length 0) / B),
    ⟨jW,hdd.append ?_,by simp only;split<;>omega,(Aga lz).2 hsl,?_⟩,jW,[some 0,some 1],rfl,lC,js,jT⟩
   ·exact pV
   have:=SK (d:=d) (g:=g) rfl (IP (du.getD done.length) (Aeu (c+g*d.getD done.length 0) (show 0<B by decide)) hb) (AfI (c+g*d.getD done.length 0) B) hv.out;simpa using this
  have hi':done.length=n+2:=lA
  have hv:=hv.out;rw[hi',AbZ (l:=d) lA] at hv;exact ⟨(done,b,c),⟨hi',hdd,hb,hc,hv⟩,mT⟩
 rintro ⟨done,b,c⟩ ⟨hi,hdd,hb,hc,hv⟩;simp only at hi hdd hb hc hv;simp only[Bm,AeA,AeB];replace hv:=Hid.mk hv;have w1:(win pre done u post).getD (pre.length+(n+2)) 0=u.getD (n+2) 0:=by rw[<-hi];exact JR lA
 have w3:(win pre done u post).length=pre.length+u.length+post.length:=GQ lA;have w2:∀ v,(win pre done u post).set (pre.length+(n+2)) v=win pre (done++[v]) u post:=fun v=>by rw[<-hi];exact ML lA
 have hcB:c<4294967296:=by simpa only[B] using hc
 simp(disch:=try exact aa)only[w1,w3,↓Ab,Ad,↓reduceIte,Qu];refine Aa.pure (Adg _ _ _ (du.getD _) hc hb) ?_;by_cases hbb:u.getD (n+2) 0<c+b
 ·rw[if_pos hbb];simp(disch:=try exact aa)only[w2,w3,↓Ab,Ad,↓reduceIte,Qu];have h1:=IP (du.getD (n+2)) hc hb;rw[if_pos hbb] at h1;have dz:d.getD (n+2) 0=0:=by rw[AbY,AgH lA];rfl
  have h2:=SK (d:=d) (g:=g) (c:=c) (c':=0) hi h1 (by rw[dz];simp) cG;generalize hdig:(u.getD (n+2) 0+B-c-b) % B=dig at h1 h2 ⊢;have hdB:dig<B:=c8
  rw[AbZ (l:=d) lA,AbZ (l:=u) lA,AgV] at h2;generalize hu':done++[dig]=u' at h2 ⊢;have lu':u'.length=n+3:=by rw[<-hu'];simp;omega
  have du':Dig u':=a8
  have vu':=GR du';rw[lu'] at vu';obtain ⟨m,rfl⟩:∃ m,g=m+1:=by
   rcases g with _ | m
   ·rw[Ahi,Ag0] at h2;have:B^(n+2+1)=B^(n+3):=rfl;omega
   exact ⟨m,rfl⟩
  have ew:win pre u' u post=win pre [] u' post:=bX
  rw[ew];clear w1 w2 w3 hv hb hc hcB hbb h1;replace h2:=Hid.mk h2;replace vu':=Hid.mk vu';refine Al.fx 4083388403051261561560495289181218537633 (α:=List Nat × Nat) (β:=List Nat × Nat) (fun x=>n+2-x.1.length) (fun x=>[(13,.d (.int .u32 x.2)),(132,.d (.int .i64 x.1.length))])
   (fun x=>[.row false (AR .u32 (win pre x.1 u' post)),.row false (AR .u32 dr)]) (fun x=>x.1.length<=n+2/\Dig x.1/\x.2<=1/\val x.1+B^x.1.length*x.2=val (u'.take x.1.length)+val (d.take x.1.length))
   161 (fun x=>[(13,.d (.int .u32 x.2))]) (fun x=>[.row false (AR .u32 (win pre x.1 u' post)),.row false (AR .u32 dr)]) (fun x=>x.1.length=n+2/\Dig x.1/\x.2<=1/\val x.1+B^(n+2)*x.2=val (u'.take (n+2))+val d)
   ([],0) ⟨lC,kC,lC,kD⟩ ?_ ?_ ?_
  ·exact ⟨[some 0,some 1],rfl,lC,gV,jT⟩
  ·rintro ⟨done2,a⟩ ⟨hi2,hd2,ha,hv2⟩;simp only at hi2 hd2 ha hv2;simp only[Bm,AeA,AeB];replace hv2:=Hid.mk hv2;have w1:(win pre done2 u' post).getD (pre.length+done2.length) 0=u'.getD done2.length 0:=JR lA;have w3:(win pre done2 u' post).length=pre.length+u'.length+post.length:=GQ lA;simp(disch:=try exact aa)only[w1,w3,dl,de,↓Ab,Ad,↓reduceIte,Qu];refine ⟨fun h=>?_,fun h=>?_⟩
   ·refine Aa.pure (Ady _ _ _ (du'.getD _) (dd.getD _) ha) ?_;have w2:∀ v,(win pre done2 u' post).set (pre.length+done2.length) v=win pre (done2++[v]) u' post:=fun v=>ML lA;have a1:=du'.getD done2.length;have a2:=dd.getD done2.length;simp(disch:=try exact aa)only[w2,w3,↓Ab,Ad,↓reduceIte,Qu];refine ⟨(done2++[(u'.getD done2.length 0+d.getD done2.length 0+a) % B],(u'.getD done2.length 0+d.getD done2.length 0+a) / B),
     ⟨jW,hd2.append ?_,by simp only[B] at *;omega,?_⟩,jW,[some 0,some 1],rfl,lC,jR,jT⟩
    ·exact pV
    have:=XX (u:=u') (d:=d) rfl rfl hv2.out;simpa using this
   have hi':done2.length=n+2:=lA;have hv2:=hv2.out;rw[hi',AbZ (l:=d) lA] at hv2;exact ⟨(done2,a),⟨hi',hd2,ha,hv2⟩,mT⟩
  rintro ⟨done2,a⟩ ⟨hi2,hd2,ha,hv2⟩;simp only at hi2 hd2 ha hv2;simp only[Bm,AeA,AeB];replace hv2:=Hid.mk hv2;have w1:(win pre done2 u' post).getD (pre.length+(n+2)) 0=u'.getD (n+2) 0:=by rw[<-hi2];exact JR lA
  have w3:(win pre done2 u' post).length=pre.length+u'.length+post.length:=GQ lA;have w2:∀ v,(win pre done2 u' post).set (pre.length+(n+2)) v=win pre (done2++[v]) u' post:=fun v=>by rw[<-hi2];exact ML lA
  have a1:=du'.getD (n+2);simp(disch:=try exact aa)only[w1,w2,w3,DW,cast_add,nats_set,↓Ab,Ad,↓reduceIte,Qu];rw[show (4294967296:Nat)=B from rfl];have hB0:0<B:=lz
  have h3:=AfI (u'.getD (n+2) 0+a) B;have hq:(u'.getD (n+2) 0+a) / B=0\/(u'.getD (n+2) 0+a) / B=1:=by simp only[B] at *;omega
  have du3:Dig (done2++[(u'.getD (n+2) 0+a) % B]):=hd2.append (by intro x hx;simp at hx;subst hx;exact Aeu _ hB0);have l3:(done2++[(u'.getD (n+2) 0+a) % B]).length=n+3:=jW
  have v3:=GR du3;rw[l3] at v3;have hu3:val u'=val (u'.take (n+2))+B^(n+2)*u'.getD (n+2) 0:=by have:=Bo u' (n+2);rwa[AbZ (l:=u') lA] at this
  have e3:val (done2++[(u'.getD (n+2) 0+a) % B])+B^(n+3)*((u'.getD (n+2) 0+a) / B)=val u'+val d:=by
   rw[BZ,hi2,hu3];simp only[val,Agx,Agp];have e4:B^(n+3)*((u'.getD (n+2) 0+a) / B)=B^(n+2)*(B*((u'.getD (n+2) 0+a) / B)):=(by rw[Aev,Aeq])
   have e5:B^(n+2)*((u'.getD (n+2) 0+a) % B)+B^(n+2)*(B*((u'.getD (n+2) 0+a) / B))=B^(n+2)*u'.getD (n+2) 0+B^(n+2)*a:=(by rw[<-Aew,h3,Aew]);have e6:=hv2.out;omega
  generalize hr3:done2++[(u'.getD (n+2) 0+a) % B]=r3 at *;generalize (u'.getD (n+2) 0+a) / B=z at *;have hV:=GR dd;have hVP:val d<B^(n+3):=AfZ hV (Aet hB0 lA);have hb:=AcU (U:=val u) (V:=val d) (g:=m+1) (r:=val u') (P:=B^(n+3)) (r3:=val r3) (x3:=0) (dn:=val u'+val d) hgV.out hVP vu'.out h2.out lA
   (by rcases hq with rfl | rfl
       ·left;rw[Agx] at e3;omega
       right;rw[Ag0] at e3;omega) v3 rfl
  rw[hb.1,hb.2,Ag2,<-Hc du3 l3 rfl];have ew3:win pre r3 u' post=pre++(r3++post):=by simp[win,l3,AgG (l:=u') (i:=n+3) lA]
  rw[ew3];exact mE
 rw[if_neg hbb];simp(disch:=try exact aa)only[w2,w3,↓Ab,Ad,↓reduceIte,Qu];have h1:=IP (du.getD (n+2)) hc hb;rw[if_neg hbb] at h1;have dz:d.getD (n+2) 0=0:=by rw[AbY,AgH lA];rfl
 have h2:=SK (d:=d) (g:=g) (c:=c) (c':=0) hi h1 (by rw[dz];simp) cG;generalize hdig:(u.getD (n+2) 0+B-c-b) % B=dig at h1 h2 ⊢;have hdB:dig<B:=c8
 rw[AbZ (l:=d) lA,AbZ (l:=u) lA,AgV] at h2;generalize hu':done++[dig]=u' at h2 ⊢;have lu':u'.length=n+3:=by rw[<-hu'];simp;omega
 have du':Dig u':=a8
 have hb:=Ad2 hgU.out h2;rw[hb.1,hb.2,<-Hc du' lu' rfl];have ew3:win pre u' u post=pre++(u'++post):=bX
 rw[ew3];exact mE
def AaO {q r:List Nat} {c k:Nat} (h:q.length=k):(q++c::r).getD k 0=c:=by subst h;simp[AbY]
def Acw {q r:List Nat} {c k v:Nat} (h:q.length=k):(q++c::r).set k v=q++v::r:=by subst h;simp
def AaN {q r:List Nat} {c d k v:Nat} (h:q.length=k):(q++c::d::r).set (k+1) v=q++c::v::r:=by subst h;rw[Agy _ _ lA,Agu];rfl
def J9 (l:List Nat) (sh:Nat) (hl:Dig l) (hs:sh<32) (hll:l.length<2^40) :
  Ctr TP G 205 [.d (W l),.d (.int .i64 sh)] [] (.lsl 0 1 0 (l.length+1)) [.row false (AR .u32 (Be (l.length+1) (val l*2^sh)))]:=by
 refine Ctr.body (M:=M0) Ak Tryz.func205 rfl AeK ?_;simp(disch:=try exact aa)only[Tryz.f205,↓Ab,Ad,↓reduceIte,Qu,Qv];have hm:(2:Int)^sh=((2^sh:Nat):Int):=lC
 have hmb:2^sh<=2147483648:=Aet lz (show sh<=31 by omega);have hmp:0<2^sh:=AgD sh;refine Al.fr 24610 (α:=Nat × List Nat × Nat) (fun x=>l.length-x.1) (fun x=>[(15,.d (.int .i64 x.1))])
  (fun x=>[.row false (AR .u32 (x.2.1++x.2.2::Aer (l.length-x.1) 0))]) (fun x=>x.1<=l.length/\x.2.1.length=x.1/\Dig x.2.1/\x.2.2<2^sh/\val x.2.1+B^x.1*x.2.2=val (l.take x.1)*2^sh) (0,[],0) ⟨Ahj _,rfl,(fun x hx=>kT),hmp,(Ahi _).symm▸rfl⟩ ?_ ?_
 ·exact nj
 rintro ⟨k,q,c⟩ ⟨hk,hq,hd,hc,hv⟩;simp only at hk hq hd hc hv;simp only[Bm,AeA,AeB];replace hv:=Hid.mk hv;have hx:l.getD k 0<4294967296:=hl.getD k;have hxm:l.getD k 0*2^sh<=4294967295*2147483648:=Ahf lA hmb;have c1:∀ r,(q++c::r).getD k 0=c:=fun r=>AaO hq;have c2:∀ r v,(q++c::r).set k v=q++v::r:=fun r v=>Acw hq;have c3:∀ a d r v,(q++a::d::r).set (k+1) v=q++a::v::r:=fun a d r v=>AaN hq;have hor:c ||| (l.getD k 0*2^sh % 4294967296)=c+l.getD k 0*2^sh % 4294967296:=by rw[Sv hs,Sm hc]
 have hlow:l.getD k 0*2^sh % 4294967296<4294967296:=Aeu _ lz;have hmin:min sh 64=sh:=lA
 simp(disch:=try exact aa)only[hm,hmin,c1,c2,hor,DM,DW,↓Ab,Ad,↓reduceIte,QD,QF];refine ⟨fun h=>?_,fun h=>?_⟩
 ·have er:Aer (l.length-k) 0=0::Aer (l.length-(k+1)) 0:=by rw[<-AgB];congr 1;omega
  rw[er];have ei:((l.getD k 0*2^sh:Nat):Int) / 4294967296=((l.getD k 0*2^sh / B:Nat):Int):=gR
  rw[ei,nats_set,c3];refine ⟨(k+1,q++[c+l.getD k 0*2^sh % B],l.getD k 0*2^sh / B),⟨iz,kS,hd.append ?_,?_,Aci hq rfl hv.out⟩,iz,[some 0],rfl,lC,jR,?_⟩
  ·intro x hx;simp only[AgC,AgS,or_false] at hx;subst hx;show c+l.getD k 0*2^sh % 4294967296<2^32
   rw[<-hor];exact Nat.or_lt_two_pow lA hlow
  ·simp only;rw[Aga lz,Aeg (2^sh)];exact AgM hx hmp
  have e2:(q++[c+l.getD k 0*2^sh % B])++l.getD k 0*2^sh / B::Aer (l.length-(k+1)) 0=q++(c+l.getD k 0*2^sh % 4294967296)::l.getD k 0*2^sh / B::Aer (l.length-(k+1)) 0:=by rw[AgF];rfl
  simp only[e2];simp[HW,BW]
 have ek:k=l.length:=lA
 have hv:=hv.out;subst ek;rw[AbZ (Af7 _)] at hv;have hcB:c<B:=AfZ hc gR;rw[AgE,List.replicate_zero,<-Hc (l:=q++[c]) (hd.append (by intro x hx;simp only[AgC,AgS,or_false] at hx;subst hx;exact hcB)) kS (by rw[BZ,hq];simpa[val] using hv)];exact m4
def FK (l:List Nat) (hl:l.length<2^40):Ctr TP G 135 [.d (W l)] [] (.d (W l)) []:=by
 refine Ctr.of_body Tryz.func135 rfl Afv rfl ?_;refine Tri.seq (Tri.of_awp (M:=M0) Ak _ _ _ _ ?_);simp only[EQ,Tryz.f135,↓Ab,Ad,Qv];refine Tri.seq (Tri.seq (Tri.nilRegion (e:=187) (by kernel_rfl) rfl ?_ ?_));·simp
 intro b hb;simp only[EQ];refine Tri.of_awp (M:=M0) Ak _ _ _ _ ?_;cases b;·simp only[EQ,↓Ab,Ad];refine Tri.of_awp (M:=M0) Ak _ _ _ _ ?_;simp(disch:=try exact aa)only[↓Ab,Ad,↓reduceIte,Qu];refine ⟨[],rfl,Ahg,trivial,.inr ⟨W l,?_,by simp[W,unf_sl],rfl⟩⟩;simp[sealA,W,cut_nats]
 simp only[OL,↓Ab,Ad];have h0:l=[]:=Agv.1 (hb rfl);subst h0;exact ⟨[],rfl,Ahg,trivial,.inr ⟨.sl 0 true [],rfl,rfl,rfl⟩⟩
def Ts {o:List Nat} (hd:Dig o) {k:Nat} (hk:k<=o.length) (h:k=0\/o.getD (k-1) 0≠0):toW (val (o.take k))=o.take k:=by
 refine ZO (hd.take k) ?_;rcases h with rfl | h
 ·left;simp
 rcases AgO k with rfl | hp
 ·left;simp
 right;have e:(o.take k).length-1=k-1:=jW
 rw[e,AbY,AgN,if_pos lA,<-AbY];exact h
def FO (o:List Nat) (n:Nat) (hd:Dig o) (hn:n<=o.length) (hl:o.length<2^60) :
  Ctr TP G 171 [.lsl 0 1 0 n] [.row false (AR .u32 o)] (.lsl 0 1 0 (toW (val (o.take n))).length) [.row false (AR .u32 o)]:=by
 refine Ctr.body (M:=M0) Ak Tryz.func171 rfl Adq ?_;simp only[Tryz.f171,↓Ab,Ad,Qv];refine Al.fr 0 (α:=Nat) (fun k=>k) (fun k=>[(0,.lsl 0 1 0 k)]) (fun _=>[.row false (AR .u32 o)]) (fun k=>k<=n/\val (o.take k)=val (o.take n)) n ⟨Af7 _,rfl⟩ ?_ ?_;·exact nj
 rintro k ⟨hk,hv⟩;simp only[Bm,AeB];rcases k with _ | k
 ·simp(disch:=try exact aa)only[↓Ab,Ad,↓reduceIte];have:toW (val (o.take n))=[]:=by rw[<-hv];exact A5
  rw[this];exact m4
 simp(disch:=try exact aa)only[↓Ab,Ad,↓reduceIte];refine ⟨fun h=>⟨k,⟨lA,?_⟩,Nat.lt_succ_self _,no⟩,fun h=>?_⟩;·rw[<-hv,Bo o k,show o.getD k 0=0 by omega];simp
 have:=Ts hd (k:=k+1) lA (.inr ji);rw[hv] at this;rw[this];have e:(o.take (k+1)).length=k+1:=jW
 rw[e];exact m4
end Num
namespace Num
open Go Go.Proofs Go.Abs
def FH (i k n:Nat):Be (i+k) n=Be i n++Be k (n / B^i):=by
 induction i generalizing n with
 | zero=>simp[Be]
 | succ i ih =>rw[Nat.add_right_comm i 1 k];simp only[Be,Ag8];rw[ih,Af1,Aev,Aeg B]
def Y9 (k:Nat):Be k 0=Aer k 0:=by
 induction k with
 | zero=>rfl
 | succ k ih=>simp[Be,AgB,ih]
def JD {k z n:Nat} (h:n<B^k):Be (k+z) n=Be k n++Aer z 0:=by rw[FH,Agq h,Y9]
def Ra {i k n:Nat} (h:i<=k):(Be k n).take i=Be i n:=by obtain ⟨z,rfl⟩:∃ z,k=i+z:=⟨k-i,lA⟩;rw[FH,Ahb (AK i n)]
def GH {i k n:Nat} (h:i<k):(Be k n).getD i 0=n / B^i % B:=by obtain ⟨z,rfl⟩:∃ z,k=i+(z+1):=⟨k-i-1,lA⟩;rw[FH,Be];have:=AK i n;rw[AbY,Aex lA,this,AgE];rfl
def Rb (i n:Nat):Be (i+1) n=Be i n++[n / B^i % B]:=by rw[FH];rfl
def Nj (n:Nat):toW n=Be (toW n).length n:=Hc (Bg n) rfl (Bf n)
def V1 {m:List Nat} {k s:Nat} (hm:Dig m) (hl:m.length=k+2) (ht:m.getD (k+1) 0≠0) (hs:s=31-(m.getD (k+1) 0).log2) :
  s<32/\val m*2^s<B^(k+2)/\2147483648<=(Be (k+2) (val m*2^s)).getD (k+1) 0:=by
 have htB:=hm.getD (k+1);have hv:val m=val (m.take (k+1))+B^(k+1)*m.getD (k+1) 0:=by have:=Bo m (k+1);rwa[AbZ lA] at this
 have hlo:=RR hm (k+1);generalize m.getD (k+1) 0=t at *;have he:=(Nat.log2_eq_iff ht).1 rfl;have he32:=(AgJ (k:=32) ht).2 htB;have hp:2^(t.log2+1)*2^s=B:=by rw[<-AgL,hs,show t.log2+1+(31-t.log2)=32 by omega];rfl
 have hp':2^t.log2*2^s=2147483648:=by rw[<-AgL,hs,show t.log2+(31-t.log2)=31 by omega]
 have h1:2147483648<=t*2^s:=by rw[<-hp'];exact Aen _ he.1
 have h2:(t+1)*2^s<=B:=by rw[<-hp];exact Aen _ he.2
 have h3:val m*2^s<B^(k+2):=by
  have e1:val m+1<=B^(k+1)*(t+1):=by have:=Aew (B^(k+1)) t 1;omega
  have e2:(val m+1)*2^s<=B^(k+1)*(t+1)*2^s:=Aen _ e1;have e3:B^(k+1)*(t+1)*2^s<=B^(k+1)*B:=by rw[Aeq];exact Af2 _ h2
  rw[Aes,Agz] at e2;have:0<2^s:=AgD s;rw[Aev];omega
 refine ⟨lA,h3,?_⟩;rw[GH lA];have hB:0<B^(k+1):=Ahk lz;have e4:val m*2^s / B^(k+1)<B:=by rw[Aga hB,Aeg B,<-Aev];exact h3
 rw[Af0 e4];refine Ag5 h1 ((AgZ hB).2 ?_);rw[Ag3];refine Aen _ ?_;rw[hv,Aeg];omega
def Acu {U V j Q r:Nat} (h:U / B^(j+1)=Q*V+r) (hr:r<V) :
  U / B^j % B+B*r<V*B/\U / B^j=(B*Q+(U / B^j % B+B*r) / V)*V+(U / B^j % B+B*r) % V:=by
 have hx:U / B^j % B<B:=Aeu _ lz;refine ⟨?_,?_⟩;·have:B*(r+1)<=B*V:=Af2 _ hr;rw[Aew,Ag0] at this;rw[Aeg V];omega
 have h1:=AfI (U / B^j) B;rw[Af1,<-Aev,h,Aew] at h1;have h2:=AfI (U / B^j % B+B*r) V;rw[Aes,Aeq];rw[Aeg V] at h2;omega
def WY {r s i:Nat} (hs:s<32):((r / B^(i+1) % B)*B+r / B^i % B) / 2^s % B=r / 2^s / B^i % B:=by
 have hB:B=2^(32-s)*2^s:=by rw[<-AgL,show 32-s+s=32 by omega];rfl
 have e1:r / 2^s / B^i=r / B^i / 2^s:=by rw[Af1,Aeg,<-Af1]
 have e2:r / B^(i+1)=r / B^i / B:=by rw[Af1,Aev]
 rw[e1,e2];generalize r / B^i=y;have h1:=AfI y B;have h2:=AfI (y / B) B;generalize hc:y / B / B=c at *;generalize hh:y / B % B=h at *;generalize hl:y % B=l at *;have hp:0<2^s:=AgD s;have e3:y=(h*B+l)+2^s*(c*B*2^(32-s)):=by
  have:2^s*(c*B*2^(32-s))=B*(B*c):=by
   conv=>rhs;arg 1;rw[hB]
   ac_rfl
  rw[this,<-h1,<-h2,Aew,Aeg B h];omega
 rw[e3,AgK _ _ hp,Ag3,Nat.add_mul_mod_self_right]
def JY {l:List Nat} (h:Dig l):(toW (val l)).length<=l.length:=Cy (GR h)
def KY {l:List Nat} (h:Dig l):l.take (toW (val l)).length=toW (val l):=by
 conv=>lhs;arg 2;rw[<-UN h]
 rw[Ra (JY h),<-Nj]
def Bu (N s r i:Nat):List Nat:=Be i (r / 2^s)++(Be N r).drop i
def Dj {N s r i:Nat} (h:i<=N):(Bu N s r i).length=N:=by simp[Bu,AK];omega
def KM {N s r:Nat}:Bu N s r 0=Be N r:=rfl
def KO {N s r i:Nat} (h:i<N):(Bu N s r i).getD i 0=r / B^i % B:=by have hl:=AK i (r / 2^s);rw[Bu,AbY,Aex lA,hl,AgE,AgP,Agp,<-AbY,GH h]
def Ta {N s r i kk:Nat} (hk:kk<=N) (hr:r<B^kk):((Bu N s r i).take kk).getD (i+1) 0=r / B^(i+1) % B:=by
 have hl:=AK i (r / 2^s);rw[AbY,AgN];split;·rename_i h;rw[Bu,Aex lA,hl,AgP,show i+(i+1-i)=i+1 by omega,<-AbY,GH lA]
 rename_i h;have:r<B^(i+1):=AfZ hr (Aet lz lA);rw[Agq this];rfl
def Mh {N s r i:Nat} (h:i<N):(Bu N s r i).set i (r / 2^s / B^i % B)=Bu N s r (i+1):=by have hl:=AK i (r / 2^s);have hl2:=AK N r;rw[Bu,Agy _ _ lA,hl,AgE,AgR lA,Agb,Bu,Rb,AgF];rfl
def Me {N s r i:Nat}:Dig (Bu N s r i):=(DL _ _).append ((DL _ _).drop _)
def KN {N s r i:Nat}:(Bu N s r i).take i=Be i (r / 2^s):=by rw[Bu,Ahb (AK _ _)]
def Ab1 {a b p q r:Nat} (hp:0<p) (h:a*p=q*(b*p)+r) (hr:r<b*p):a / b=q/\a % b=r / p/\r / p<=r:=by
 have h1:r % p=0:=by have:=congrArg (· % p) h;simp only[Nat.mul_mod_left] at this;rw[<-Aeq,Nat.mul_add_mod_self_right] at this;exact this.symm
 obtain ⟨c,rfl⟩:=Nat.dvd_of_mod_eq_zero h1;rw[Aeg p c] at h hr;have hc:c<b:=Nat.lt_of_mul_lt_mul_right hr;have ha:a=q*b+c:=by rw[<-Aeq,<-Aes] at h;exact Nat.eq_of_mul_eq_mul_right hp h
 rw[Nat.mul_div_cancel_left _ hp];refine ⟨?_,?_,Nat.le_mul_of_pos_left _ hp⟩;·rw[ha,Aeg q,Ag9 lA,Agq hc,Agp]
 rw[ha,Aeg q,Nat.mul_add_mod_self_left,Af0 hc]
def Aar {l:List Nat} {k z s V:Nat} (hl:Dig l) (hz:l.length=k+2+z) (hs:s<32) (n3:2147483648<=(Be (k+2) V).getD (k+1) 0):val l*2^s / B^(z+1)<V:=by
 have hB:∀ i,0<B^i:=fun i=>Ahk lz;rw[GH lA] at n3;have h1:2147483648<=V / B^(k+1):=Ag5 n3 (Nat.mod_le _ _);have h2:2147483648*B^(k+1)<=V:=(AgZ (hB _)).1 h1;have h3:=GR hl;rw[hz] at h3;have h4:2^s<=2147483648:=Aet lz (show s<=31 by omega);rw[Aga (hB _)];have h5:val l*2^s<B^(k+2+z)*2^s:=AgM h3 (AgD s);have h6:B^(k+2+z)*2^s<=B^(k+2+z)*2147483648:=Af2 _ h4;have h7:B^(k+2+z)*2147483648=2147483648*B^(k+1)*B^(z+1):=by rw[Aeg,Aeq,<-AgL];congr 2;omega
 have h8:2147483648*B^(k+1)*B^(z+1)<=V*B^(z+1):=Aen _ h2;omega
end Num
namespace Num
open Go Go.Proofs Go.Abs
variable {G:Ah}
def M1:B8:=fun f=>f == 206 || f == 171
def HN:M1 202=false:=rfl
def HM:M1 135=false:=rfl
def HL:M1 203=false:=rfl
def HK:M1 204=false:=rfl
def HJ:M1 205=false:=rfl
def HF:M1 173=false:=rfl
def HD:M1 206=true:=rfl
def HB:M1 171=true:=rfl
def Li (a b:Nat) (hb:b≠0) (ha:(toW a).length<2^38) (hb':(toW b).length<2^38) :
  Ctr TP G 175 [.d (W (toW a)),.d (W (toW b))] [] (.d (.tup [W (toW (a / b)),W (toW (a % b))])) []:=by
 have da:=Bg a;have db:=Bg b;have va:=Bf a;have vb:=Bf b;have tb:=ZP hb;have hcmp:cmpI (a:Int) b<0↔a<b:=by
  unfold cmpI;split;·omega
  split<;>omega
 refine Ctr.pure (M:=M1) Ak Tryz.func175 rfl Ae0 ?_;simp(maxSteps:=1000000)(disch:=try exact aa)only[Tryz.f175,HN,↓Ab,Ad,↓reduceIte,Qu,Qv];refine Aa.pure (compare_spec a b lA lA) ?_;simp(maxSteps:=1000000)(disch:=try exact aa)only[HM,HL,HK,hcmp,↓Ab,Ad,↓reduceIte,Qu];refine ⟨fun h=>?_,fun h=>⟨fun h1=>?_,fun h1=>?_⟩⟩;·rw[Agq h,Af0 h,A5];refine Aa.pure (FK (toW a) lA) ?_;simp(maxSteps:=1000000)(disch:=try exact aa)only[↓Ab,Ad,↓Qe];rfl
 ·have h1:(toW b).length=1:=by omega
  have hb1:(toW b).getD 0 0=b:=by have:=Bo (toW b) 0;rw[AbZ lA,vb] at this;simpa[val] using this.symm
  have hbB:b<B:=by rw[<-hb1];exact db.getD 0
  rw[hb1];refine Aa.pure (VG a b lA hbB lA) ?_;simp(maxSteps:=1000000)(disch:=try exact aa)only[HB,↓Ab,Ad,↓reduceIte,Qu];have dr:Dig [a % b]:=by intro x hx;simp at hx;subst hx;exact AgW (Aeu _ lA) hbB
  refine Aa.by (FO [a % b] 1 dr lC lC) rfl rfl (Af7 _) ?_;simp(maxSteps:=1000000)(disch:=try exact aa)only[↓Ab,Ad,↓reduceIte,↓Qe];have vr:val [a % b]=a % b:=kD
  have tr:=KY dr;rw[vr] at tr;rw[vr,tr]
 generalize hl:toW a=l at *;generalize hm:toW b=m at *;obtain ⟨k,hk⟩:∃ k,m.length=k+2:=⟨m.length-2,by
  have:m.length≠0:=by intro h0;have:=Agv.1 h0;subst this;exact hb vb.symm
  omega⟩
 rw[hk,show k+2-1=k+1 from rfl] at tb;have mB:=db.getD (k+1);obtain ⟨z,hz⟩:∃ z,l.length=k+2+z:=⟨l.length-(k+2),by
  have h2:¬l.length<m.length:=by intro h3;rw[<-hl,<-hm] at h3;exact h (Ek h3)
  omega⟩
 have e1:(l.length:Int)-((k+2:Nat):Int)+1=((z+1:Nat):Int):=lA
 simp(maxSteps:=1000000)(disch:=try exact aa)only[hk,Ad];refine Aa.pure (lz32 _ tb mB) ?_;obtain ⟨n1,n2,n3⟩:=V1 db hk tb rfl;generalize hs:31-(m.getD (k+1) 0).log2=s at *;simp(maxSteps:=1000000)(disch:=try exact aa)only[HJ,↓Ab,Ad,↓reduceIte,Qu];refine Aa.by (J9 l s da n1 lA) rfl rfl lC ?_;simp(maxSteps:=1000000)(disch:=try exact aa)only[HJ,hk,↓Ab,Ad,↓reduceIte,Qu];refine Aa.by (J9 m s db n1 lA) (by rw[W,hk]) rfl lC ?_;simp(maxSteps:=1000000)(disch:=try exact aa)only[e1,hk,↓Ab,Ad,↓reduceIte,Qu];refine ⟨lD,?_⟩;have hVz:val m*2^s<B^(k+2+1):=AfZ n2 (Aet lz lA);generalize hU:val l*2^s=U at *;generalize hV:val m*2^s=V at *;refine Al.fx 7936 (α:=Nat × Nat × List Nat) (β:=Nat × List Nat) (fun x=>x.1) (fun x=>[(13,.d (.int .i64 ((x.1:Int)-1)))])
  (fun x=>[.row false (AR .u32 (Be x.1 U++Be (l.length+1-x.1) x.2.1)),.row false (AR .u32 (Be (k+2+1) V)),.row false (AR .u32 (Aer x.1 0++x.2.2))])
  (fun x=>x.1<=z+1/\x.2.2.length+x.1=z+1/\Dig x.2.2/\x.2.1<V/\U / B^x.1=val x.2.2*V+x.2.1)
  5888 (fun _=>[]) (fun x=>[.row false (AR .u32 (Be (l.length+1) x.1)),.row false (AR .u32 (Be (k+2+1) V)),.row false (AR .u32 x.2)])
  (fun x=>x.2.length=z+1/\Dig x.2/\x.1<V/\U=val x.2*V+x.1) (z+1,U / B^(z+1),[]) ⟨Af7 _,lC,(fun x hx=>kT),?_,kD⟩ ?_ ?_ ?_
 ·rw[<-hU];exact Aar da hz n1 n3
 ·refine ⟨[some 0,some 1,some 2],rfl,lC,gV,?_⟩;have:Be (l.length+1) U=Be (z+1) U++Be (l.length+1-(z+1)) (U / B^(z+1)):=by rw[<-FH];congr 1;omega
  simp[HW,BW,this,AgB]
 ·rintro ⟨i,r,qd⟩ ⟨hi,hq,hdq,hr,hv⟩;simp only at hi hq hdq hr hv;simp only[Bm,AeA,AeB];rcases i with _ | j
  ·simp(maxSteps:=1000000)(disch:=try exact aa)only[↓Ab,Ad,Qu,QB,QE];rw[Nat.pow_zero,Nat.div_one] at hv;exact ⟨(r,qd),⟨iK,hdq,hr,hv⟩,[some 0,some 1,some 2],rfl,lC,jR,by simp[HW,BW,Be]⟩
  have e2:j+(k+2)+1-j=k+3:=lA
  simp(maxSteps:=1000000)(disch:=try exact aa)only[HD,e2,↓Ab,Ad,↓reduceIte,Qu,QK];obtain ⟨hw,hq2⟩:=Acu hv hr;have hrB:r<B^(k+2):=AgW hr n2;have eu:Be (j+1) U++Be (l.length+1-(j+1)) r=Be j U++((U / B^j % B::Be (k+2) r)++Aer (z-j) 0):=by rw[Rb,AgF,show l.length+1-(j+1)=(k+2)+(z-j) by omega,JD hrB];rfl
  have ed:Be (k+2+1) V=Be (k+2) V++[0]:=JD (z:=1) n2;have du:Dig (U / B^j % B::Be (k+2) r):=fun x hx=>by
   rcases AgC.1 hx with rfl | hx
   ·exact Aeu _ lz
   exact DL _ _ x hx
  have vu:val (U / B^j % B::Be (k+2) r)=U / B^j % B+B*r:=by rw[val,D4 hrB]
  have vd:val (Be (k+2) V)=V:=D4 n2;have hds:=Ww (G:=G) (Be j U) (U / B^j % B::Be (k+2) r) (Aer (z-j) 0) (Be (k+2) V) [0] k (AK _ _) (by simp[AK]) (DL _ _) du (by rw[vu,vd];exact hw) n3 (by simp[AK];omega);rw[AK,vu,vd] at hds;refine Aa.by hds rfl (by rw[eu,ed]) (Af7 _) ?_;have hr':(U / B^j % B+B*r) % V<V:=Aeu _ lA;have hqB:(U / B^j % B+B*r) / V<B:=(Aga lA).2 (by have:=hw;rw[Aeg V] at this;exact this);generalize hgq:(U / B^j % B+B*r) / V=q1 at *;generalize hgr:(U / B^j % B+B*r) % V=r1 at *;have er:Be (l.length+1-j) r1=Be (k+3) r1++Aer (z-j) 0:=by rw[show l.length+1-j=(k+3)+(z-j) by omega,JD];exact AfZ (AgW hr' n2) (Aet lz lA)
  simp(maxSteps:=1000000)(disch:=try exact aa)only[↓Ab,Ad,↓reduceIte,Qu];refine ⟨(j,r1,q1::qd),⟨iz,jW,?_,hr',by rw[val];rw[Ahh q1];exact hq2⟩,lC,[some 0,some 1,some 2],rfl,lC,jR,?_⟩
  ·intro x hx;rcases AgC.1 hx with rfl | hx
   ·exact hqB
   exact hdq x hx
  simp[HW,BW,er,ed,Xh]
 rintro ⟨r,qd⟩ ⟨hq,hdq,hr,hv⟩;simp only at hq hdq hr hv;simp only[Bm,AeA,AeB];simp(maxSteps:=1000000)(disch:=try exact aa)only[HB,↓Ab,Ad,↓reduceIte,Qu];have hrB:r<B^(k+2):=AgW hr n2;have vt:val ((Be (l.length+1) r).take (k+2))=r:=by rw[Ra lA,D4 hrB]
 have ht:=FO (G:=G) (Be (l.length+1) r) (k+2) (DL _ _) jF jF;rw[vt] at ht;refine Aa.by ht rfl rfl (Af7 _) ?_;have hkk:(toW r).length<=k+2:=Cy hrB;have hrk:=CZ r;generalize (toW r).length=kk at *;simp(maxSteps:=1000000)(disch:=try exact aa)only[↓Ab,Ad,↓reduceIte,Qu];have hm2:(2:Int)^s=((2^s:Nat):Int):=lC
 have hmin:min s 64=s:=lA
 refine Al.fx 77371252455336267181216256 (α:=Nat) (β:=Unit) (fun i=>kk-i) (fun i=>[(87,.d (.int .i64 i))])
  (fun i=>[.row false (AR .u32 (Bu (l.length+1) s r i)),.row false (AR .u32 (Be (k+2+1) V)),.row false (AR .u32 qd)]) (fun i=>i<=kk)
  20480 (fun _=>[]) (fun _=>[.row false (AR .u32 (Bu (l.length+1) s r kk)),.row false (AR .u32 (Be (k+2+1) V)),.row false (AR .u32 qd)]) (fun _=>True) 0 (Ahj _) ?_ ?_ ?_
 ·exact ⟨[some 0,some 1,some 2],rfl,lC,gV,by simp[HW,BW,KM]⟩
 ·intro i hi;simp only[Bm,AeA,AeB];have b1:=Dj (s:=s) (r:=r) (show i<=l.length+1 by omega);simp(maxSteps:=1000000)(disch:=try exact aa)only[HF,↓Ab,Ad,↓reduceIte,Qu];refine ⟨fun h5=>?_,fun h5=>?_⟩
  ·refine Aa.frozenE (Tb ((Bu (l.length+1) s r i).take kk) (i+1)) (by simp[W,b1];omega) ?_;rw[Ta lA hrk];have b3:=KO (N:=l.length+1) (s:=s) (r:=r) (i:=i) lA;have hun:=WY (r:=r) (i:=i) n1;have bs:=Mh (N:=l.length+1) (s:=s) (r:=r) (i:=i) lA;have g1:r / B^(i+1) % B<4294967296:=Aeu _ lz;have g2:r / B^i % B<4294967296:=Aeu _ lz;generalize r / B^(i+1) % B=hi' at *;generalize r / B^i % B=lo at *;simp(maxSteps:=1000000)(disch:=try exact aa)only[b1,b3,Aas,hmin,hm2,UH,DW,↓Ab,Ad,↓reduceIte,Qu,QD,QF];have hun':(hi'*4294967296+lo) / 2^s % 4294967296=r / 2^s / B^i % B:=hun;rw[hun',bs];exact ⟨i+1,lA,iz,[some 0,some 1,some 2],rfl,lC,jR,jT⟩
  have:i=kk:=lA
  subst this;exact ⟨(),trivial,[some 0,some 1,some 2],rfl,lC,jR,jT⟩
 rintro ⟨⟩ -;simp only[Bm,AeA,AeB];simp(maxSteps:=1000000)(disch:=try exact aa)only[HB,↓Ab,Ad,↓reduceIte,Qu];have hq1:=FO (G:=G) qd (z+1) hdq lA lA;rw[AbZ lA] at hq1;refine Aa.by hq1 rfl rfl (Af7 _) ?_;simp(maxSteps:=1000000)(disch:=try exact aa)only[HB,↓Ab,Ad,↓reduceIte,Qu];have hus:=Ab1 (a:=a) (b:=b) (AgD s) (by rw[<-va,<-vb,hU,hV];exact hv) (by rw[<-vb,hV];exact hr);have vt2:val ((Bu (l.length+1) s r kk).take kk)=r / 2^s:=by rw[KN,D4 (Ag4 hus.2.2 hrk)]
 have hr1:=FO (G:=G) (Bu (l.length+1) s r kk) kk Me (by rw[Dj lA];omega) (by rw[Dj lA];omega);have htr:=KY (DL kk (r / 2^s));have htl:=JY (DL kk (r / 2^s));rw[D4 (Ag4 hus.2.2 hrk)] at htr htl;rw[AK] at htl;rw[vt2] at hr1;refine Aa.by hr1 rfl rfl (Af7 _) ?_;have htq:=KY hdq;have b1:=Dj (s:=s) (r:=r) (show kk<=l.length+1 by omega);have hlq:=JY hdq;simp(maxSteps:=1000000)(disch:=try exact aa)only[↓Ab,Ad,↓reduceIte,↓Qe,Qu];have e5:(Bu (l.length+1) s r kk).take (toW (r / 2^s)).length=toW (r / 2^s):=by have:=congrArg (List.take (toW (r / 2^s)).length) (KN (N:=l.length+1) (s:=s) (r:=r) (i:=kk));rw[Ahc,AgY htl,htr] at this;exact this
 rw[e5,htq,hus.1,hus.2.1]
def Bt {a b:Nat} (h:a<=b):(toW a).length<=(toW b).length:=by
 by_cases h2:(toW b).length<(toW a).length;·have:=Ek h2;omega
 omega
def UW (a b:Nat) (ha:(toW a).length<2^38) (hb:(toW b).length<2^38) :
  Ctr TP G 174 [.d (W (toW a)),.d (W (toW b))] [] (.d (W (toW (AgI a b)))) []:=by
 refine Ctr.pure (M:=M0) Ak Tryz.func174 rfl Ae1 ?_;simp only[Tryz.f174,↓Ab,Ad,Qu,Qv];refine Al.fr 0 (α:=Nat × Nat) (fun x=>x.2) (fun x=>[(0,.d (W (toW x.1))),(1,.d (W (toW x.2)))]) (fun _=>[]) (fun x=>AgI x.1 x.2=AgI a b/\(toW x.1).length<2^38/\(toW x.2).length<2^38) (a,b) ⟨rfl,ha,hb⟩ ?_ ?_;·exact nD
 rintro ⟨x,y⟩ ⟨hg,hx,hy⟩;simp only at hg hx hy;simp only[Bm,AeB];by_cases h0:y=0;·subst h0;rw[Nat.gcd_zero_right] at hg;subst hg;have e:toW 0=[]:=A5;rw[e];simp(disch:=try exact aa)only[↓Ab,Ad,↓Qe,Qx]
 have hp:0<(toW y).length:=by
  rcases AgO (toW y).length with h | h
  ·exact absurd (WZ.1 (Agv.1 h)) h0
  exact h
 simp(disch:=try exact aa)only[↓Ab,Ad,↓reduceIte,Qx];refine Aa.pure (Li x y h0 hx hy) ?_;simp(disch:=try exact aa)only[↓Ab,Ad,Qu];have hlt:=Aeu x (Nat.pos_of_ne_zero h0);refine ⟨(y,x % y),⟨by rw[<-hg,AgX x y];rw[AgX y (x % y)];exact (Nat.gcd_rec y x).symm,hy,?_⟩,hlt,nE⟩;have:=Bt (AgU hlt);simp only;omega
abbrev S8 (n:Int):List D:=[.bool (decide (n<0)),W (toW n.natAbs)]
abbrev Big (n:Int):D:=.agg (S8 n)
abbrev Frac (x:Rat):D:=.agg [.bool (decide (x.num<0)),W (toW x.num.natAbs),.bool false,W (toW x.den)]
abbrev sz (n:Int):Nat:=(toW n.natAbs).length
def HY {n:Nat}:0<(toW n).length↔n≠0:=by rw[Nat.pos_iff_ne_zero,ne_eq,Agv,WZ]
def Ck (neg:Bool) (n:Nat) (hn:(toW n).length<2^38):Ctr TP G 140 [.d (.bool neg),.d (W (toW n))] [] (.d (Big (if neg then -(n:Int) else n))) []:=by
 refine Ctr.pure (M:=M0) Ak Tryz.func140 rfl Afq ?_;cases neg;·simp(disch:=try exact aa)only[Tryz.f140,↓Ab,Ad,↓reduceIte,↓Qe,Qu,Qv];simp[Big,S8,W]
 simp(disch:=try exact aa)only[Tryz.f140,↓Ab,Ad,↓reduceIte,↓Qe,Qu,Qv];have:=@HY n;simp[Big,S8,W];omega
def Yd {a b:Nat}:(toW (a*b)).length<=(toW a).length+(toW b).length:=by refine Cy ?_;rw[AgL];exact Nat.mul_lt_mul'' (CZ a) (CZ b)
def T5 {a b:Nat}:(toW (a+b)).length<=max (toW a).length (toW b).length+1:=by refine Cy ?_;have h1:=AfZ (CZ a) (Aet (show 0<B by decide) (Nat.le_max_left (toW a).length (toW b).length));have h2:=AfZ (CZ b) (Aet (show 0<B by decide) (Nat.le_max_right (toW a).length (toW b).length));generalize max (toW a).length (toW b).length=k at *;have h3:B^k*2<=B^k*B:=Af2 _ lz;rw[Aev];omega
def TC {n d:Int} (hd:d≠0):d.sign*n=if ¬decide (n<0)=decide (d<0) then -((n.natAbs:Nat):Int) else ((n.natAbs:Nat):Int):=by
 rcases Int.lt_or_gt_of_ne hd with h | h
 ·rw[Int.sign_eq_neg_one_of_neg h];by_cases hn:n<0<;>simp[hn,h]<;>omega
 rw[Int.sign_eq_one_of_pos h];by_cases hn:n<0<;>simp[hn,show ¬d<0 by omega]<;>omega
def XB {m g:Nat} (h:g ∣ m):(-((m:Nat):Int)) / (g:Int)=-((m / g:Nat):Int):=by rw[Int.neg_ediv_of_dvd (Int.natCast_dvd_natCast.2 h)];rfl
def M5 {a b:Nat}:(toW (a / b)).length<=(toW a).length:=Bt (Aha _ _)
def Ff (n d:Int) (hd:d≠0) (hn:sz n<2^36) (hds:sz d<2^36):Ctr TP G 139 [.d (Big n),.d (Big d)] [] (.d (Frac (Rat.divInt n d))) []:=by
 simp only[sz] at hn hds;have hg0:AgI n.natAbs d.natAbs≠0:=aK
 have hgl:(toW (AgI n.natAbs d.natAbs)).length<=(toW d.natAbs).length:=Bt (Nat.gcd_le_right _ lA);have hx:=@M5 n.natAbs (AgI n.natAbs d.natAbs);have hy:=@M5 d.natAbs (AgI n.natAbs d.natAbs);have e1:(Rat.divInt n d).num=if ¬decide (n<0)=decide (d<0) then -((n.natAbs / AgI n.natAbs d.natAbs:Nat):Int) else ((n.natAbs / AgI n.natAbs d.natAbs:Nat):Int):=by
  rw[Rat.num_divInt,TC hd,Int.gcd,AgX d.natAbs];split;·exact XB (Nat.gcd_dvd_left _ _)
  rfl
 have e2:(Rat.divInt n d).den=d.natAbs / AgI n.natAbs d.natAbs:=bG
 refine Ctr.pure (M:=M0) Ak Tryz.func139 rfl Afr ?_;simp(disch:=try exact aa)only[Tryz.f139,↓Ab,Ad,↓reduceIte,Qu,Qv];refine Aa.pure (UW _ _ lA lA) ?_;generalize AgI n.natAbs d.natAbs=g at *;simp(disch:=try exact aa)only[↓Ab,Ad,↓reduceIte,Qu];refine Aa.pure (Li _ g hg0 lA lA) ?_;simp(disch:=try exact aa)only[↓Ab,Ad,↓reduceIte,Qu];refine Aa.pure (Li _ g hg0 lA lA) ?_;simp(disch:=try exact aa)only[↓Ab,Ad,↓reduceIte,Qu];refine Aa.pure (Ck _ _ lA) ?_;simp only[↓Ab,Ad,↓reduceIte,Qu];refine Aa.pure (Ck false _ lA) ?_;simp only[Frac];rw[e1,e2];exact pg
def FV (x:Rat):Prop:=sz x.num<=256/\(toW x.den).length<=256
instance (x:Rat):Decidable (FV x):=inferInstanceAs (Decidable (_/\_))
def HG (G:Ah):Prop:=G 2=some [W [1]]
def IM:toW 1=[1]:=by rw[E9 lz,show 1 / B=0 from rfl,A5];rfl
def AbD {n:Nat}:S8 (n:Int)=[.bool false,W (toW n)]:=by simp[S8]
abbrev Zf:D:=.agg [.bool false,.sl 0 false [],.bool false,.sl 0 false []]
def ZY {n:Int} (h1:-9223372036854775808<=n) (h2:n<=9223372036854775807):sz n<=2:=Cy gR
abbrev BigN (n:Nat):D:=.agg [.bool false,W (toW n)]
def DR {n:Nat}:Big (n:Int)=BigN n:=by rw[Big,AbD]
end Num
section
open Go Go.Proofs Go.Abs Go.RowKit Go.ChangeShapes Go.WideShapes Go.ChangeAt Go.Shelf Go.Joins Go.Deep
def gOne:Tryz.prog.globalNamed "tablefinder/fraction.one" = some 2:=by kernel_rfl
def tOne:(Tryz.prog.globals[2]?).map (·.type)=some 205:=by kernel_rfl
def cU32:Tryz.prog.cellsOf 187=1:=by kernel_rfl
def G2 (b:Bool):Ah:=fun g=>if g=2 then some [Num.W [1]] else G1 b g
def hT2 {b:Bool}:HT (G2 b):=⟨rfl,rfl⟩
def hP2 {b:Bool}:HP (G2 b):=rfl
def hI2 {b:Bool}:HI (G2 b):=Aeo hP2
def hG2 {b:Bool}:Num.HG (G2 b):=by simp[Num.HG,G2]
def AcK {X:World} {b:Bool} (h0:Tg (G1 b) X) (h:Lib.VarReads TP X "tablefinder/fraction.one" Rows.laid_tablefinder_fraction_one):Tg (G2 b) X:=by
 obtain ⟨g,t,cs,fuel,p,hg,ht,hv,hd⟩:=h;obtain rfl:=Option.some.inj (gOne.symm.trans hg);obtain rfl:=Option.some.inj (tOne.symm.trans ht);rcases open_ints Tryz.underlying205 Tryz.underlying187 cU32 hd with ⟨_,hx⟩ | ⟨a,len,cap,zs,hcs,_,hl,hm,hz,hx,hcell,_⟩
 ·simp[Rows.laid_tablefinder_fraction_one] at hx
 have hz:zs.length=cap:=by simpa using hz
 simp only[Rows.laid_tablefinder_fraction_one,Prod.mk.injEq,DataW.slice.injEq] at hx;obtain ⟨⟨h1,h2⟩,_⟩:=hx;have e1:(zs.take len).length=1:=by have:=congrArg List.length h1;simpa[lits] using this.symm
 have e2:(zs.drop len).length=0:=by have:=congrArg List.length h2;simpa[lits] using this.symm
 have e3:len=1/\cap=1:=by simp at e1 e2;omega
 obtain ⟨rfl,rfl⟩:=e3;obtain ⟨z,rfl⟩:∃ z,zs=[z]:=by
  match zs,hz with
  | [z],_=>exact ⟨z,rfl⟩
 have ez:z=1:=by have:=h1;simp[lits] at this;exact this.symm
 subst ez;have hz0:=World.var?_cell hg hv 0;have e4:cs[0]?=some (.slice (some a) 1 1):=by
  have:cs=#[.slice (some a) 1 1]:=by rw[<-Array.toArray_toList (xs:=cs),hcs]
  rw[this];rfl
 rw[e4] at hz0;rcases X1 (W:=X) (k:=.u32) hl lC hcell with hr | hr
 ·intro g ds hgd;simp only[G2] at hgd;split at hgd
  ·rename_i hgg;subst hgg;cases hgd;refine ⟨fun _=>.slice (some a) 1 1,fun i x hx=>?_,fun i x hx=>?_⟩
   ·rcases i with _ | i
    ·exact hz0
    simp at hx
   rcases i with _ | i
   ·simp at hx;subst hx;exact hr
   simp at hx
  exact h0 g ds hgd
 cases hr
end
end Go.Proofs.YtmidaophnbdcdaaGreatDoor
