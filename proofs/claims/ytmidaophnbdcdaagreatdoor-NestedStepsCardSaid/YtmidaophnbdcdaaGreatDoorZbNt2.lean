/-
  Contracts of the functions, one after another.
-/
import Derived.Test.YtmidaophnbdcdaaGreatDoorZbNt1
import Derived.Shelf.SortM.Plain
import Derived.Shelf.SortM.SortNone
import Derived.Ground.SlgmProg
set_option linter.all false
open Go.Abs renaming Bc->HW,Dv->BW,Cx->SW,Ap->AW,BP->sA,Bw->kZ
open Go.Proofs.Tryz renaming prog->TP
set_option maxHeartbeats 16000000
set_option maxRecDepth 100000
open Go.Abs renaming DD->Qe
open Nat renaming reduceAdd->Qu,reduceSub->Qv,reduceMul->Qw,reducePow->Qx,reduceDiv->Qy,reduceMod->Qz,reduceEqDiff->QI,reduceBEq->QK
open Int renaming reduceAdd->QA,reduceSub->QB,reduceMul->QC,reducePow->QD,reduceNeg->QE,reduceToNat->QF,reduceLT->QG,reduceLE->QH
open List renaming getElem?_eq_getElem->AbY,getD_eq_getElem?_getD->AbZ,mem_cons->Aer,length_append->Aeu,pairwise_cons->Aew,length_take->Af0,take_length->Af1,length_cons->Af2,map_cons->Agw,take_of_length_le->Agy,drop_of_length_le->Agz,drop_eq_nil_of_le->AgC,map_nil->AgD,mem_of_mem_take->AgH,mem_cons_of_mem->AgI,getElem_modify->AgK,range->AgO,flatMap_cons->AgR,take_add_one->AgS,cons_append->AgV,length_set->Ag2,length_nil->Ag4,length_map->Ag5,length_mergeSort->Ag6,append_assoc->Ahg,getElem?_map->Ahh,take_append->Ahl,drop_append->Ahm,append_nil->Ahq,nil_append->Ahs,mem_append->Aht,replicate->Ahu,map_set->Ahw
open Nat renaming reduceMod->Aeg,reduceDiv->Aen,lt_of_lt_of_le->Aeq,lt_or_ge->Aes,mod_two_eq_zero_or_one->Aet,gcd->Aev,le_refl->Aex,div_div_eq_div_mul->AeA,dvd_of_mod_eq_zero->AeB,lt_of_le_of_lt->AfI,zero_le->Af7,mul_assoc->Aga,mod_lt->Agb,pow_le_pow_right->Agq,pow_lt_pow_right->Agu,le_trans->Agv,pow_succ->Agx,mul_comm->AgA,div_eq_of_lt->AgE,lt_succ_self->AgF,not_lt_zero->AgJ,pos_of_ne_zero->AgM,add_mul_mod_self_left->AgP,pow_succ'->AgT,mod_eq_of_lt->AgU,zero_add->AgW,gcd_comm->AgX,mod_eq_zero_of_dvd->AgY,gcd_sub_self_right->AgZ,mod_add_div->Ag0,div_le_self->Ag1,pow_mul->Ag8,add_mul_div_left->Ag9,and_one_is_mod->Aha,mul_left_comm->Ahf,le_succ_of_le->Ahi,gcd_dvd_left->Ahj,mul_add->Aho,pow_add->Ahp,div_add_mod->Ahr,dvd_trans->Ahv,or_comm->Ahx,pow_pos->Ahy,mul_one->Ahz,sub_le->AhB
open Int renaming natAbs_natCast->AfZ,tmod_eq_emod_of_nonneg->Agp,tdiv_eq_ediv_of_nonneg->AgL,emod_lt_of_pos->AgN,emod_nonneg->Ag3,lt_tmod_of_pos->Ahc,tmod_lt_of_pos->Ahd,tmod_eq_emod->Ahk,le_refl->AhA
open Bool renaming false_and->AgB,true_and->AgG,false_eq_true->Ahb
open Array renaming getElem?_eq_getElem->AgQ,getElem?_modify->Ag7
open Or renaming inr->Ahe
open Option renaming getD_some->Ahn
namespace Go.Proofs.YtmidaophnbdcdaaGreatDoor
namespace Num
open Go Go.Proofs Go.Abs
variable {G:Ah}
def Ab5 {out l:List Nat} {k c x d0:Nat} (ho:out.length=k) (hx:l.getD k 0=x) (hv:val out+B^k*c=2*val (l.take k)+d0) :
  val (out++[(2*x+c) % B])+B^(k+1)*((2*x+c) / B)=2*val (l.take (k+1))+d0:=by
 rw[BZ,ho,Bo l k,hx];simp only[val,Nat.mul_zero,Nat.add_zero];have h1:=Ag0 (2*x+c) B;have e1:B^(k+1)*((2*x+c) / B)=B^k*(B*((2*x+c) / B)):=by rw[Agx,Aga]
 have e3:B^k*((2*x+c) % B+B*((2*x+c) / B))=B^k*(2*x+c):=by rw[h1]
 rw[e1];simp only[Aho] at e3 ⊢;have e4:B^k*(2*x)=2*(B^k*x):=Ahf ..;omega
def Aee {x c:Nat} (hx:x<4294967296) (hc:c<=1):CH .or .u32 (IntKind.u32.wrap ((x:Int)*2)) (c:Int)=(((2*x+c) % B:Nat):Int):=by
 have e1:IntKind.u32.wrap ((x:Int)*2)=((x*2^1 % 4294967296:Nat):Int):=by rw[<-DW];congr 1
 rw[e1,Sv lz,DM lA lA,Ahx,Sm lA];simp only[B];omega
def Ni (a d:Nat) (hd1:d<=1) (ha:(toW a).length<2^40) :
  Ctr TP G 182 [.d (W (toW a)),.d (.int .u32 d)] [] (.d (W (toW (2*a+d)))) []:=by
 have da:=Bg a;have va:=Bf a;generalize toW a=l at *;refine Ctr.pure (M:=M0) Ak Tryz.func182 rfl AeT ?_;simp only[Tryz.f182,↓Ab,Ad,Qu,Qv];refine Al.fr 1 (α:=Nat × List Nat × Nat) (fun x=>l.length-x.1) (fun x=>[(1,.d (.int .u32 x.2.2)),(5,.lsl 0 1 0 x.1),(6,.d (.int .i64 x.1))])
  (fun x=>[.row false (AR .u32 x.2.1)]) (fun x=>x.1<=l.length/\x.2.1.length=x.1/\Dig x.2.1/\x.2.2<=1/\val x.2.1+B^x.1*x.2.2=2*val (l.take x.1)+d) (0,[],d) ⟨lC,rfl,kC,hd1,kD⟩ ?_ ?_
 ·exact mM
 rintro ⟨k,out,c⟩ ⟨hk,ho,hd,hc,hv⟩;simp only at hk ho hd hc hv;simp only[Bm,Aeg,Aen];have p1:l.getD k 0<4294967296:=da.getD k;replace hv:=Hid.mk hv;rcases Aes k l.length with h1 | h1
 ·have hor:=Aee p1 hc;simp(disch:=try exact aa)only[hor,↓Ab,Ad,↓reduceIte,Qu,QD,QF];refine ⟨(k+1,out++[(2*l.getD k 0+c) % B],(2*l.getD k 0+c) / B),⟨iz,kR,hd.append (by intro x hx;simp at hx;subst hx;exact Agb _ lz),gR,Ab5 ho rfl hv.out⟩,iz,[some 2],rfl,lC,?_,jT⟩;have e:((l.getD k 0:Nat):Int) / 2147483648=(((2*l.getD k 0+c) / B:Nat):Int):=by simp only[B];omega
  rw[e];simp[SW,AW]
 simp(disch:=try exact aa)only[↓Ab,Ad,↓reduceIte,Qu];have hk':k=l.length:=lA
 have hv:=hv.out;rw[Agy lA,va] at hv;have hv':val (out++[c])=2*a+d:=eJ
 refine Aa.frozenE (Er (out++[c]) (hd.append bH) jW) kf ?_;rw[hv'];exact pg
def AbB (l:List Nat) (i:Nat) (hi:i<32*l.length) (hl:l.length<2^40) (hd:Dig l) :
  Ctr TP G 183 [.d (W l),.d (.int .i64 i)] [] (.d (.int .u32 (l.getD (i / 32) 0 / 2^(i % 32) % 2:Nat))) []:=by
 refine Ctr.pure (M:=M0) Ak Tryz.func183 rfl AeS ?_;have p1:l.getD (i / 32) 0<4294967296:=hd.getD (i / 32);have e1:Int.tdiv (i:Int) 32=((i / 32:Nat):Int):=by rw[AgL lA];omega
 have e2:Int.tmod (i:Int) 32=((i % 32:Nat):Int):=by rw[Agp lA];omega
 have e3:min (i % 32) 32=i % 32:=lA
 have hm:(2:Int)^(i % 32)=((2^(i % 32):Nat):Int):=lC
 have hle:=Ag1 (l.getD (i / 32) 0) (2^(i % 32));have e4:CH .and .u32 ((l.getD (i / 32) 0 / 2^(i % 32):Nat):Int) 1=((l.getD (i / 32) 0 / 2^(i % 32) % 2:Nat):Int):=by have:=Ec (a:=l.getD (i / 32) 0 / 2^(i % 32)) (b:=1) lA lA;rw[Aha] at this;exact this
 simp(disch:=try exact aa)only[Tryz.f183,e1,e2,e3,hm,UH,e4,↓Ab,Ad,↓reduceIte,↓Qe,Qu,Qv]
def Acj {l:List Nat} {i v:Nat} (h:i<l.length):(l.set i v).getD i 0=v:=by rw[AbZ,List.getElem?_set_self h];rfl
def Aep {x y:Nat} (hx:x<4294967296):CH .or .u32 ((x / 2:Nat):Int) (IntKind.u32.wrap ((y:Int)*2147483648))=(((y*B+x) / 2^1 % B:Nat):Int):=by
 have e1:IntKind.u32.wrap ((y:Int)*2147483648)=((y*2^31 % 4294967296:Nat):Int):=by rw[<-DW];congr 1
 rw[e1,Sv lz,DM lA lA,Sm lA];simp only[B];omega
def I4 (a:Nat) (ha:(toW a).length<2^38) :
  Ctr TP G 181 [.d (W (toW a))] [] (.d (W (toW (a / 2)))) []:=by
 have da:=Bg a;have va:=Bf a;have la:=CZ a;have ea:=Nj a;generalize toW a=l at *;refine Ctr.pure (M:=M0) Ak Tryz.func181 rfl AeU ?_;simp(disch:=try exact aa)only[Tryz.f181,↓Ab,Ad,↓reduceIte,Qu,Qv];refine Al.fr 513 (α:=Nat) (fun i=>l.length-i) (fun i=>[(3,.lsl 0 1 0 l.length),(10,.d (.int .i64 i))])
  (fun i=>[.row false (AR .u32 (Bu l.length 1 a i))]) (fun i=>i<=l.length) 0 (Af7 _) ?_ ?_
 ·exact ⟨[some 1],rfl,lC,gV,by simp[HW,BW,KM,<-ea]⟩
 intro i hi;simp only[Bm,Aeg,Aen];have b1:=Dj (s:=1) (r:=a) hi;rcases Aes i l.length with h1 | h1
 ·have b3:=KO (s:=1) (r:=a) h1;have hun:=WY (r:=a) (i:=i) (show 1<32 by decide);have bs:=Mh (s:=1) (r:=a) h1;have bg:∀ v,((Bu l.length 1 a i).set i v).getD i 0=v:=fun v=>Acj (by rw[b1];exact h1);have p1:a / B^i % B<4294967296:=Agb _ lz;have p2:l.getD (i+1) 0<4294967296:=da.getD _;rcases Aes (i+1) l.length with h2 | h2
  ·have hy:l.getD (i+1) 0=a / B^(i+1) % B:=by
    have:=GH (k:=l.length) (n:=a) h2;rwa[<-ea] at this
   have hor:=Aep (x:=a / B^i % B) (y:=l.getD (i+1) 0) p1;have ed:((a / B^i % B:Nat):Int) / 2=((a / B^i % B / 2:Nat):Int):=rfl;rw[hy] at hor;have hun':(a / B^(i+1) % B*B+a / B^i % B) / 2^1 % B=a / 2^1 / B^i % B:=hun;rw[hun'] at hor;simp(disch:=try exact aa)only[b1,b3,bg,ed,hy,hor,List.set_set,↓Ab,Ad,↓reduceIte,Qx,QD,QF];refine ⟨lD,i+1,h1,iz,[some 0],rfl,lC,jR,?_⟩;simp only[bs];simp[HW,BW]
  have hy:a / B^(i+1)=0:=AgE (Aeq la (Agq lz h2));have ed:((a / B^i % B:Nat):Int) / 2=((a / 2^1 / B^i % B:Nat):Int):=by rw[<-hun,hy];simp only[B] at p1 ⊢;omega
  simp(disch:=try exact aa)only[b1,b3,ed,↓Ab,Ad,↓reduceIte,Qx,QD,QF];refine ⟨i+1,h1,iz,[some 0],rfl,lC,jR,?_⟩;simp only[bs];simp[HW,BW]
 simp(disch:=try exact aa)only[↓Ab,Ad,↓reduceIte];have ei:i=l.length:=lA
 subst ei;have er:Bu l.length 1 a l.length=Be l.length (a / 2):=by rw[Bu,Agz jF,Ahq]
 refine Aa.frozenE (Er (Bu l.length 1 a l.length) Me (by rw[b1];omega)) (by simp[W,b1]) ?_;rw[er,D4 lA];exact pq
def JE {k n i:Nat} (h:i<k):(Be k n).getD i 0=n / B^i % B:=by
 induction k generalizing n i with
 | zero=>omega
 | succ k ih =>
  cases i with
  | zero=>simp[Be]
  | succ i =>have:=@ih (n / B) i lA;simp only[Be,List.getD_cons_succ,this];rw[AeA,<-AgT]
def Vn:B=2^32:=rfl
def Ack {n X j:Nat} (hj:j / 32<n) (hX:X<B^n) (hd:2^(j+1) ∣ X) :
  (Be n X).set (j / 32) (X / B^(j / 32) % B ||| 2^(j % 32))=Be n (X+2^j)/\X / B^(j / 32) % B ||| 2^(j % 32)<4294967296:=by
 have hs:j % 32<32:=Agb _ lz;have hw:X / B^(j / 32) % B<4294967296:=Agb _ lz;have hlt:X / B^(j / 32) % B ||| 2^(j % 32)<2^32:=Nat.or_lt_two_pow lA (Agu lz hs);have hp:B^(j / 32)*2^(j % 32)=2^j:=by rw[Vn,<-Ag8,<-Ahp,Ahr]
 have hm:2^(j % 32+1) ∣ X / B^(j / 32) % B:=by
  have h1:2^(j % 32+1) ∣ B:=by rw[Vn];exact Nat.pow_dvd_pow 2 hs
  have h2:2^(j % 32+1) ∣ X / B^(j / 32):=by
   obtain ⟨c,hc⟩:=hd;have:X=B^(j / 32)*(2^(j % 32+1)*c):=by rw[hc,Agx,<-hp,Agx,Aga,Aga,Aga]
   rw[this,Nat.mul_div_cancel_left _ (Ahy lz)];exact ⟨c,rfl⟩
  exact (Nat.dvd_mod_iff h1).2 h2
 obtain ⟨c,hc⟩:=hm;have hor:X / B^(j / 32) % B ||| 2^(j % 32)=X / B^(j / 32) % B+2^(j % 32):=by rw[Ahx,Nat.add_comm,hc,AgA];exact Sm (Agu lz (AgF _))
 refine ⟨?_,hlt⟩;refine Hc ((DL _ _).set hlt) (by rw[Ag2,AK]) ?_;have h1:=RO (l:=Be n X) (p:=j / 32) (d:=X / B^(j / 32) % B ||| 2^(j % 32)) (by rw[AK];exact hj);rw[JE hj,D4 hX,hor,Aho,hp] at h1;rw[hor];omega
def AcT {a b j:Nat} (hb:0<b):∃ bit r',bit=a / 2^j % 2/\r'=2*(a / 2^(j+1) % b)+bit /\
  (b<=r'->a / 2^j % b=r'-b/\a / 2^j / b*2^j=a / 2^(j+1) / b*2^(j+1)+2^j) /\
  (r'<b->a / 2^j % b=r'/\a / 2^j / b*2^j=a / 2^(j+1) / b*2^(j+1)):=by
 refine ⟨_,_,rfl,rfl,?_⟩;have e1:a / 2^(j+1)=a / 2^j / 2:=by rw[Agx,AeA]
 have e2:∀ q,q*2^(j+1)=2*q*2^j:=fun q=>by rw[Agx];rw[AgA 2 q,Aga,AgA 2]
 rw[e1];generalize a / 2^j=x;have h1:=Ag0 x 2;have h2:=Ag0 (x / 2) b;have h3:=Agb (x / 2) hb;generalize x / 2 / b=q at *;generalize x / 2 % b=r at *;have hx:x=b*(2*q)+(2*r+x % 2):=by have:b*(2*q)=2*(b*q):=Ahf ..;omega
 generalize x % 2=c at *;have hc:c<=1\/True:=.inr trivial;refine ⟨fun h=>?_,fun h=>?_⟩
 ·have hq:x / b=2*q+1/\x % b=2*r+c-b:=by
   have hlt:2*r+c-b<b:=lA;have:x=(2*r+c-b)+b*(2*q+1):=by rw[Aho,Ahz];omega
   rw[this];exact ⟨by rw[Ag9 _ _ hb,AgE hlt,AgW],by rw[AgP,AgU hlt]⟩
  rw[hq.1,hq.2,e2,Nat.add_mul,Nat.one_mul];exact qI
 have hq:x / b=2*q/\x % b=2*r+c:=by
  have:x=(2*r+c)+b*(2*q):=lA
  rw[this];exact ⟨by rw[Ag9 _ _ hb,AgE h,AgW],by rw[AgP,AgU h]⟩
 rw[hq.1,hq.2,e2];exact qI
def Ad6 {a j:Nat} (hj:j / 32<(toW a).length):(toW a).getD (j / 32) 0 / 2^(j % 32) % 2=a / 2^j % 2:=by
 have h1:(toW a).getD (j / 32) 0=a / B^(j / 32) % B:=by have:=JE (k:=(toW a).length) (n:=a) hj;rwa[<-Nj a] at this
 rw[h1];have hp:B^(j / 32)*2^(j % 32)=2^j:=by rw[Vn,<-Ag8,<-Ahp,Ahr]
 rw[<-hp,<-AeA];generalize a / B^(j / 32)=y;have hs:j % 32<32:=Agb _ lz;have:B=2^(j % 32)*(2*2^(31-j % 32)):=by rw[<-AgT,<-Ahp,Vn];congr 1;omega
 rw[this,Nat.mod_mul_right_div_self,Nat.mod_mul_right_mod]
def UM (a b:Nat) (hb:b≠0) (ha:(toW a).length<2^38) (hb':(toW b).length<2^38) :
  Ctr TP G 153 [.d (W (toW a)),.d (W (toW b))] [] (.d (.tup [W (toW (a / b)),W (toW (a % b))])) []:=by
 have da:=Bg a;have la:=CZ a;have hbp:0<b:=AgM hb;have hbit:∀ j,j / 32<(toW a).length->_:=fun j hj=>Ad6 (a:=a) (j:=j) hj;refine Ctr.pure (M:=M0) Ak Tryz.func153 rfl Afd ?_;generalize hl:(toW a).length=n at *;have e0:a / 2^(32*n)=0:=AgE (by rw[Ag8];exact la);simp(disch:=try exact aa)only[Tryz.f153,hl,↓Ab,Ad,↓reduceIte,Qu,Qv];refine Al.fx 19 (α:=Nat) (β:=Unit) (fun k=>k) (fun k=>[(5,.d (W (toW (a / 2^k % b)))),(6,.d (.int .i64 ((k:Int)-1)))])
  (fun k=>[.row false (AR .u32 (Be n (a / 2^k / b*2^k)))]) (fun k=>k<=32*n)
  16 (fun _=>[(5,.d (W (toW (a % b))))]) (fun _=>[.row false (AR .u32 (Be n (a / b)))]) (fun _=>True) (32*n) (Aex _) ?_ ?_ ?_
 ·rw[e0,Nat.zero_mod,Nat.zero_div,Nat.zero_mul];have hz:Be n 0=Ahu n 0:=(Hc (Dig.zeros n) lC (KW n)).symm;refine ⟨[some 0],rfl,lC,?_,?_⟩;·simp[sA,kZ,SW,AW,A5,AR]
  simp[HW,BW,hz]
 ·intro k hk;simp only[Bm,Aeg,Aen];rcases k with _ | j
  ·simp(disch:=try exact aa)only[↓Ab,Ad,Qx,QB,QE];refine ⟨(),trivial,[some 0],rfl,lC,?_,?_⟩;·simp[SW,AW]
   simp[HW,BW]
  have hj:j / 32<n:=lA
  obtain ⟨bit,r',hbit1,hr',hge,hlt⟩:=AcT (a:=a) (b:=b) (j:=j) hbp;have hb1:bit<=1:=lA
  have hmod:=Agb (a / 2^(j+1)) hbp;have hrl:(toW (a / 2^(j+1) % b)).length<=(toW b).length:=Bt (Nat.le_of_lt hmod);have hrl2:(toW r').length<=(toW b).length+1:=by have h1:=Bt (show r'<=b+b by omega);have h2:=@T5 b b;omega
  have e2:Int.tdiv (j:Int) 32=((j / 32:Nat):Int):=by rw[AgL lA];omega
  have e3:Int.tmod (j:Int) 32=((j % 32:Nat):Int):=by rw[Agp lA];omega
  have e4:min (j % 32) 32=j % 32:=lA
  have dl:=AK n (a / 2^(j+1) / b*2^(j+1));simp(disch:=try exact aa)only[hl,↓Ab,Ad,↓reduceIte];refine Aa.of (AbB (toW a) j (by rw[hl];omega) lA da) (by rw[W,hl]) ?_;rw[hbit j hj,<-hbit1];simp only[↓Ab,Ad,↓reduceIte];refine Aa.pure (Ni _ bit hb1 lA) ?_;rw[<-hr'];simp only[↓Ab,Ad,↓reduceIte];refine Aa.pure (Lf r' b lA lA) ?_;by_cases hc:b<=r'
  ·have hge':=hge hc;have hci:(0:Int)<=cmpI (r':Int) b:=bv
   simp(disch:=try exact aa)only[↓Ab,Ad,↓reduceIte];refine Aa.pure (Gt r' b hc lA) ?_;have hX:a / 2^(j+1) / b*2^(j+1)<B^n:=(by refine AfI ?_ la;rw[AeA,AgA (2^(j+1)),<-AeA];exact Agv (Nat.div_mul_le_self _ _) (Ag1 _ _))
   obtain ⟨s1,s2⟩:=Ack (n:=n) hj hX ⟨_,AgA _ _⟩;have g1:=JE (k:=n) (n:=a / 2^(j+1) / b*2^(j+1)) hj;have hw1:(2^(j % 32):Int)=((2^(j % 32):Nat):Int):=lC
   have hpl:2^(j % 32)<4294967296:=Agu (m:=j % 32) (n:=32) lz lA;have hwr:IntKind.u32.wrap ((2^(j % 32):Nat):Int)=((2^(j % 32):Nat):Int):=(by rw[DW,AgU hpl])
   have hor:=DM (a:=a / 2^(j+1) / b*2^(j+1) / B^(j / 32) % B) (b:=2^(j % 32)) (Agb _ lz) hpl;simp(disch:=try exact aa)only[e2,e3,e4,dl,g1,hw1,hwr,hor,Int.one_mul,↓Ab,Ad,↓reduceIte];refine ⟨j,lA,AgF _,[some 0],rfl,lC,?_,?_⟩;·simp[SW,AW,hge'.1]
   simp[HW,BW,hge'.2,s1]
  have hlt':=hlt lA;have hci:cmpI (r':Int) b<0:=by rw[F6 lA];decide
  simp(disch:=try exact aa)only[↓Ab,Ad];refine ⟨j,lA,AgF _,[some 0],rfl,lC,?_,?_⟩;·simp[SW,AW,hlt'.1]
  simp[HW,BW,hlt'.2]
 rintro ⟨⟩ -;simp only[Bm,Aeg,Aen];simp only[↓Ab,Ad,↓reduceIte];have hq:a / b<B^n:=AfI (Ag1 _ _) la;refine Aa.frozenE (Er (Be n (a / b)) (DL _ _) jF) (by rw[W,AK,Agy jF]) ?_;rw[D4 hq];exact pq
def Aef {a:Nat} (h:a≠0):(toW a).getD 0 0=a % B:=by rw[E9 h];rfl
def and1 {x:Nat} (h:x<4294967296):CH .and .u32 (x:Int) 1=((x % 2:Nat):Int):=by have:=Ec (a:=x) (b:=1) h lz;rw[Aha] at this;exact this
def MX {a:Nat} (h:a≠0):CH .and .u32 (((toW a).getD 0 0:Nat):Int) 1=((a % 2:Nat):Int):=by rw[Aef h,and1 (show a % B<4294967296 from Agb _ lz),Nat.mod_mod_of_dvd _ lz]
def Uz {a b g:Nat} (h:Aev a b=g) (ha:a % 2=0) (hg:g % 2=1):Aev (a / 2) b=g:=by
 have hb:b % 2=1:=by
  rcases Aet b with hb | hb
  ·have:2 ∣ g:=h▸Nat.dvd_gcd (AeB ha) (AeB hb);omega
  exact hb
 have hc:Nat.Coprime 2 b:=by rw[Nat.Coprime,Nat.gcd_rec,hb];rfl
 have:=Nat.Coprime.gcd_mul_left_cancel (a / 2) hc;rw[<-this,Nat.mul_div_cancel' (AeB ha),h]
def YW {a b g:Nat} (h:Aev a b=g) (hb:b % 2=0) (hg:g % 2=1):Aev a (b / 2)=g:=by rw[AgX] at h ⊢;exact Uz h hb hg
def AcL {a b:Nat} (h:¬(a % 2=0/\b % 2=0)):Aev a b % 2=1:=by
 rcases Aet (Aev a b) with hg | hg
 ·have hd:=AeB hg;have h1:=Ahv hd (Ahj a b);have h2:=Ahv hd (Nat.gcd_dvd_right a b);exact absurd ⟨AgY h1,AgY h2⟩ h
 exact hg
def Pr {a k n:Nat} (h:a*2^k=n) (ha:a≠0):k<32*(toW n).length:=by
 have h1:=CZ n;rw[Vn,<-Ag8] at h1;have h2:2^k<=n:=by rw[<-h];exact Nat.le_mul_of_pos_left _ (AgM ha)
 exact (Nat.pow_lt_pow_iff_right lz).1 (AfI h2 h1)
def Uw {a k n:Nat} (h:a*2^k=n) (ha:a % 2=0):a / 2*2^(k+1)=n:=by rw[AgT,<-Aga,Nat.div_mul_cancel (AeB ha)];exact h
def GC {a k n:Nat} (h:a*2^k=n):a<=n:=by rw[<-h];exact Nat.le_mul_of_pos_right _ (Nat.two_pow_pos k)
def Aa4 (a0 b0:Nat) (ha0:a0≠0) (hb0:b0≠0) (hla:(toW a0).length<2^37) (hlb:(toW b0).length<2^37) :
  Ctr TP G 152 [.d (W (toW a0)),.d (W (toW b0))] [] (.d (W (toW (Aev a0 b0)))) []:=by
 have le1:∀ {x},x<=a0->(toW x).length<2^37:=fun h=>AfI (Bt h) hla;have le2:∀ {x},x<=max a0 b0->(toW x).length<2^37:=fun {x} h=>by
  rcases Nat.le_total a0 b0 with h2 | h2
  ·exact AfI (Bt (by omega:x<=b0)) hlb
  exact AfI (Bt (by omega:x<=a0)) hla
 refine Ctr.pure (M:=M0) Ak Tryz.func152 rfl Afe ?_;simp only[Tryz.f152,↓Ab,Ad,Qu,Qv];refine Al.fx 0 (α:=Nat × Nat × Nat) (β:=Nat × Nat × Nat) (fun x=>x.1) (fun x=>[(0,.d (W (toW x.1))),(1,.d (W (toW x.2.1))),(5,.d (.int .i64 x.2.2))])
  (fun _=>[]) (fun x=>x.1≠0/\x.2.1≠0/\x.1*2^x.2.2=a0/\x.2.1*2^x.2.2=b0)
  0 (fun x=>[(0,.d (W (toW x.1))),(1,.d (W (toW x.2.1))),(5,.d (.int .i64 x.2.2))]) (fun _=>[]) (fun x=>(x.1≠0/\x.2.1≠0/\x.1*2^x.2.2=a0/\x.2.1*2^x.2.2=b0)/\¬(x.1 % 2=0/\x.2.1 % 2=0))
  (a0,b0,0) ⟨ha0,hb0,lC,lC⟩ ?_ ?_ ?_
 ·exact nD
 ·rintro ⟨a,b,k⟩ hR;have hR':=hR;obtain ⟨ha,hb,hak,hbk⟩:=hR';simp only at ha hb hak hbk;simp only[Bm,Aen];have l1:=MX ha;have l2:=MX hb;have p1:=HY.2 ha;have p2:=HY.2 hb;have q1:=le1 (GC hak);have q2:=le2 (show b<=max a0 b0 by have:=GC hbk;omega);have q3:=Pr hak ha;have m1:=Aet a;have m2:=Aet b;by_cases e1:a % 2=0
  ·by_cases e2:b % 2=0;·simp(disch:=try exact aa)only[l1,l2,e1,e2,↓Ab,Ad,↓reduceIte];refine Aa.pure (I4 a lA) ?_;simp only[↓Ab,Ad,↓reduceIte];refine Aa.pure (I4 b lA) ?_;simp(disch:=try exact aa)only[↓Ab,Ad];exact ⟨(a / 2,b / 2,k+1),⟨iz,iz,Uw hak e1,Uw hbk e2⟩,iz,nE⟩
   simp(disch:=try exact aa)only[l1,l2,e1,↓Ab,Ad,↓reduceIte];exact ⟨(a,b,k),⟨hR,fun h=>e2 h.2⟩,nE⟩
  simp(disch:=try exact aa)only[l1,↓Ab,Ad,↓reduceIte];exact ⟨(a,b,k),⟨hR,fun h=>e1 h.1⟩,nE⟩
 rintro ⟨a1,b1,K⟩ ⟨⟨ha1,hb1,hak1,hbk1⟩,hodd⟩;simp only at ha1 hb1 hak1 hbk1 hodd;simp only[Bm,Aen];have hgo:=AcL hodd;have hgg:Aev a0 b0=Aev a1 b1*2^K:=by rw[<-hak1,<-hbk1,Nat.gcd_mul_right]
 have hg0:Aev a1 b1≠0:=lA
 have hKb:=Pr hak1 ha1;rw[hgg];have hgl:Aev a1 b1*2^K<=a0:=by rw[<-hgg];exact Nat.gcd_le_left _ (AgM ha0)
 generalize Aev a0 b0=gg at *;generalize hg:Aev a1 b1=g at *;have ma1:a1<=max a0 b0:=by have:=GC hak1;omega
 have mb1:b1<=max a0 b0:=by have:=GC hbk1;omega
 simp only[↓Ab];refine Al.fx 32 (α:=Nat × Nat) (β:=Unit) (fun x=>x.1+x.2) (fun x=>[(0,.d (W (toW x.1))),(1,.d (W (toW x.2)))])
  (fun _=>[]) (fun x=>x.1≠0/\x.1<=max a0 b0/\x.2<=max a0 b0/\Aev x.1 x.2=g)
  32 (fun _=>[(0,.d (W (toW g)))]) (fun _=>[]) (fun _=>True) (a1,b1) ⟨ha1,ma1,mb1,hg⟩ ?_ ?_ ?_
 ·exact nD
 ·rintro ⟨a,b⟩ ⟨ha,hma,hmb,hgab⟩;simp only at ha hma hmb hgab;simp only[Bm,Aeg,Aen];by_cases hb:b=0;·subst hb;rw[Nat.gcd_zero_right] at hgab;subst hgab;have e:toW 0=[]:=A5;rw[e];simp(disch:=try exact aa)only[↓Ab,Ad];exact mU
  have p2:=HY.2 hb;simp(disch:=try exact aa)only[↓Ab,Ad];refine Al.fx 34 (α:=Nat) (β:=Nat) (fun x=>x) (fun x=>[(0,.d (W (toW x)))])
   (fun _=>[]) (fun x=>x≠0/\x<=a/\Aev x b=g)
   34 (fun x=>[(0,.d (W (toW x)))]) (fun _=>[]) (fun x=>x≠0/\x<=a/\Aev x b=g/\x % 2=1) a ⟨ha,Aex _,hgab⟩ ?_ ?_ ?_
  ·exact nD
  ·rintro x ⟨hx,hxa,hxg⟩;simp only[Bm,Aeg,Aen];have l1:=MX hx;have p1:=HY.2 hx;have q1:=le2 (show x<=max a0 b0 by omega);have m1:=Aet x;by_cases e1:x % 2=0
   ·simp(disch:=try exact aa)only[l1,e1,↓Ab,Ad,↓reduceIte];refine Aa.pure (I4 x lA) ?_;simp only[↓Ab,Ad];exact ⟨x / 2,⟨lA,lA,Uz hxg e1 hgo⟩,iz,nE⟩
   simp(disch:=try exact aa)only[l1,↓Ab,Ad,↓reduceIte];exact ⟨x,⟨hx,hxa,hxg,lA⟩,nE⟩
  rintro a' ⟨ha',haa',hga',hoa⟩;simp only[Bm,Aeg,Aen];simp only[↓Ab];refine Al.fx 33 (α:=Nat) (β:=Nat) (fun x=>x) (fun x=>[(1,.d (W (toW x)))])
   (fun _=>[]) (fun x=>x≠0/\x<=b/\Aev a' x=g)
   33 (fun x=>[(1,.d (W (toW x)))]) (fun _=>[]) (fun x=>x≠0/\x<=b/\Aev a' x=g) b ⟨hb,Aex _,hga'⟩ ?_ ?_ ?_
  ·exact nD
  ·rintro x ⟨hx,hxa,hxg⟩;simp only[Bm,Aeg,Aen];have l1:=MX hx;have p1:=HY.2 hx;have q1:=le2 (show x<=max a0 b0 by omega);have m1:=Aet x;by_cases e1:x % 2=0
   ·simp(disch:=try exact aa)only[l1,e1,↓Ab,Ad,↓reduceIte];refine Aa.pure (I4 x lA) ?_;simp only[↓Ab,Ad];exact ⟨x / 2,⟨lA,lA,YW hxg e1 hgo⟩,iz,nE⟩
   simp(disch:=try exact aa)only[l1,↓Ab,Ad,↓reduceIte];exact ⟨x,⟨hx,hxa,hxg⟩,nE⟩
  rintro b' ⟨hb',hbb',hgb'⟩;simp only[Bm,Aeg,Aen];have q1:=le2 (show a'<=max a0 b0 by omega);have q2:=le2 (show b'<=max a0 b0 by omega);simp only[↓Ab,Ad,↓reduceIte];refine Aa.pure (Lf a' b' lA lA) ?_;by_cases hc:b'<a'
  ·have hci:cmpI (a':Int) b'=1:=F7 lA;simp(disch:=try exact aa)only[hci,↓Ab,Ad,↓reduceIte];refine Aa.pure (Gt a' b' lA lA) ?_;simp only[↓Ab,Ad];exact ⟨(b',a'-b'),⟨hb',iz,iz,by simp only;rw[AgZ lA,AgX];exact hgb'⟩,iz,nE⟩
  have hci:¬cmpI (a':Int) b' > 0:=bv
  simp only[hci,↓Ab,Ad,↓reduceIte];refine Aa.pure (Gt b' a' lA lA) ?_;simp only[↓Ab,Ad];exact ⟨(a',b'-a'),⟨ha',iz,iz,by simp only;rw[AgZ lA];exact hgb'⟩,iz,nE⟩
 rintro ⟨⟩ -;simp only[Bm,Aeg,Aen];simp only[↓Ab];refine Al.fx 0 (α:=Nat × Nat) (β:=Unit) (fun x=>x.2) (fun x=>[(0,.d (W (toW x.1))),(5,.d (.int .i64 x.2))])
  (fun _=>[]) (fun x=>x.1*2^x.2=g*2^K/\x.2<=K) 0 (fun _=>[(0,.d (W (toW (g*2^K))))]) (fun _=>[]) (fun _=>True) (g,K) ⟨rfl,Aex _⟩ ?_ ?_ ?_
 ·exact nD
 ·rintro ⟨x,k⟩ ⟨hx,hk⟩;simp only at hx hk;simp only[Bm,Aen];rcases k with _ | k
  ·rw[Nat.pow_zero,Ahz] at hx;subst hx;simp(disch:=try exact aa)only[↓Ab,Ad];exact mU
  have q1:=le1 (Agv (GC hx) hgl);simp(disch:=try exact aa)only[↓Ab,Ad,↓reduceIte];refine Aa.pure (Ni x 0 lz lA) ?_;simp(disch:=try exact aa)only[↓Ab,Ad];refine ⟨(2*x,k),⟨?_,iz⟩,AgF _,nE⟩;rw[<-hx,AgT];simp only;rw[AgA 2 x,Aga]
 rintro ⟨⟩ -;simp only[Bm,Aen];exact qD
def LV (n:Int) (hn:sz n<2^36):Ctr TP G 111 [.d (Big n)] [] (.d (Big (-n))) []:=by
 refine Ctr.pure (M:=M0) Ak Tryz.func111 rfl AfN ?_;simp only[sz] at hn;simp(disch:=try exact aa)only[Tryz.f111,↓Ab,Ad,↓reduceIte,Qu,Qv];refine Aa.pure (Dq _ _ (Bg _) lA) ?_;rw[Bf];have e:(if decide (¬n<0)=true then -((n.natAbs:Nat):Int) else ((n.natAbs:Nat):Int))=-n:=by
  by_cases h:n<0;·simp[h];omega
  simp[h];omega
 rw[e];exact pg
def FP (a b:Int) (ha:sz a<2^36) (hb:sz b<2^36):Ctr TP G 110 [.d (Big a),.d (Big b)] [] (.d (Big (a*b))) []:=by
 refine Ctr.pure (M:=M0) Ak Tryz.func110 rfl AfO ?_;simp only[sz] at ha hb;have hl:=@Yd a.natAbs b.natAbs;simp(disch:=try exact aa)only[Tryz.f110,↓Ab,Ad,↓reduceIte,Qu,Qv];refine Aa.pure (Yt _ _ lA lA) ?_;simp only[↓Ab,Ad,↓reduceIte,Qu];refine Aa.pure (Dq _ _ (Bg _) lA) ?_;rw[Bf];have e:(if decide (¬decide (a<0)=decide (b<0))=true then -((a.natAbs*b.natAbs:Nat):Int) else ((a.natAbs*b.natAbs:Nat):Int))=a*b:=by
  have ea:((a.natAbs:Nat):Int)=if a<0 then -a else a:=ju
  have eb:((b.natAbs:Nat):Int)=if b<0 then -b else b:=ju
  rw[Int.natCast_mul,ea,eb];by_cases ha':a<0<;>by_cases hb':b<0<;>simp[ha',hb',Int.neg_mul,Int.mul_neg]
 rw[e];exact oZ
def ND (a b:Int) (ha:sz a<2^36) (hb:sz b<2^36):Ctr TP G 109 [.d (Big a),.d (Big b)] [] (.d (Big (a+b))) []:=by
 have hpl:=@T5 a.natAbs b.natAbs;have ka:((a.natAbs:Nat):Int)=if a<0 then -a else a:=ju
 have kb:((b.natAbs:Nat):Int)=if b<0 then -b else b:=ju
 have hcmp:0<=cmpI (a.natAbs:Int) b.natAbs↔b.natAbs<=a.natAbs:=by
  unfold cmpI;split;·omega
  split<;>omega
 refine Ctr.pure (M:=M0) Ak Tryz.func109 rfl AfP ?_;simp only[sz] at ha hb;have hdl:=AK (max (toW a.natAbs).length (toW b.natAbs).length+1) (a.natAbs+b.natAbs);have hdv:val (Be (max (toW a.natAbs).length (toW b.natAbs).length+1) (a.natAbs+b.natAbs))=a.natAbs+b.natAbs:=D4 (Aeq (CZ _) (Agq lz hpl));have hsub1:=Bt (AhB a.natAbs b.natAbs);have hsub2:=Bt (AhB b.natAbs a.natAbs);by_cases hs:decide (a<0)=decide (b<0)
 ·simp(disch:=try exact aa)only[Tryz.f109,hs,↓Ab,Ad,↓reduceIte,Qu,Qv];refine Aa.pure (Yw _ _ lA lA) ?_;simp only[↓Ab,Ad,↓reduceIte,Qu];refine Aa.pure (Dq _ _ (DL _ _) lA) ?_;rw[hdv];have e:(if decide (b<0)=true then -((a.natAbs+b.natAbs:Nat):Int) else ((a.natAbs+b.natAbs:Nat):Int))=a+b:=by
   have hs':=decide_eq_decide.1 hs;rw[Int.natCast_add,ka,kb];by_cases hb':b<0<;>simp[hs',hb']<;>omega
  rw[e];exact oZ
 simp(disch:=try exact aa)only[Tryz.f109,hs,↓Ab,Ad,↓reduceIte,Qu,Qv];refine Aa.pure (Lf _ _ lA lA) ?_;have hsg:¬(a<0)\/¬(b<0):=by
  by_cases h1:a<0;·right;intro h2;exact hs jO
  left;exact h1
 have hsg2:a<0\/b<0:=by
  by_cases h1:a<0;·left;exact h1
  right;by_cases h2:b<0;·exact h2
  exact absurd jO hs
 by_cases h:b.natAbs<=a.natAbs
 ·have h':=hcmp.2 h;simp(disch:=try exact aa)only[h',↓Ab,Ad,↓reduceIte,Qu];refine Aa.pure (Gt _ _ h lA) ?_;simp only[↓Ab,Ad,↓reduceIte,Qu];refine Aa.pure (Dq _ _ (Bg _) lA) ?_;rw[Bf];have e:(if decide (a<0)=true then -((a.natAbs-b.natAbs:Nat):Int) else ((a.natAbs-b.natAbs:Nat):Int))=a+b:=by
   by_cases h1:a<0;·simp only[h1,decide_true,if_true];omega
   simp only[h1,decide_false,Ahb,if_false];omega
  rw[e];exact oZ
 have h':¬0<=cmpI (a.natAbs:Int) b.natAbs:=fun h2=>h (hcmp.1 h2);simp(disch:=try exact aa)only[h',↓Ab,Ad,↓reduceIte,Qu];refine Aa.pure (Gt _ _ lA lA) ?_;simp only[↓Ab,Ad,↓reduceIte,Qu];refine Aa.pure (Dq _ _ (Bg _) lA) ?_;rw[Bf];have e:(if decide (b<0)=true then -((b.natAbs-a.natAbs:Nat):Int) else ((b.natAbs-a.natAbs:Nat):Int))=a+b:=by
  by_cases h1:b<0;·simp only[h1,decide_true,if_true];omega
  simp only[h1,decide_false,Ahb,if_false];omega
 rw[e];exact oZ
def Fe (n d:Int) (hd:d≠0) (hn:sz n<2^36) (hds:sz d<2^36):Ctr TP G 112 [.d (Big n),.d (Big d)] [] (.d (Frac (Rat.divInt n d))) []:=by
 simp only[sz] at hn hds;have hg0:Aev n.natAbs d.natAbs≠0:=aK
 have hgl:(toW (Aev n.natAbs d.natAbs)).length<=(toW d.natAbs).length:=Bt (Nat.gcd_le_right _ lA);have hx:=@M5 n.natAbs (Aev n.natAbs d.natAbs);have hy:=@M5 d.natAbs (Aev n.natAbs d.natAbs);have e1:(Rat.divInt n d).num=if ¬decide (n<0)=decide (d<0) then -((n.natAbs / Aev n.natAbs d.natAbs:Nat):Int) else ((n.natAbs / Aev n.natAbs d.natAbs:Nat):Int):=by
  rw[Rat.num_divInt,TC hd,Int.gcd,AgX d.natAbs];split;·exact XB (Ahj _ _)
  rfl
 have e2:(Rat.divInt n d).den=d.natAbs / Aev n.natAbs d.natAbs:=bG
 refine Ctr.pure (M:=M0) Ak Tryz.func112 rfl AfM ?_;by_cases h0:n=0
 ·subst h0;have hF:Frac (Rat.divInt 0 d)=Frac 0:=by rw[Rat.zero_divInt]
  have e:toW (0:Int).natAbs=[]:=A5;rw[hF];simp only[Big,S8,e];simp(disch:=try exact aa)only[Tryz.f112,↓Ab,Ad,↓reduceIte,Qu,Qv];refine Aa.pure (B5 1 lz lz) ?_;have e1:(0:Rat).num=0:=rfl;have e2:(0:Rat).den=1:=rfl;have e3:(0:Int).natAbs=0:=rfl;have e4:(1:Int).natAbs=1:=rfl;simp(disch:=try exact aa)only[e4,IM,↓Ab,Ad,↓reduceIte,↓Qe,Qu];simp only[Frac,W,e1,e2,e3,A5,IM];rfl
 have hnz:n.natAbs≠0:=lA
 have e0:=HY.2 hnz;simp(disch:=try exact aa)only[Tryz.f112,↓Ab,Ad,↓reduceIte,Qu,Qv];refine Aa.pure (Aa4 _ _ hnz lA lA lA) ?_;generalize Aev n.natAbs d.natAbs=g at *;simp(disch:=try exact aa)only[↓Ab,Ad,↓reduceIte,Qu];refine Aa.pure (UM _ g hg0 lA lA) ?_;simp(disch:=try exact aa)only[↓Ab,Ad,↓reduceIte,Qu];refine Aa.pure (UM _ g hg0 lA lA) ?_;simp(disch:=try exact aa)only[↓Ab,Ad,↓reduceIte,Qu];refine Aa.pure (Dq _ _ (Bg _) lA) ?_;simp only[↓Ab,Ad,↓reduceIte,Qu];refine Aa.pure (Dq false _ (Bg _) lA) ?_;simp only[Frac];rw[e1,e2,Bf,Bf];exact pg
def Xw {l:List UInt8} (h:∀ b∈l,isD b) {i:Nat} (hi:i<l.length):48<=(l.getD i 0).toNat/\(l.getD i 0).toNat<=57:=h _ (mem_getDU hi)
def rdecimal_spec (s:List UInt8) (hs:s.length<=9223372036854775807):Ctr TP G 78 [.d (S s)] [] (.d (.tup [if decOk s=true then Frac (decVal s) else Zf,.bool (decOk s)])) []:=by
 refine Ctr.pure (M:=M0) Ak Tryz.func78 rfl go78 ?_;simp only[Tryz.f78,↓Ab,Ad,↓reduceIte,Qv];refine Aa.pure (rparts_spec s hs) ?_;have hok:decOk s=okB (decBody s):=rfl;have f1:cutL 46 (decBody s)=decF s:=rfl;have f2:cutR 46 (decBody s)=decB s:=rfl;have hdv:decVal s=Rat.divInt (if FI s then -(As (decF s++decB s):Int) else (As (decF s++decB s):Int)) ((10^(decB s).length:Nat):Int):=rfl;unfold Bq;rw[f1,f2,<-hok];cases ho:decOk s
 ·exact oL
 obtain ⟨hall,hlen,hlb⟩:=EO ho;have hsm:∀ i,i<=(decF s++decB s).length->(toW (As ((decF s++decB s).take i))).length<=30:=fun i hi=>by have h:=C1 (l:=(decF s++decB s).take i) fun b hb=>hall b (AgH hb);exact Bz (Aeq h (Agq lz (by rw[Af0];omega)))
 have hlt:∀ i,i<=(decF s++decB s).length->As ((decF s++decB s).take i)*10<10^30:=fun i hi=>by have h:=C1 (l:=(decF s++decB s).take i) fun b hb=>hall b (AgH hb);have h2:10^((decF s++decB s).take i).length<=10^29:=Agq lz (by rw[Af0];omega);have h3:(10:Nat)^30=10^29*10:=rfl;omega
 have hpl:∀ b∈decB s,isD b:=fun b hb=>isD_iff.1 (hall b (List.mem_append_right _ hb));have hfl:(decF s).length<=24:=by rw[Aeu] at hlen;omega
 have hall':∀ b∈decF s++decB s,isD b:=fun b hb=>isD_iff.1 (hall b hb);generalize FI s=neg at *;generalize hL:decF s++decB s=L at *;generalize decB s=Bk at *;simp(disch:=try exact aa)only[↓Ab,Ad,↓reduceIte,Qu];first
 | refine Aa.of (B5 1 lz lz) lD ?_
 | refine ⟨lD,Aa.of (B5 1 lz lz) lD ?_⟩
 simp(disch:=try exact aa)only[Af,hL,S8,cells_nums,↓Ab,Ad,↓reduceIte,Qu];refine Al.fr 402654036 (α:=Nat) (fun i=>L.length-i) (fun i=>[(29,.d (.int .i64 i))])
  (fun i=>[.box [.d (.bool false),.d (.sl 0 true []),.d (.bool false),.d (.sl 0 true [])],.box [.d (.bool false),.d (W (toW (As (L.take i))))],.box [.d (.bool false),.d (W (toW 1))],.row false (Ar .u8 (AB L))]) (fun i=>i<=L.length) 0 (Af7 _) ?_ ?_
 ·exact ⟨[some 0,some 1,some 2,some 3],rfl,lC,gV,by simp[HW,BW,SW,AW,As,A5,AR]⟩
 intro i hi;have lt:=hsm i hi;have nl:=@Bh L;simp only[Bm,Aeg,Aen];rcases Aes i L.length with h1 | h1
 ·obtain ⟨hb1,hb2⟩:=Xw hall' h1;have hp:=EP h1;have ls:=Bz (n:=(L.getD i 0).toNat-48) (k:=2) lA;have e48:((L.getD i 0).toNat:Int)-48=(((L.getD i 0).toNat-48:Nat):Int):=by omega
  have lm:(toW (As (L.take i)*10)).length<=40:=Bz (Aeq (hlt i hi) lz);have sz1:sz (As (L.take i):Int)<=30:=fB
  have sz2:sz ((As (L.take i):Int)*10)<=40:=by rw[show ((As (L.take i):Int)*10)=((As (L.take i)*10:Nat):Int) by omega];simp only[sz,AfZ];exact lm
  have sz3:sz ((((L.getD i 0).toNat-48:Nat):Int))<=2:=by simp only[sz,AfZ];exact ls
  have sz4:sz (10:Int)<=2:=ZY lz lz;have hsum:(As (L.take i):Int)*10+(((L.getD i 0).toNat-48:Nat):Int)=(As (L.take (i+1)):Int):=by rw[<-hp];omega
  simp(disch:=try exact aa)only[Af,nl,↓Ab,Ad,↓reduceIte,Qu];first
  | refine Aa.of (B5 10 lz lz) lD ?_
  | refine ⟨lD,Aa.of (B5 10 lz lz) lD ?_⟩
  simp(disch:=try exact aa)only[↓Ab,Ad,↓reduceIte,Qu];first
  | refine Aa.of (FP (As (L.take i):Int) 10 lA lA) fc ?_
  | refine ⟨lD,Aa.of (FP (As (L.take i):Int) 10 lA lA) fc ?_⟩
  simp(disch:=try exact aa)only[e48,↓Ab,Ad,↓reduceIte,Qu];first
  | refine Aa.of (B5 (((L.getD i 0).toNat-48:Nat):Int) lA lA) lD ?_
  | refine ⟨lD,Aa.of (B5 (((L.getD i 0).toNat-48:Nat):Int) lA lA) lD ?_⟩
  simp(disch:=try exact aa)only[↓Ab,Ad,↓reduceIte,Qu];first
  | refine Aa.of (ND ((As (L.take i):Int)*10) (((L.getD i 0).toNat-48:Nat):Int) lA lA) lD ?_
  | refine ⟨lD,Aa.of (ND ((As (L.take i):Int)*10) (((L.getD i 0).toNat-48:Nat):Int) lA lA) lD ?_⟩
  rw[hsum,DR];simp(disch:=try exact aa)only[↓Ab,Ad,↓reduceIte,Qu];exact ⟨lD,i+1,h1,iz,⟨[some 0,some 1,some 2,some 3],rfl,lC,jR,gU⟩⟩
 obtain rfl:i=L.length:=lA
 rw[Af1] at *;simp(disch:=try exact aa)only[↓Ab,Ad,↓reduceIte,Qu];refine Al.fr 8796093022996 (α:=Nat) (fun j=>Bk.length-j) (fun j=>[])
  (fun j=>[.box [.d (.bool false),.d (.sl 0 true []),.d (.bool false),.d (.sl 0 true [])],.box [.d (.bool false),.d (W (toW (As L)))],.box [.d (.bool false),.d (W (toW (10^j)))],.row false (Ar .u8 (AB L)),.iter (bs Bk) j]) (fun j=>j<=Bk.length) 0 (Af7 _) ?_ ?_
 ·exact ⟨[some 0,some 1,some 2,some 3,some 4],rfl,lC,gV,gU⟩
 intro j hj;have lj:(toW (10^j)).length<=10:=Bz (Agu lz lA);have szj:sz ((10^j:Nat):Int)<=10:=by simp only[sz,AfZ];exact lj
 have sz4:sz (10:Int)<=2:=ZY lz lz;simp only[Bm,Aeg,Aen];rcases Aes j Bk.length with h2 | h2
 ·obtain ⟨hb1,hb2⟩:=Xw hpl h2;have hdec:=dec_ascii h2 lA;have hmul:((10^j:Nat):Int)*10=((10^(j+1):Nat):Int):=by rw[Agx];omega
  simp(disch:=try exact aa)only[Af,hdec,↓Ab,Ad,↓reduceIte,Qu];first
  | refine Aa.of (B5 10 lz lz) lD ?_
  | refine ⟨lD,Aa.of (B5 10 lz lz) lD ?_⟩
  simp(disch:=try exact aa)only[↓Ab,Ad,↓reduceIte,Qu];first
  | refine Aa.of (FP ((10^j:Nat):Int) 10 lA lA) fc ?_
  | refine ⟨lD,Aa.of (FP ((10^j:Nat):Int) 10 lA lA) fc ?_⟩
  rw[hmul,DR];simp(disch:=try exact aa)only[↓Ab,Ad,↓reduceIte,Qu];exact ⟨lD,j+1,h2,iz,mb⟩
 obtain rfl:j=Bk.length:=lA
 have hd0:((10^Bk.length:Nat):Int)≠0:=by have:0<10^Bk.length:=Ahy lz;omega
 have szv:sz (As L:Int)<=30:=fB
 have szm:sz (-(As L:Int))<=30:=by simp only[sz,Int.natAbs_neg,AfZ];exact lt
 cases neg
 ·rw[if_neg Bool.false_ne_true] at hdv;simp(disch:=try exact aa)only[Af,↓Ab,Ad,↓reduceIte,Qu];first
  | refine Aa.of (Fe (As L:Int) ((10^Bk.length:Nat):Int) hd0 lA lA) fc ?_
  | refine ⟨lD,Aa.of (Fe (As L:Int) ((10^Bk.length:Nat):Int) hd0 lA lA) fc ?_⟩
  rw[<-hdv];exact oL
 rw[if_pos rfl] at hdv;simp(disch:=try exact aa)only[Af,↓Ab,Ad,↓reduceIte,Qu];first
 | refine Aa.of (LV (As L:Int) lA) fc ?_
 | refine ⟨lD,Aa.of (LV (As L:Int) lA) fc ?_⟩
 simp(disch:=try exact aa)only[↓Ab,Ad,↓reduceIte,Qu];first
 | refine Aa.of (Fe (-(As L:Int)) ((10^Bk.length:Nat):Int) hd0 lA lA) fc ?_
 | refine ⟨lD,Aa.of (Fe (-(As L:Int)) ((10^Bk.length:Nat):Int) hd0 lA lA) fc ?_⟩
 rw[<-hdv];exact oL
end Num
section
open Go Go.Proofs Go.Abs
variable {G:Ah}
end
section
open Go Go.Proofs Go.Abs
end
section
open Go Go.Proofs Go.Abs
variable {G:Ah}
end
section
open Go Go.Proofs Go.Abs
end
section
open Go Go.Proofs Go.Abs
variable {G:Ah}
def Of (x:Int):Ctr TP G 246 [.d (.int .i64 x)] [] (.d (.bool false)) []:=by refine Ctr.pure (M:=M0) Ak Tryz.func246 rfl Adl ?_;simp only[Tryz.f246,↓Ab,Ad,↓Qe,Qv];try rfl
structure Opt where
 txt:List UInt8
 fr:Nat
 ag:Nat
 wd:Nat
def cols (c:List Opt):List (D × D):=c.map fun o=>(S o.txt,.int .i64 o.wd)
def Ad3 {a b:List UInt8}:(bs a == bs b)=decide (a=b):=by
 have e:(bs a == bs b)=(a.toArray == b.toArray):=rfl;rw[e];by_cases h:a=b;·subst h;simp
 rw[decide_eq_false h];exact beq_eq_false_iff_ne.2 fun q=>h jy
def hs4:List Nat:=[1,0,2,3]
end
section
open Go Go.Proofs Go.Abs
end
section
open Go Go.Proofs Go.Abs
variable {G:Ah}
abbrev Cel:=List UInt8 × Bool
abbrev HO (c:Cel):List D:=[.bool c.2,S c.1]
def BR (l:List Cel):List D:=l.flatMap HO
abbrev Ac9 (l:List Cel) (full:Bool):D:=.sl l.length full (BR l)
structure Col where
 name:List UInt8
 cells:List Cel
abbrev AbU (c:Col):List D:=[S c.name,Ac9 c.cells false]
def Cm (l:List Col):List D:=l.flatMap AbU
abbrev Vl (l:List Col) (full:Bool):D:=.sl l.length full (Cm l)
structure Tab where
 id:Int
 name:List UInt8
 cols:List Col
abbrev Zt (t:Tab) (full:Bool):D:=.agg [.int .i64 t.id,S t.name,Vl t.cols full]
def noC:Cel:=([],false)
def AaF:Col:=⟨[],[]⟩
def B7:∀ l:List Cel,(BR l).length=2*l.length
 | []=>rfl
 | o::l=>by have ih:=B7 l;simp only[BR,AgR,Aeu,Af2,Ag4] at ih ⊢;omega
def B6:∀ l:List Col,(Cm l).length=2*l.length
 | []=>rfl
 | o::l=>by have ih:=B6 l;simp only[Cm,AgR,Aeu,Af2,Ag4] at ih ⊢;omega
def Rq:∀ {l:List Cel} {k:Nat},k<l.length->((BR l).drop (k*2)).take 2=HO (l.getD k noC)
 | [],k,h=>absurd h (AgJ _)
 | o::l,0,_=>by simp[BR]
 | o::l,k+1,h=>by have ih:=Rq (l:=l) (k:=k) ji;have e2:BR (o::l)=.bool o.2::S o.1::BR l:=rfl;exact pQ
def Rn:∀ {l:List Col} {k:Nat},k<l.length->((Cm l).drop (k*2)).take 2=AbU (l.getD k AaF)
 | [],k,h=>absurd h (AgJ _)
 | o::l,0,_=>by simp[Cm]
 | o::l,k+1,h=>by have ih:=Rn (l:=l) (k:=k) ji;have e2:Cm (o::l)=S o.name::Ac9 o.cells false::Cm l:=rfl;exact pQ
def GK (a b:List Cel):BR (a++b)=BR a++BR b:=by simp[BR]
def Ro (a b:List Col):Cm (a++b)=Cm a++Cm b:=by simp[Cm]
def Kz (s:List UInt8):Bool:=decide (s.length<=1024) && Lib.validD s
def Hq (c:Cel):Bool:=Kz c.1 && !(c.2 && !decide (c.1=[]))
def Lw (hT:HT G) (s:List UInt8) (hs:s.length<=1000000000):Ctr TP G 122 [.d (S s)] [] (.d (.bool (Kz s))) []:=by
 refine Ctr.pure (M:=M0) Ak Tryz.func122 rfl AfG ?_;unfold Kz;by_cases h:s.length<=1024;·rw[decide_eq_true h,AgG];simp(disch:=try exact aa)only[Af,Tryz.f122,↓Ab,Ad,↓reduceIte,Qv];refine Aa.pure (EJ hT s lA) ?_;simp only[↓Ab,Ad,↓reduceIte,↓Qe];first | done | rfl
 rw[decide_eq_false h,AgB];simp(disch:=try exact aa)only[Af,Tryz.f122,↓Ab,Ad,↓reduceIte,↓Qe,Qv];first | done | rfl
def Ng (hT:HT G) (c:Cel) (hs:c.1.length<=1000000000):Ctr TP G 127 [.d (.agg (HO c))] [] (.d (.bool (Hq c))) []:=by
 obtain ⟨s,b⟩:=c;refine Ctr.pure (M:=M0) Ak Tryz.func127 rfl AfB ?_;unfold Hq;simp only at hs ⊢;simp(disch:=try exact aa)only[Tryz.f127,↓Ab,Ad,↓reduceIte,Qu,Qv];refine Aa.pure (Lw hT s hs) ?_;cases hv:Kz s;·rw[AgB];simp only[↓Ab,Ad,↓reduceIte,↓Qe];first | done | rfl | exact ⟨lD,lD⟩
 rw[AgG];cases b;·rw[AgB,Bool.not_false];simp(disch:=try exact aa)only[↓Ab,Ad,↓reduceIte,↓Qe,Qu];first | done | rfl | exact ⟨lD,lD⟩
 rw[AgG];by_cases h:s=[];·subst h;simp(disch:=try exact aa)only[Af,↓Ab,Ad,↓reduceIte,↓Qe,Qu];first | done | rfl | exact ⟨lD,lD⟩
 simp(disch:=try exact aa)only[Af,h,↓Ab,Ad,↓reduceIte,↓Qe,Qu];first | done | rfl | simp[h] | exact ⟨lD,by simp[h]⟩
def EM (t:Tab):Nat:=match t.cols with | []=>0 | c::_=>c.cells.length
def PC (t:Tab) (full:Bool) (hc:t.cols.length<=1000000000) (h2:∀ c∈t.cols,c.cells.length<=1000000000):Ctr TP G 123 [.d (Zt t full)] [] (.d (.int .i64 (EM t))) []:=by
 obtain ⟨id,name,cols⟩:=t;simp only at hc h2;refine Ctr.pure (M:=M0) Ak Tryz.func123 rfl AfF ?_;rcases cols with _ | ⟨c,r⟩
 ·simp(disch:=try exact aa)only[Tryz.f123,Ag4,↓Ab,Ad,↓reduceIte,↓Qe,Qu,Qv];first | done | rfl | exact ⟨lD,lD⟩
 have cl:=B6 (c::r);have e1:(Cm (c::r)).getD 1 .nilp=Ac9 c.cells false:=rfl;have hcl:=B7 c.cells;have h3:=h2 c lC;have ll:(c::r).length=r.length+1:=rfl;simp(disch:=try exact aa)only[Tryz.f123,e1,cl,ll,↓Ab,Ad,↓reduceIte,↓Qe,Qu,Qv];first | done | rfl | exact ⟨lD,lD⟩
def Aay (id:Int) (name:List UInt8):Bool:=decide (0<=id/\id<=1073741824) && Kz name
inductive Nd where
 | mk (kind:Int) (text:List UInt8) (keys:List (List UInt8)) (kids:List Nd)
def Nd.kind:Nd->Int | .mk k _ _ _=>k
def Nd.text:Nd->List UInt8 | .mk _ t _ _=>t
def Nd.keys:Nd->List (List UInt8) | .mk _ _ ks _=>ks
def Nd.kids:Nd->List Nd | .mk _ _ _ l=>l
mutual
def ndC:Nd->List D
 | .mk k t ks kids=>[.int .i64 k,S t,Ss ks false,.sl kids.length false (AH kids)]
def AH:List Nd->List D
 | []=>[]
 | n::r=>ndC n++AH r
end
abbrev NdD (n:Nd):D:=.agg (ndC n)
abbrev NdS (l:List Nd) (full:Bool):D:=.sl l.length full (AH l)
def noN:Nd:=.mk 0 [] [] []
def N4 (n:Nd):ndC n=[.int .i64 n.kind,S n.text,Ss n.keys false,NdS n.kids false]:=jU
def Ev (n:Nd):(ndC n).length=4:=jU
def Fp (n:Nd) (r:List Nd):AH (n::r)=ndC n++AH r:=rfl
def Ax:∀ l:List Nd,(AH l).length=4*l.length
 | []=>rfl
 | o::l=>by have ih:=Ax l;rw[Fp,Aeu,Ev,ih,Af2];omega
def GB:∀ a b:List Nd,AH (a++b)=AH a++AH b
 | [],b=>rfl
 | o::l,b=>by rw[AgV,Fp,GB,Fp,Ahg]
def Ca:∀ {l:List Nd} {k:Nat},k<l.length->((AH l).drop (k*4)).take 4=ndC (l.getD k noN)
 | [],k,h=>absurd h (AgJ _)
 | o::l,0,_=>by have:=Ev o;simp[Fp,this];try rw[<-this,Af1]
 | o::l,k+1,h=>by have ih:=Ca (l:=l) (k:=k) ji;have e:=Ev o;rw[Fp,Ahm,e,Agz lA,Ahs,show (k+1)*4-4=k*4 by omega,ih];simp
def St (n:Nd):(ndC n).map unf0=ndC n:=jU
def Mt (f:FuncId) (p:Nd->Bool) (l:List Nd) (full:Bool) (hl:l.length<=1000000000) (hp:∀ s∈l,Ctr TP G f [.d (NdD s)] [] (.d (.bool (p s))) []) :
  Ctr TP G 54 [.d (NdS l full),.d (.fn (.func f) [] [])] [] (.d (.int .i64 (ixF p l 0))) []:=by
 refine Ctr.pure (M:=M0) Ak Tryz.func54 rfl go54 ?_;have sl:=Ax l;simp only[Tryz.f54,↓Ab,Ad,Qu,Qv,QE];refine Al.fr 131 (α:=Nat) (fun i=>l.length-i) (fun i=>[(8,.d (.int .i64 i))]) (fun _=>[]) (fun i=>i<=l.length/\ixF p l 0=ixF p (l.drop i) i) 0 ⟨Af7 _,rfl⟩ ?_ ?_;·exact nD
 rintro i ⟨h1,h2⟩;simp only[Bm,Aeg,Aen];rw[h2];rcases Aes i l.length with h | h
 ·have g:=Ca h;rw[Oc (d:=noN) h];simp(disch:=try exact aa)only[sl,g,St,↓Ab,Ad,↓reduceIte,QE];refine Aa.pure (hp _ (Ds h)) ?_;cases hx:p (l.getD i noN);·simp(disch:=try exact aa)only[↓Ab,Ad,↓reduceIte,QE];exact mJ
  simp only[↓Ab,Ad,↓reduceIte,↓Qe,QE]
 rw[AgC h];exact pA
def FJ (f:FuncId) (p:Nd->Bool) (l:List Nd) (full:Bool) (hl:l.length<=1000000000) (hp:∀ s∈l,Ctr TP G f [.d (NdD s)] [] (.d (.bool (p s))) []) :
  Ctr TP G 28 [.d (NdS l full),.d (.fn (.func f) [] [])] [] (.d (.bool (l.any p))) []:=by
 refine Ctr.pure (M:=M0) Ak Tryz.func28 rfl go28 ?_;simp only[Tryz.f28,↓Ab,Ad,↓reduceIte,Qu,Qv];refine Aa.of (Mt f p l false hl hp) lD ?_;have hi:=I3 (p:=p) l 0 (AhA _);generalize ixF p l 0=z at *;rcases (by omega:0<=z\/z<0) with h | h
 ·exact pp
 have:l.any p=false:=by cases hx:l.any p with
  | false=>rfl
  | true=>have:=hi.2 hx;omega
 rw[this];exact pK
def Ij (n:Nd):Bool:=decide (¬n.kind=6)
def Oe (n:Nd):Ctr TP G 29 [.d (NdD n)] [] (.d (.bool (Ij n))) []:=by refine Ctr.pure (M:=M0) Ak Tryz.func29 rfl go29 ?_;obtain ⟨k,t,ks,l⟩:=n;unfold Ij Nd.kind;simp(disch:=try exact aa)only[ndC,Tryz.f29,↓Ab,Ad,↓reduceIte,↓Qe,Qu,Qv];first | done | rfl
def Cf (n:Nd):Cel:=if n.kind=2\/n.kind=3\/n.kind=4 then (n.text,false) else ([],true)
def SQ {k:Int} {t:List UInt8} {ks:List (List UInt8)} {l:List Nd} (h:k=2\/k=3\/k=4):Cf (.mk k t ks l)=(t,false):=if_pos h
def Ac0 {k:Int} {t:List UInt8} {ks:List (List UInt8)} {l:List Nd} (h:¬(k=2\/k=3\/k=4)):Cf (.mk k t ks l)=([],true):=if_neg h
def OB (n:Nd):Ctr TP G 98 [.d (NdD n)] [] (.d (.agg (HO (Cf n)))) []:=by
 obtain ⟨r,hr⟩:∃ r,r=Cf n:=⟨_,rfl⟩;rw[<-hr];refine Ctr.pure (M:=M0) Ak Tryz.func98 rfl go98 ?_;obtain ⟨k,t,ks,l⟩:=n;rcases (by omega:k=2\/(¬k=2/\k=3)\/(¬k=2/\¬k=3/\k=4)\/(¬k=2/\¬k=3/\¬k=4)) with h | h | h | h
 ·subst h;exact nX
 ·obtain ⟨h1,rfl⟩:=h;exact nX
 ·obtain ⟨h1,h2,rfl⟩:=h;exact nX
 obtain ⟨h1,h2,h3⟩:=h;rw[Ac0 lA] at hr;subst hr;simp(disch:=try exact aa)only[ndC,h1,h2,h3,Tryz.f98,↓Ab,Ad,↓reduceIte,↓Qe,Qu,Qv];first | done | rfl | simp
abbrev Elm:=Int × Nd
def Ex (e:Elm):List D:=.int .i64 e.1::ndC e.2
def BI (l:List Elm):List D:=l.flatMap Ex
abbrev ElS (l:List Elm) (full:Bool):D:=.sl l.length full (BI l)
def noE:Elm:=(0,noN)
def Is (n:Elm):(Ex n).length=5:=by simp[Ex,Ev]
def JC (n:Elm) (r:List Elm):BI (n::r)=Ex n++BI r:=rfl
def BM:∀ l:List Elm,(BI l).length=5*l.length
 | []=>rfl
 | o::l=>by have ih:=BM l;rw[JC,Aeu,Is,ih,Af2];omega
def Y7 (a b:List Elm):BI (a++b)=BI a++BI b:=by simp[BI]
def Lx:∀ {l:List Elm} {k:Nat},k<l.length->((BI l).drop (k*5)).take 5=Ex (l.getD k noE)
 | [],k,h=>absurd h (AgJ _)
 | o::l,0,_=>by have:=Is o;simp[JC,this];try rw[<-this,Af1]
 | o::l,k+1,h=>by have ih:=Lx (l:=l) (k:=k) ji;have e:=Is o;rw[JC,Ahm,e,Agz lA,Ahs,show (k+1)*5-5=k*5 by omega,ih];simp
def Abl (n:Elm):(Ex n).map unf0=Ex n:=by rw[Ex,Agw,St];rfl
def Mu (f:FuncId) (p:Elm->Bool) (l:List Elm) (full:Bool) (hl:l.length<=1000000000) (hp:∀ s∈l,Ctr TP G f [.d (.agg (Ex s))] [] (.d (.bool (p s))) []) :
  Ctr TP G 96 [.d (ElS l full),.d (.fn (.func f) [] [])] [] (.d (.int .i64 (ixF p l 0))) []:=by
 refine Ctr.pure (M:=M0) Ak Tryz.func96 rfl go96 ?_;have sl:=BM l;simp only[Tryz.f96,↓Ab,Ad,Qu,Qv,QE];refine Al.fr 131 (α:=Nat) (fun i=>l.length-i) (fun i=>[(8,.d (.int .i64 i))]) (fun _=>[]) (fun i=>i<=l.length/\ixF p l 0=ixF p (l.drop i) i) 0 ⟨Af7 _,rfl⟩ ?_ ?_;·exact nD
 rintro i ⟨h1,h2⟩;simp only[Bm,Aeg,Aen];rw[h2];rcases Aes i l.length with h | h
 ·have g:=Lx h;rw[Oc (d:=noE) h];simp(disch:=try exact aa)only[sl,g,Abl,↓Ab,Ad,↓reduceIte,QE];refine Aa.pure (hp _ (Ds h)) ?_;cases hx:p (l.getD i noE);·simp(disch:=try exact aa)only[↓Ab,Ad,↓reduceIte,QE];exact mJ
  simp only[↓Ab,Ad,↓reduceIte,↓Qe,QE]
 rw[AgC h];exact pA
def JI (f:FuncId) (p:Elm->Bool) (l:List Elm) (full:Bool) (hl:l.length<=1000000000) (hp:∀ s∈l,Ctr TP G f [.d (.agg (Ex s))] [] (.d (.bool (p s))) []) :
  Ctr TP G 57 [.d (ElS l full),.d (.fn (.func f) [] [])] [] (.d (.bool (l.any p))) []:=by
 refine Ctr.pure (M:=M0) Ak Tryz.func57 rfl go57 ?_;simp only[Tryz.f57,↓Ab,Ad,↓reduceIte,Qu,Qv];refine Aa.of (Mu f p l false hl hp) lD ?_;have hi:=I3 (p:=p) l 0 (AhA _);generalize ixF p l 0=z at *;rcases (by omega:0<=z\/z<0) with h | h
 ·exact pp
 have:l.any p=false:=by cases hx:l.any p with
  | false=>rfl
  | true=>have:=hi.2 hx;omega
 rw[this];exact pK
def C3 (e:Elm):Bool:=Ij e.2
def Uu (e:Elm):Ctr TP G 58 [.d (.agg (Ex e))] [] (.d (.bool (C3 e))) []:=by refine Ctr.pure (M:=M0) Ak Tryz.func58 rfl go58 ?_;obtain ⟨a,k,t,ks,l⟩:=e;unfold C3 Ij Nd.kind;simp(disch:=try exact aa)only[Ex,ndC,Tryz.f58,↓Ab,Ad,↓reduceIte,↓Qe,Qu,Qv];first | done | rfl
end
section
open Go Go.Proofs Go.Abs
variable {G:Ah}
def SM (n:Nat):Bool:=decide (n<32/\n≠9/\n≠10/\n≠13)
def Iw (b:UInt8):Bool:=SM b.toNat
def AN (s:List UInt8):Bool:=decide (s.length<=1024) && (Lib.validD s && !s.any Iw)
def E4 (l:List UInt8) (p:Nat):Int:=if h:p<l.length then if Iw (l.getD p 0)=true then p else E4 l (p+1) else -1
termination_by l.length-p
def Rj {l:List UInt8} {p:Nat} (h:p<l.length) (c:Iw (l.getD p 0)=true):E4 l p=p:=by rw[E4,dif_pos h,if_pos c]
def JG {l:List UInt8} {p:Nat} (h:p<l.length) (c:Iw (l.getD p 0)=false):E4 l p=E4 l (p+1):=by rw[E4,dif_pos h,if_neg (by rw[c];simp)]
def Rk {l:List UInt8} {p:Nat} (h:¬p<l.length):E4 l p=-1:=by rw[E4,dif_neg h]
def Abt {b:UInt8} (h:128<=b.toNat):Iw b=false:=by unfold Iw SM;exact decide_eq_false lA
def OA {l:List UInt8} {p:Nat}:∀ w,p+w<=l.length->(∀ i,i<w->128<=(l.getD (p+i) 0).toNat)->E4 l p=E4 l (p+w)
 | 0,_,_=>rfl
 | w+1,h,h2=>by rw[OA w lA (fun i hi=>h2 i lA),JG lA (Abt (h2 w lA))];rfl
def Rm:∀ (n:Nat) (l:List UInt8) (p:Nat),l.length-p=n->decide (0<=E4 l p)=(l.drop p).any Iw
 | 0,l,p,hn=>by rw[Rk lA,AgC lA];rfl
 | n+1,l,p,hn=>by
   have hp:p<l.length:=lA;have ed:l.drop p=l.getD p 0::l.drop (p+1):=(by rw[List.drop_eq_getElem_cons hp,AbZ,AbY hp];rfl);rw[ed,List.any_cons];cases h:Iw (l.getD p 0) with
   | true =>rw[Rj hp h,Bool.true_or];exact decide_eq_true lA
   | false=>rw[JG hp h,Rm n l (p+1) lA,Bool.false_or]
def Om (c:Nat) (hc:c<=2147483647):Ctr TP G 142 [.d (.int .i32 c)] [] (.d (.bool (SM c))) []:=by
 obtain ⟨r,hr⟩:∃ r,r=SM c:=⟨_,rfl⟩;rw[<-hr];unfold SM at hr;refine Ctr.pure (M:=M0) Ak Tryz.func142 rfl Afo ?_;rcases (by omega:32<=c\/c=9\/c=10\/c=13\/(c<32/\c≠9/\c≠10/\c≠13)) with h | h | h | h | ⟨h1,h2,h3,h4⟩
 ·rw[decide_eq_false lA] at hr;exact oN
 ·exact oa
 ·exact oa
 ·exact oa
 rw[decide_eq_true ⟨h1,h2,h3,h4⟩] at hr;exact oN
def Ms (l:List UInt8) (hl:l.length<=1000000000):Ctr TP G 207 [.d (S l),.d (.fn (.func 142) [] []),.d (.bool true)] [] (.d (.int .i64 (E4 l 0))) []:=by
 refine Ctr.pure (M:=M0) Ak Tryz.func207 rfl AeI ?_;simp only[Tryz.f207,↓Ab,Ad,↓reduceIte,Qu,Qv,QE];refine Al.fr 1030 (α:=Nat) (fun p=>l.length-p) (fun _=>[]) (fun p=>[.iter (bs l) p]) (fun p=>p<=l.length/\E4 l 0=E4 l p) 0 ⟨Af7 _,rfl⟩ ?_ ?_;·exact nj
 rintro p ⟨h1,h2⟩;simp only[Bm,Aeg,Aen];rw[h2];rcases Aes p l.length with h3 | h3
 ·rcases decw l p h3 with ⟨d1,d2⟩ | ⟨d1,d2,d3,d4⟩
  ·have sp:=Om (G:=G) (l.getD p 0).toNat lA;simp(disch:=try exact aa)only[Af,d2,↓Ab,Ad,↓reduceIte,Qu,QE];refine Aa.of sp lD ?_;cases hc:Iw (l.getD p 0);·rw[show SM (l.getD p 0).toNat=false from hc];simp only[↓Ab,Ad,QE];exact ⟨p+1,⟨h3,JG h3 hc⟩,iz,no⟩
   rw[show SM (l.getD p 0).toNat=true from hc,Rj h3 hc];simp only[↓Ab,Ad,↓Qe,QE]
  have hb:=Wy l p;have sp:=Om (G:=G) (dec l p).1 hb.2;simp(disch:=try exact aa)only[Af,↓Ab,Ad,↓reduceIte,Qu,QE];refine Aa.of sp lD ?_;rw[show SM (dec l p).1=false from decide_eq_false lA];simp only[↓Ab,Ad,QE];exact ⟨p+(dec l p).2,⟨d3,OA _ d3 d4⟩,iz,no⟩
 rw[Rk lA];simp(disch:=try exact aa)only[Af,↓Ab,Ad,↓Qe,QE]
def JH (l:List UInt8) (hl:l.length<=1000000000):Ctr TP G 141 [.d (S l),.d (.fn (.func 142) [] [])] [] (.d (.bool (l.any Iw))) []:=by
 have i1:Ctr TP G 176 [.d (S l),.d (.fn (.func 142) [] [])] [] (.d (.int .i64 (E4 l 0))) []:=by refine Ctr.pure (M:=M0) Ak Tryz.func176 rfl AeZ ?_;simp only[Tryz.f176,↓Ab,Ad,↓reduceIte,Qu,Qv];refine Aa.pure (Ms l hl) ?_;simp only[↓Ab,Ad,↓Qe]
 have ha:=Rm _ l 0 rfl;rw[List.drop_zero] at ha;refine Ctr.pure (M:=M0) Ak Tryz.func141 rfl Afp ?_;simp only[Tryz.f141,↓Ab,Ad,↓reduceIte,Qu,Qv];refine Aa.pure i1 ?_;generalize E4 l 0=z at *;rcases (by omega:0<=z\/z<0) with h | h
 ·rw[decide_eq_true h] at ha;exact px
 rw[decide_eq_false lA] at ha;exact px
def N1 (hT:HT G) (s:List UInt8) (hs:s.length<=1000000000):Ctr TP G 103 [.d (S s)] [] (.d (.bool (AN s))) []:=by
 obtain ⟨r,hr⟩:∃ r,r=AN s:=⟨_,rfl⟩;rw[<-hr];unfold AN at hr;refine Ctr.pure (M:=M0) Ak Tryz.func103 rfl AfV ?_;by_cases h:s.length<=1024
 ·rw[decide_eq_true h,AgG] at hr;simp(disch:=try exact aa)only[Af,Tryz.f103,↓Ab,Ad,↓reduceIte,Qv];refine Aa.pure (EJ hT s lA) ?_;cases hv:Lib.validD s;·rw[hv,AgB] at hr;subst hr;simp only[↓Ab,Ad,↓reduceIte,↓Qe]
  rw[hv,AgG] at hr;simp only[↓Ab,Ad,↓reduceIte];refine Aa.of (JH s hs) lD ?_;subst hr;simp only[↓Ab,Ad,↓reduceIte,↓Qe]
 rw[decide_eq_false h,AgB] at hr;subst hr;simp(disch:=try exact aa)only[Af,Tryz.f103,↓Ab,Ad,↓reduceIte,↓Qe,Qv]
def Wc (hT:HT G) (s:List UInt8) (hs:s.length<=1000000000):Ctr TP G 106 [.d (S s)] [] (.d (.bool (!AN s))) []:=by refine Ctr.pure (M:=M0) Ak Tryz.func106 rfl AfS ?_;simp only[Tryz.f106,↓Ab,Ad,↓reduceIte,Qv];refine Aa.pure (N1 hT s hs) ?_;exact qD
def XH (a b:List UInt8):CC (S a) (S b)=decide (a=b):=Ad3
def Gm {β:Type} (m:List (D × β)) (k:D):Option β:=(BX k m).map (·.2)
def IF {β:Type} (m:List (D × β)):Prop:=∀ e∈m,∃ s,e.1=S s
def Ya {β:Type} (k:D) (d:β):List (D × β)->List (D × β)
 | []=>[(k,d)]
 | x::r=>if CC k x.1=true then (k,d)::r else x::Ya k d r
def Vq {β:Type} (k:D) (d:β):∀ m:List (D × β),B9 m k d=Ya k d m
 | []=>rfl
 | x::r=>by
   have ih:=Vq k d r;unfold B9 at ih ⊢;rw[BX,Ya];by_cases h:CC k x.1=true;·rw[if_pos h,if_pos h];rfl
   rw[if_neg h,if_neg h];cases hf:BX k r with
   | none=>rw[hf] at ih;simp only[Option.map_none];rw[<-ih];rfl
   | some y=>rw[hf] at ih;simp only[Option.map_some];rw[<-ih];rfl
def IF.nil {β:Type}:IF ([]:List (D × β)):=fun _ h=>lx
def IF.upd {β:Type} {m:List (D × β)} (h:IF m) (t:List UInt8) (d:β):IF (B9 m (S t) d):=by
 rw[Vq];induction m with
 | nil=>intro e he;exact ⟨t,by simp[Ya] at he;rw[he]⟩
 | cons x r ih =>
  have i2:=ih fun e he=>h e (AgI _ he);intro e he;rw[Ya] at he;split at he
  ·rcases Aer.1 he with rfl | he
   ·exact ⟨t,rfl⟩
   exact h e (AgI _ he)
  rcases Aer.1 he with rfl | he
  ·exact h _ lC
  exact i2 e he
def IF.ok {β:Type} {m:List (D × β)} (h:IF m):D8 TP 9 m=true:=by unfold D8;refine List.all_eq_true.2 fun e he=>?_;obtain ⟨s,hs⟩:=h e he;rw[hs];unfold isKeyD;rw[ti9];rfl
def JT {β:Type} (k:D):Gm ([]:List (D × β)) k=none:=rfl
def Gl {β:Type} (y:D × β) (l:List (D × β)) (s c:List UInt8) (hy:y.1=S c):Gm (y::l) (S s)=if s=c then some y.2 else Gm l (S s):=by
 unfold Gm;rw[BX,hy,XH];by_cases e:s=c;·rw[if_pos e,if_pos jw];rfl
 rw[if_neg e,if_neg jw];cases BX (S s) l<;>rfl
def JS {β:Type} {m:List (D × β)} (h:IF m) (d:β) (s t:List UInt8):Gm (B9 m (S t) d) (S s)=if s=t then some d else Gm m (S s):=by
 rw[Vq];induction m with
 | nil=>exact Gl _ _ _ _ rfl
 | cons x r ih =>
  have i2:=ih fun e he=>h e (AgI _ he);obtain ⟨c,hc⟩:=h x lC;rw[Ya,hc,XH];by_cases e:t=c
  ·rw[if_pos jw,Gl _ _ _ t rfl,Gl _ _ _ c hc,<-e];by_cases e2:s=t;·rw[if_pos e2,if_pos e2]
   rw[if_neg e2,if_neg e2,if_neg e2]
  rw[if_neg jw,Gl _ _ _ c hc,Gl _ _ _ c hc,i2];by_cases e2:s=c;·rw[if_pos e2,if_neg (by rw[e2];exact fun q=>e q.symm),if_pos e2]
  rw[if_neg e2,if_neg e2]
def Lr (z:D) (m:List (D × D)) (k:D):DI z m k false=(Gm m k).getD z:=by unfold DI Gm;cases BX k m<;>rfl
def Dg (z:D) (m:List (D × D)) (k:D):DI z m k true=match Gm m k with
  | some d=>.tup [d,.bool true]
  | none=>.tup [z,.bool false]:=by
 unfold DI Gm;cases BX k m<;>rfl
def Ew (z:D) (m:List (D × AV)) (k:D):G7 z m k false=match Gm m k with
  | some v=>v
  | none=>.d z:=by
 unfold G7 Gm;cases BX k m<;>rfl
inductive Pt where
 | c (p:List UInt8) (x:Cel)
 | l (p:List UInt8) (kids:List Nd)
mutual
def DT:Nd->List UInt8->List Pt
 | .mk _ _ ks kids,front=>G4 kids front ks
def G4:List Nd->List UInt8->List (List UInt8)->List Pt
 | [],_,_=>[]
 | n::r,front,ks=>(if n.kind=6 then DT n (front++ks.headD []++[46]) else if n.kind=5 then [.l (front++ks.headD []) n.kids] else [.c (front++ks.headD []) (Cf n)])++G4 r front ks.tail
end
def FU (n:Nd) (r:List Nd) (front:List UInt8) (ks:List (List UInt8)):G4 (n::r) front ks =
  (if n.kind=6 then DT n (front++ks.headD []++[46]) else if n.kind=5 then [.l (front++ks.headD []) n.kids] else [.c (front++ks.headD []) (Cf n)])++G4 r front ks.tail:=rfl
structure Ly where
 further:Bool
 above:List Int
 paths:List (List UInt8)
 rows:List (List UInt8->Option Cel)
 lists:List (List UInt8)
 sv:List UInt8->Nat
 it:List UInt8->List Elm
def ME (r:List UInt8->Option Cel) (p:List UInt8) (x:Cel):List UInt8->Option Cel:=fun q=>if q=p then some ((r p).getD x) else r q
def Do {β:Type} (f:List UInt8->β) (p:List UInt8) (v:β):List UInt8->β:=fun q=>if q=p then v else f q
def DO {β:Type} (f:List UInt8->β) (p:List UInt8) (v:β):Do f p v p=v:=by simp[Do]
def Dn {β:Type} (f:List UInt8->β) {p q:List UInt8} (v:β) (h:¬q=p):Do f p v q=f q:=by simp[Do,h]
def Ly.single (s:Ly) (p:List UInt8) (x:Cel):Ly :=
 {s with paths:=if p∈s.paths then s.paths else s.paths++[p],rows:=s.rows.modify (s.rows.length-1) fun r=>ME r p x}
def Ly.list (s:Ly) (p:List UInt8) (kids:List Nd):Ly :=
 if s.sv p=s.rows.length then s else
  {s with lists:=if s.sv p=0 then s.lists++[p] else s.lists,sv:=Do s.sv p s.rows.length,it:=Do s.it p (s.it p++kids.map fun k=>((s.rows.length:Int)-1,k))}
def Ly.part (s:Ly):Pt->Ly
 | .c p x=>s.single p x
 | .l p kids=>s.list p kids
def Ly.parts (s:Ly) (l:List Pt):Ly:=l.foldl Ly.part s
def Ly.parts_app (s:Ly) (a b:List Pt):s.parts (a++b)=(s.parts a).parts b:=by simp[Ly.parts]
def Ly.parts_one (s:Ly) (a:Pt):s.parts [a]=s.part a:=rfl
def ly0 (further:Bool):Ly:=⟨further,[],[],[],[],fun _=>0,fun _=>[]⟩
def Ly.row (s:Ly) (above:Int):Ly:={s with above:=s.above++[above],rows:=s.rows++[fun _=>none]}
def Ji:List UInt8:=[118,97,108,117,101]
def Ly.elm (recs:Bool) (s:Ly) (e:Elm):Ly:=(s.row e.1).parts (if recs=true then DT e.2 [] else [.c Ji (Cf e.2)])
def A1 (further:Bool) (l:List Elm):Ly:=l.foldl (Ly.elm (!l.any C3)) (ly0 further)
def Ly.single_rows (s:Ly) (p:List UInt8) (x:Cel):(s.single p x).rows.length=s.rows.length:=by simp[Ly.single]
def Ly.list_rows (s:Ly) (p:List UInt8) (k:List Nd):(s.list p k).rows=s.rows:=by unfold Ly.list;split<;>rfl
def Ly.part_rows (s:Ly) (q:Pt):(s.part q).rows.length=s.rows.length:=by
 cases q with
 | c p x=>exact s.single_rows p x
 | l p k=>exact congrArg _ (s.list_rows p k)
def Ly.parts_rows (s:Ly):∀ l:List Pt,(s.parts l).rows.length=s.rows.length
 | []=>rfl
 | q::r=>(Ly.parts_rows (s.part q) r).trans (s.part_rows q)
inductive Rl where
 | n (k:Nat)
 | i (p:List UInt8)
def BF (s:Ly):Rl->Prop
 | .n k=>k<8+s.rows.length
 | .i p=>¬s.it p=[]
def Kj (L:Rl->Nat) (n:Nat):Ae:=if n=0 then .row false [] else .box ((AgO n).map fun i=>.mp (L (.n (8+i))))
structure BT (L:Rl->Nat) (s:Ly) (H:List Ae):Prop where
 inj:∀ a b,BF s a->BF s b->L a=L b->a=b
 lt:∀ a,BF s a->L a<H.length
 box:H[L (.n 0)]?=some (.box [.d (.bool s.further),.lsl (L (.n 2)) 1 0 s.above.length,.lsl (L (.n 3)) 1 0 s.paths.length,.lsl (L (.n 4)) 1 0 s.rows.length,.lsl (L (.n 5)) 1 0 s.lists.length,.mp (L (.n 6)),.mp (L (.n 7))])
 seen:∃ m:List (D × D),H[L (.n 1)]?=some (.map m)/\IF m/\∀ p,Gm m (S p)=if p∈s.paths then some (.bool true) else none
 above:H[L (.n 2)]?=some (.row false (Ar .i64 s.above))
 paths:H[L (.n 3)]?=some (.row false (strs s.paths))
 rows:H[L (.n 4)]?=some (Kj L s.rows.length)
 lists:H[L (.n 5)]?=some (.row false (strs s.lists))
 items:∃ m:List (D × AV),H[L (.n 6)]?=some (.amap m)/\IF m/\∀ p,Gm m (S p)=if s.it p=[] then none else some (.lsl (L (.i p)) 5 0 (s.it p).length)
 sev:∃ m:List (D × D),H[L (.n 7)]?=some (.map m)/\IF m/\∀ p,Gm m (S p)=if s.sv p=0 then none else some (.int .i64 (s.sv p:Nat))
 row:∀ i,(h:i<s.rows.length)->∃ m:List (D × D),H[L (.n (8+i))]?=some (.map m)/\IF m/\∀ p,Gm m (S p)=(s.rows[i] p).map fun c=>.agg (HO c)
 item:∀ p,¬s.it p=[]->H[L (.i p)]?=some (.row false (BI (s.it p)))
def BT.ne {L:Rl->Nat} {s:Ly} {H:List Ae} (h:BT L s H) {a b:Rl} (ha:BF s a) (hb:BF s b) (hab:a≠b):¬L a=L b:=fun e=>hab (h.inj a b ha hb e)
end
section
open Go Go.Proofs Go.Abs
variable {G:Ah}
def BA (L:Rl->Nat) (k N:Nat):Rl->Nat
 | .n j=>if j=k then N else L (.n j)
 | .i p=>L (.i p)
def DC (L:Rl->Nat) (k N:Nat):BA L k N (.n k)=N:=by simp[BA]
def A7 (L:Rl->Nat) {k j:Nat} (N:Nat) (h:¬j=k):BA L k N (.n j)=L (.n j):=by simp[BA,h]
def Xi (L:Rl->Nat) (k N:Nat) (p:List UInt8):BA L k N (.i p)=L (.i p):=rfl
def Pw {L:Rl->Nat} {s s':Ly} {H:List Ae} (h:BT L s H) {k N:Nat} (hN:H.length<=N) (hok:∀ a,BF s' a->a≠.n k->BF s a):∀ a b,BF s' a->BF s' b->BA L k N a=BA L k N b->a=b:=by
 have key:∀ a,BF s' a->(a=.n k/\BA L k N a=N)\/(a≠.n k/\BF s a/\BA L k N a=L a/\L a<N):=by
  intro a ha;by_cases e:a=.n k;·exact .inl ⟨e,by rw[e,DC]⟩
  have:=hok a ha e;have hl:=h.lt a this;refine .inr ⟨e,this,?_,lA⟩;cases a with
  | n j=>exact A7 L N fun q=>e (by rw[q])
  | i p=>rfl
 intro a b ha hb e;rcases key a ha with ⟨a1,a2⟩ | ⟨a1,a2,a3,a4⟩<;>rcases key b hb with ⟨b1,b2⟩ | ⟨b1,b2,b3,b4⟩
 ·rw[a1,b1]
 ·omega
 ·omega
 exact h.inj a b a2 b2 (by rw[<-a3,<-b3];exact e)
def BT.put {L:Rl->Nat} {s:Ly} {H K:List Ae} (h:BT L s H) (hl:H.length<=K.length) (hk:∀ a,BF s a->K[L a]?=H[L a]?):BT L s K:=by
 have ok:∀ k,k<8+s.rows.length->BF s (.n k):=fun k hk=>hk;refine ⟨h.inj,fun a ha=>Aeq (h.lt a ha) hl,?_,?_,?_,?_,?_,?_,?_,?_,?_,?_⟩;·rw[hk _ (ok 0 lA)];exact h.box
 ·rw[hk _ (ok 1 lA)];exact h.seen
 ·rw[hk _ (ok 2 lA)];exact h.above
 ·rw[hk _ (ok 3 lA)];exact h.paths
 ·rw[hk _ (ok 4 lA)];exact h.rows
 ·rw[hk _ (ok 5 lA)];exact h.lists
 ·rw[hk _ (ok 6 lA)];exact h.items
 ·rw[hk _ (ok 7 lA)];exact h.sev
 ·intro i hi;rw[hk _ (ok (8+i) lA)];exact qH
 intro p hp;rw[hk (.i p) hp];exact h.item p hp
def BT.app {L:Rl->Nat} {s:Ly} {H:List Ae} (h:BT L s H) (E:List Ae):BT L s (H++E) :=
 h.put lC fun a ha=>Ay (h.lt a ha)
def BT.path {L:Rl->Nat} {s:Ly} {H K:List Ae} (h:BT L s H) {N:Nat} {p:List UInt8} (hp:¬p∈s.paths) (hN:H.length<=N) (hK:N<K.length) (hl:H.length<=K.length)
  (k0:K[L (.n 0)]?=some (.box [.d (.bool s.further),.lsl (L (.n 2)) 1 0 s.above.length,.lsl N 1 0 (s.paths.length+1),.lsl (L (.n 4)) 1 0 s.rows.length,.lsl (L (.n 5)) 1 0 s.lists.length,.mp (L (.n 6)),.mp (L (.n 7))]))
  (k1:∃ m:List (D × D),H[L (.n 1)]?=some (.map m)/\K[L (.n 1)]?=some (.map (B9 m (S p) (.bool true)))) (k3:K[N]?=some (.row false (strs (s.paths++[p]))))
  (kr:∀ a,BF s a->a≠.n 0->a≠.n 1->a≠.n 3->K[L a]?=H[L a]?):BT (BA L 3 N) {s with paths:=s.paths++[p]} K:=by
 have ok:∀ k,k<8+s.rows.length->BF s (.n k):=fun k hk=>hk;have ne:∀ {k j:Nat},k≠j->Rl.n k≠Rl.n j:=fun h e=>h jV;have get:∀ k,k<8+s.rows.length->k≠0->k≠1->k≠3->K[BA L 3 N (.n k)]?=H[L (.n k)]?:=fun k hk h0 h1 h3=>by rw[A7 L N h3];exact kr _ (ok k hk) (ne h0) (ne h1) (ne h3)
 have s3:=DC L 3 N;have sk:∀ k,k≠3->BA L 3 N (.n k)=L (.n k):=fun k hk=>A7 L N hk;have hg:∀ a,BF s a->BA L 3 N a<K.length:=fun a ha=>by
  cases a with
  | n j =>
   by_cases e:j=3;·subst e;rw[s3];exact hK
   rw[sk j e];exact Aeq (h.lt _ ha) hl
  | i q=>exact Aeq (h.lt _ ha) hl
 refine ⟨Pw (s':={s with paths:=s.paths++[p]}) h hN fun a ha _=>ha,hg,?_,?_,?_,?_,?_,?_,?_,?_,?_,?_⟩;·rw[sk 0 lz,sk 2 lz,s3,sk 4 lz,sk 5 lz,sk 6 lz,sk 7 lz,k0];simp
 ·obtain ⟨m,m1,m2⟩:=k1;obtain ⟨m',q1,q2,q3⟩:=h.seen;have:m=m':=by rw[m1] at q1;cases q1;rfl
  subst this;refine ⟨_,by rw[sk 1 lz];exact m2,q2.upd _ _,fun q=>?_⟩;rw[JS q2,q3];by_cases e:q=p;·simp[e]
  simp[e]
 ·rw[get 2 lA lz lz lz];exact h.above
 ·rw[s3];exact k3
 ·rw[get 4 lA lz lz lz,h.rows];unfold Kj;have:∀ i,BA L 3 N (.n (8+i))=L (.n (8+i)):=fun i=>sk _ lA;simp only[this]
 ·rw[get 5 lA lz lz lz];exact h.lists
 ·rw[get 6 lA lz lz lz];exact h.items
 ·rw[get 7 lA lz lz lz];exact h.sev
 ·intro i hi;rw[get (8+i) ia lA lA lA];exact qH
 intro q hq;have e:K[L (.i q)]?=H[L (.i q)]?:=kr (.i q) hq lC lC lC;rw[Xi,e];exact qE
def BT.cell {L:Rl->Nat} {s:Ly} {H K:List Ae} (h:BT L s H) {p:List UInt8} {x:Cel} (hr:0<s.rows.length) (hl:H.length<=K.length)
  (k1:∃ m:List (D × D),H[L (.n (8+(s.rows.length-1)))]?=some (.map m)/\K[L (.n (8+(s.rows.length-1)))]?=some (.map (B9 m (S p) (.agg (HO x))))) (hno:(s.rows.getD (s.rows.length-1) fun _=>none) p=none)
  (kr:∀ a,BF s a->a≠.n (8+(s.rows.length-1))->K[L a]?=H[L a]?):BT L {s with rows:=s.rows.modify (s.rows.length-1) fun r=>ME r p x} K:=by
 have ok:∀ k,k<8+s.rows.length->BF s (.n k):=fun k hk=>hk;have ne:∀ {k j:Nat},k≠j->Rl.n k≠Rl.n j:=fun h e=>h jV;have get:∀ k,k<8->K[L (.n k)]?=H[L (.n k)]?:=fun k hk=>kr _ (ok k lA) (ne lA);have lr:(s.rows.modify (s.rows.length-1) fun r=>ME r p x).length=s.rows.length:=lC
 have okk:∀ a,BF {s with rows:=s.rows.modify (s.rows.length-1) fun r=>ME r p x} a->BF s a:=fun a ha=>by
  cases a with
  | n j=>have:j<8+(s.rows.modify (s.rows.length-1) fun r=>ME r p x).length:=ha;rw[lr] at this;exact this
  | i q=>exact ha
 refine ⟨fun a b ha hb=>h.inj a b (okk a ha) (okk b hb),fun a ha=>Aeq (h.lt a (okk a ha)) hl,?_,?_,?_,?_,?_,?_,?_,?_,?_,?_⟩;·rw[get 0 lA,h.box,lr]
 ·rw[get 1 lA];exact h.seen
 ·rw[get 2 lA];exact h.above
 ·rw[get 3 lA];exact h.paths
 ·rw[get 4 lA,lr];exact h.rows
 ·rw[get 5 lA];exact h.lists
 ·rw[get 6 lA];exact h.items
 ·rw[get 7 lA];exact h.sev
 ·intro i hi;simp only[lr] at hi;by_cases e:i=s.rows.length-1
  ·subst e;obtain ⟨m,m1,m2⟩:=k1;obtain ⟨m',q1,q2,q3⟩:=h.row _ hi;have:m=m':=by rw[m1] at q1;cases q1;rfl
   subst this;refine ⟨_,m2,q2.upd _ _,fun q=>?_⟩;rw[JS q2,q3];simp only[AgK,if_true,ME];have hno':s.rows[s.rows.length-1] p=none:=(by rw[AbZ,AbY hi] at hno;exact hno)
   by_cases e:q=p;·subst e;simp[hno']
   simp[e]
  rw[kr _ (ok (8+i) lA) (ne lA)];simp only[AgK,if_neg (Ne.symm e)];exact qH
 intro q hq;rw[kr (.i q) hq lC];exact qE
def Ly.same_cell {s:Ly} {p:List UInt8} {x c:Cel} (h:(s.rows.getD (s.rows.length-1) fun _=>none) p=some c):(s.rows.modify (s.rows.length-1) fun r=>ME r p x)=s.rows:=by
 refine List.ext_getElem lC fun i h1 h2=>?_;rw[AgK];split
 ·rename_i e;subst e;rw[AbZ,AbY h2] at h;simp only[Ahn] at h;funext q;unfold ME;by_cases e:q=p;·subst e;simp[h]
  simp[e]
 rfl
structure C7 (L:Rl->Nat) (s:Ly) (H:List Ae) (L':Rl->Nat) (s':Ly) (H':List Ae):Prop where
 n0:L' (.n 0)=L (.n 0)
 n1:L' (.n 1)=L (.n 1)
 len:H.length<=H'.length
 keep:∀ i,i<H.length->(∀ a,BF s a->L a≠i)->H'[i]?=H[i]?
 old:∀ a,BF s' a->(∃ b,BF s b/\L b=L' a)\/H.length<=L' a
def C7.refl (L:Rl->Nat) (s:Ly) (H:List Ae):C7 L s H L s H:=⟨rfl,rfl,Aex _,fun _ _ _=>rfl,fun a ha=>.inl ⟨a,ha,rfl⟩⟩
def C7.trans {L1 L2 L3:Rl->Nat} {s1 s2 s3:Ly} {H1 H2 H3:List Ae} (a:C7 L1 s1 H1 L2 s2 H2) (b:C7 L2 s2 H2 L3 s3 H3):C7 L1 s1 H1 L3 s3 H3:=by
 refine ⟨b.n0.trans a.n0,b.n1.trans a.n1,Agv a.len b.len,fun i hi hr=>?_,fun x hx=>?_⟩
 ·rw[b.keep i (Aeq hi a.len) fun x hx e=>?_,a.keep i hi hr];rcases a.old x hx with ⟨y,h1,h2⟩ | h1
  ·exact hr y h1 (h2.trans e)
  omega
 rcases b.old x hx with ⟨y,h1,h2⟩ | h1
 ·rcases a.old y h1 with ⟨z,h3,h4⟩ | h3
  ·exact .inl ⟨z,h3,h4.trans h2⟩
  exact .inr (h2▸h3)
 exact .inr (Agv a.len h1)
def C7.app (L:Rl->Nat) (s:Ly) (H E:List Ae):C7 L s H L s (H++E):=⟨rfl,rfl,lC,fun i hi _=>Ay hi,fun a ha=>.inl ⟨a,ha,rfl⟩⟩
def Lj {s s':Ly} (h1:s'.rows.length=s.rows.length) (h2:s'.it=s.it) {a:Rl} (h:BF s' a):BF s a:=by
 cases a with
 | n k=>show k<8+s.rows.length;rw[<-h1];exact h
 | i p=>show ¬s.it p=[];rw[<-h2];exact h
def La {L:Rl->Nat} {s:Ly} {H:List Ae} {k N:Nat} (hN:H.length<=N) {a:Rl} (ha:BF s a):(∃ b,BF s b/\L b=BA L k N a)\/H.length<=BA L k N a:=by
 cases a with
 | n j =>
  by_cases e:j=k;·subst e;rw[DC];exact .inr hN
  rw[A7 L N e];exact .inl ⟨_,ha,rfl⟩
 | i p=>exact .inl ⟨_,ha,rfl⟩
def Ib {s:Ly} {p:List UInt8} {x:Cel} {a:Rl} (h:BF (s.single p x) a):BF s a:=Lj (s.single_rows p x) rfl h
def AaE {H:List Ae} (h:∀ b,H[0]?=some b->∀ J t,b≠.ext J t):DG H=true:=by
 cases H with
 | nil=>rfl
 | cons x r =>
  cases x with
  | ext J t=>exact absurd rfl (h _ rfl J t)
  | _=>rfl
def NoX (H:List Ae):Prop:=∀ b∈H,∀ J t,b≠.ext J t
def NoX.ok {H:List Ae} (h:NoX H):DG H=true:=AaE fun b hb=>h b (List.mem_of_getElem? hb)
def NoX.set {H:List Ae} (h:NoX H) (i:Nat) {b:Ae} (hb:∀ J t,b≠.ext J t):NoX (H.set i b):=fun c hc=>by
 rcases List.mem_or_eq_of_mem_set hc with hc | rfl
 ·exact h c hc
 exact hb
def NoX.app {H E:List Ae} (h:NoX H) (he:NoX E):NoX (H++E):=fun c hc=>by
 rcases Aht.1 hc with hc | hc
 ·exact h c hc
 exact he c hc
def Ns {L:Rl->Nat} {s:Ly} {H:List Ae} (h:BT L s H) (hr:0<s.rows.length) (h0:NoX H) (p:List UInt8) (n:Nd) (hs:s.paths.length<=1000000000/\s.rows.length<=1000000000) (hp:p.length<=1000000000) :
  ∃ L' H',Ctr TP G 60 [.ptr (L (.n 0)) 0,.mp (L (.n 1)),.d (S p),.d (NdD n)] H (.d (.tup [])) H'/\BT L' (s.single p (Cf n)) H'/\C7 L s H L' (s.single p (Cf n)) H'/\NoX H':=by
 obtain ⟨sl1,sl2⟩:=hs;obtain ⟨nk,nt,nks,nl⟩:=n;obtain ⟨m,hm⟩:∃ m,s.rows.length=m+1:=⟨s.rows.length-1,lA⟩;have hm1:s.rows.length-1=m:=lA
 have ok:∀ k,k<9+m->BF s (.n k):=fun k hk=>eT
 obtain ⟨ms,ms1,ms2,ms3⟩:=h.seen;obtain ⟨mr,mr1,mr2,mr3⟩:=h.row m lA;have q0:=h.box;have q3:=h.paths;have q4:=h.rows;unfold Kj at q4;rw[if_neg lA,hm] at q4;have l0:=h.lt _ (ok 0 lA);have l1:=h.lt _ (ok 1 lA);have l3:=h.lt _ (ok 3 lA);have l4:=h.lt _ (ok 4 lA);have lr:=h.lt _ (ok (8+m) lA);have n01:=h.ne (ok 0 lA) (ok 1 lA) lC;have n03:=h.ne (ok 0 lA) (ok 3 lA) lC;have n04:=h.ne (ok 0 lA) (ok 4 lA) lC;have n13:=h.ne (ok 1 lA) (ok 3 lA) lC;have n14:=h.ne (ok 1 lA) (ok 4 lA) lC;have n34:=h.ne (ok 3 lA) (ok 4 lA) lC;have n0r:=h.ne (ok 0 lA) (ok (8+m) lA) jW;have n1r:=h.ne (ok 1 lA) (ok (8+m) lA) jW;have n3r:=h.ne (ok 3 lA) (ok (8+m) lA) jW;have n4r:=h.ne (ok 4 lA) (ok (8+m) lA) jW;have ks:=ms2.ok;have kr:=mr2.ok;have rl:((AgO (m+1)).map fun i=>AV.mp (L (.n (8+i)))).length=m+1:=lC
 have rg:((AgO (m+1)).map fun i=>AV.mp (L (.n (8+i)))).getD m .undef=.mp (L (.n (8+m))):=by rw[AbZ,Ahh,List.getElem?_range lA];rfl
 generalize ((AgO (m+1)).map fun i=>AV.mp (L (.n (8+i))))=rb at *;have sl:=@strs_length s.paths;have gD:s.rows.getD m (fun _=>none)=s.rows[m]:=by rw[AbZ,AbY lA];rfl
 by_cases hpp:p∈s.paths
 ·have v1:DI (.bool false) ms (S p) false=.bool true:=by rw[Lr,ms3,if_pos hpp];rfl
  cases hc:s.rows[m] p with
  | none =>
   have hcD:(s.rows.getD m fun _=>none) p=none:=iB;have v2:DI (.agg [.bool false,.str ByteArray.empty]) mr (S p) true=.tup [.agg [.bool false,.str ByteArray.empty],.bool false]:=gY;have hX:NoX (H.set (L (.n (8+m))) (.map (B9 mr (S p) (.agg (HO (Cf (.mk nk nt nks nl))))))++[.box [.d (.int .i64 nk),.d (S nt),.d (Ss nks false),.d (.sl nl.length false (AH nl))],.box [.d (.bool false),.d (.str ByteArray.empty)]]):=(h0.set _ lC).app kE;refine ⟨L,H.set (L (.n (8+m))) (.map (B9 mr (S p) (.agg (HO (Cf (.mk nk nt nks nl))))))++[.box [.d (.int .i64 nk),.d (S nt),.d (Ss nks false),.d (.sl nl.length false (AH nl))],.box [.d (.bool false),.d (.str ByteArray.empty)]],Ctr.bodyI (M:=M0) Ak Tryz.func60 rfl AcJ ?h1 ?h2,?h3⟩;case h2 =>
    simp(disch:=try exact aa)only[Tryz.f60,hm,q0,q4,ms1,mr1,ks,kr,v1,v2,rl,rg,ndC,AA,↓Ab,Ad,↓reduceIte,Qu,Qv];refine ⟨lD,?_⟩;refine Aa.of (OB (.mk nk nt nks nl)) lD ?_;simp(disch:=try exact aa)only[mr1,kr,AA,↓Ab,Ad,↓reduceIte,Qu];first
    | exact Or.inr mX
   case h1=>exact hX.ok
   case h3 =>have e1:s.single p (Cf (.mk nk nt nks nl))={s with rows:=s.rows.modify (s.rows.length-1) fun r=>ME r p (Cf (.mk nk nt nks nl))}:=(by simp[Ly.single,hpp]);rw[e1];refine ⟨BT.app (h.cell (K:=H.set (L (.n (8+m))) (.map (B9 mr (S p) (.agg (HO (Cf (.mk nk nt nks nl))))))) lA lC ⟨mr,by rw[hm1];exact mr1,by rw[hm1];exact A8 lr⟩ gZ fun a ha hn=>Ao (h.ne (ok _ lA) ha (by rw[hm1] at hn;exact hn.symm))) _,⟨rfl,rfl,lC,fun i hi hr=>?_,fun a ha=>.inl ⟨a,Ib iC,rfl⟩⟩,hX⟩;rw[Ay iQ,Ao (hr _ (ok _ lA))]
  | some c =>
   have hcD:(s.rows.getD m fun _=>none) p=some c:=iB;have v2:DI (.agg [.bool false,.str ByteArray.empty]) mr (S p) true=.tup [.agg (HO c),.bool true]:=gY;have hX:NoX (H++[.box [.d (.int .i64 nk),.d (S nt),.d (Ss nks false),.d (.sl nl.length false (AH nl))],.box [.d (.bool c.2),.d (S c.1)]]):=h0.app kE;refine ⟨L,H++[.box [.d (.int .i64 nk),.d (S nt),.d (Ss nks false),.d (.sl nl.length false (AH nl))],.box [.d (.bool c.2),.d (S c.1)]],Ctr.bodyI (M:=M0) Ak Tryz.func60 rfl AcJ ?h1 ?h2,?h3⟩;case h2 =>
    simp(disch:=try exact aa)only[Tryz.f60,hm,q0,q4,ms1,mr1,ks,kr,v1,v2,rl,rg,ndC,AA,↓Ab,Ad,↓reduceIte,Qu,Qv];refine ⟨lD,?_⟩;first
    | exact Or.inr mX
   case h1=>exact hX.ok
   case h3 =>have e1:s.single p (Cf (.mk nk nt nks nl))=s:=(by unfold Ly.single;rw[if_pos hpp,Ly.same_cell (c:=c) gZ]);rw[e1];exact ⟨h.app _,C7.app _ _ _ _,hX⟩
 have v1:DI (.bool false) ms (S p) false=.bool false:=by rw[Lr,ms3,if_neg hpp];rfl
 cases hc:s.rows[m] p with
 | none =>
  have hcD:(s.rows.getD m fun _=>none) p=none:=iB
  have v2:DI (.agg [.bool false,.str ByteArray.empty]) mr (S p) true=.tup [.agg [.bool false,.str ByteArray.empty],.bool false]:=gY
  have hX:NoX ((((H.set (L (.n 1)) (.map (B9 ms (S p) (.bool true)))).set (L (.n 3)) .dead).set (L (.n 0)) (.box [.d (.bool s.further),.lsl (L (.n 2)) 1 0 s.above.length,.lsl (H.length+2) 1 0 (s.paths.length+1),.lsl (L (.n 4)) 1 0 (m+1),.lsl (L (.n 5)) 1 0 s.lists.length,.mp (L (.n 6)),.mp (L (.n 7))])).set (L (.n (8+m))) (.map (B9 mr (S p) (.agg (HO (Cf (.mk nk nt nks nl))))))++[.box [.d (.int .i64 nk),.d (S nt),.d (Ss nks false),.d (.sl nl.length false (AH nl))],.row false [S p],.row false (strs s.paths++[S p]),.box [.d (.bool false),.d (.str ByteArray.empty)]]):=((((h0.set _ lC).set _ lC).set _ lC).set _ lC).app kE;refine ⟨BA L 3 (H.length+2),(((H.set (L (.n 1)) (.map (B9 ms (S p) (.bool true)))).set (L (.n 3)) .dead).set (L (.n 0)) (.box [.d (.bool s.further),.lsl (L (.n 2)) 1 0 s.above.length,.lsl (H.length+2) 1 0 (s.paths.length+1),.lsl (L (.n 4)) 1 0 (m+1),.lsl (L (.n 5)) 1 0 s.lists.length,.mp (L (.n 6)),.mp (L (.n 7))])).set (L (.n (8+m))) (.map (B9 mr (S p) (.agg (HO (Cf (.mk nk nt nks nl))))))++[.box [.d (.int .i64 nk),.d (S nt),.d (Ss nks false),.d (.sl nl.length false (AH nl))],.row false [S p],.row false (strs s.paths++[S p]),.box [.d (.bool false),.d (.str ByteArray.empty)]],Ctr.bodyI (M:=M0) Ak Tryz.func60 rfl AcJ ?h1 ?h2,?h3⟩;case h2 =>
   simp(disch:=try exact aa)only[Tryz.f60,hm,q0,q3,q4,ms1,mr1,ks,kr,v1,v2,rl,rg,sl,ndC,AA,↓Ab,Ad,↓reduceIte,Qu,Qv];refine ⟨lD,?_⟩;refine Aa.of (OB (.mk nk nt nks nl)) lD ?_;simp(disch:=try exact aa)only[mr1,kr,AA,↓Ab,Ad,↓reduceIte,Qu];first
   | exact Or.inr mX
  case h1=>exact hX.ok
  case h3 =>
   have hp1:BT (BA L 3 (H.length+2)) {s with paths:=s.paths++[p]} (((H.set (L (.n 1)) (.map (B9 ms (S p) (.bool true)))).set (L (.n 3)) .dead).set (L (.n 0)) (.box [.d (.bool s.further),.lsl (L (.n 2)) 1 0 s.above.length,.lsl (H.length+2) 1 0 (s.paths.length+1),.lsl (L (.n 4)) 1 0 (m+1),.lsl (L (.n 5)) 1 0 s.lists.length,.mp (L (.n 6)),.mp (L (.n 7))])++[.box [.d (.int .i64 nk),.d (S nt),.d (Ss nks false),.d (.sl nl.length false (AH nl))],.row false [S p],.row false (strs s.paths++[S p]),.box [.d (.bool false),.d (.str ByteArray.empty)]]):=by
    refine h.path hpp lA lC lC ?_ ⟨ms,ms1,?_⟩ ?_ fun a ha a0 a1 a3=>?_;·rw[Ay iZ,A8 iZ,hm]
    ·exact pI
    ·rw[A0 lC];simp[strs]
    have la:=h.lt a ha;exact og
   have e1:s.single p (Cf (.mk nk nt nks nl))={({s with paths:=s.paths++[p]}:Ly) with rows:=s.rows.modify (s.rows.length-1) fun r=>ME r p (Cf (.mk nk nt nks nl))}:=(by simp[Ly.single,hpp]);rw[e1];have er:BA L 3 (H.length+2) (.n (8+m))=L (.n (8+m)):=A7 _ _ lA;have hx:BF {s with paths:=s.paths++[p]} (.n (8+m)):=ok _ lA;refine ⟨hp1.cell (K:=(((H.set (L (.n 1)) (.map (B9 ms (S p) (.bool true)))).set (L (.n 3)) .dead).set (L (.n 0)) (.box [.d (.bool s.further),.lsl (L (.n 2)) 1 0 s.above.length,.lsl (H.length+2) 1 0 (s.paths.length+1),.lsl (L (.n 4)) 1 0 (m+1),.lsl (L (.n 5)) 1 0 s.lists.length,.mp (L (.n 6)),.mp (L (.n 7))])).set (L (.n (8+m))) (.map (B9 mr (S p) (.agg (HO (Cf (.mk nk nt nks nl))))))++[.box [.d (.int .i64 nk),.d (S nt),.d (Ss nks false),.d (.sl nl.length false (AH nl))],.row false [S p],.row false (strs s.paths++[S p]),.box [.d (.bool false),.d (.str ByteArray.empty)]]) (by show 0<s.rows.length;omega) lC ⟨mr,?_,?_⟩ (by show (s.rows.getD (s.rows.length-1) fun _=>none) p=none;rw[hm1];exact hcD) fun a ha hn=>?_,⟨A7 _ _ lz,A7 _ _ lz,lC,fun i hi hr=>?_,fun a ha=>La lA (Ib iC)⟩,hX⟩
   ·show (((H.set (L (.n 1)) (.map (B9 ms (S p) (.bool true)))).set (L (.n 3)) .dead).set (L (.n 0)) (.box [.d (.bool s.further),.lsl (L (.n 2)) 1 0 s.above.length,.lsl (H.length+2) 1 0 (s.paths.length+1),.lsl (L (.n 4)) 1 0 (m+1),.lsl (L (.n 5)) 1 0 s.lists.length,.mp (L (.n 6)),.mp (L (.n 7))])++[.box [.d (.int .i64 nk),.d (S nt),.d (Ss nks false),.d (.sl nl.length false (AH nl))],.row false [S p],.row false (strs s.paths++[S p]),.box [.d (.bool false),.d (.str ByteArray.empty)]])[BA L 3 (H.length+2) (.n (8+(s.rows.length-1)))]?=_
    rw[hm1,er,Ay i9,Ao n0r,Ao n3r,Ao n1r];exact mr1
   ·show ((((H.set (L (.n 1)) (.map (B9 ms (S p) (.bool true)))).set (L (.n 3)) .dead).set (L (.n 0)) (.box [.d (.bool s.further),.lsl (L (.n 2)) 1 0 s.above.length,.lsl (H.length+2) 1 0 (s.paths.length+1),.lsl (L (.n 4)) 1 0 (m+1),.lsl (L (.n 5)) 1 0 s.lists.length,.mp (L (.n 6)),.mp (L (.n 7))])).set (L (.n (8+m))) (.map (B9 mr (S p) (.agg (HO (Cf (.mk nk nt nks nl))))))++[.box [.d (.int .i64 nk),.d (S nt),.d (Ss nks false),.d (.sl nl.length false (AH nl))],.row false [S p],.row false (strs s.paths++[S p]),.box [.d (.bool false),.d (.str ByteArray.empty)]])[BA L 3 (H.length+2) (.n (8+(s.rows.length-1)))]?=_
    rw[hm1,er,Ay i9,A8 i9]
   ·have hn':¬BA L 3 (H.length+2) (.n (8+m))=BA L 3 (H.length+2) a:=hp1.ne hx ha (by
     have:a≠.n (8+(s.rows.length-1)):=hn;rw[hm1] at this;exact this.symm)
    rw[er] at hn';rcases Aes (BA L 3 (H.length+2) a) H.length with q | q
    ·rw[Ay jy,Ay jy,Ao hn']
    rw[A0 jy,A0 jy];simp only[Ag2]
   rw[Ay iQ,Ao (hr _ (ok _ lA)),Ao (hr _ (ok _ lA)),Ao (hr _ (ok _ lA)),Ao (hr _ (ok _ lA))]
 | some c =>
  have hcD:(s.rows.getD m fun _=>none) p=some c:=iB
  have v2:DI (.agg [.bool false,.str ByteArray.empty]) mr (S p) true=.tup [.agg (HO c),.bool true]:=gY
  have hX:NoX (((H.set (L (.n 1)) (.map (B9 ms (S p) (.bool true)))).set (L (.n 3)) .dead).set (L (.n 0)) (.box [.d (.bool s.further),.lsl (L (.n 2)) 1 0 s.above.length,.lsl (H.length+2) 1 0 (s.paths.length+1),.lsl (L (.n 4)) 1 0 (m+1),.lsl (L (.n 5)) 1 0 s.lists.length,.mp (L (.n 6)),.mp (L (.n 7))])++[.box [.d (.int .i64 nk),.d (S nt),.d (Ss nks false),.d (.sl nl.length false (AH nl))],.row false [S p],.row false (strs s.paths++[S p]),.box [.d (.bool c.2),.d (S c.1)]]):=(((h0.set _ lC).set _ lC).set _ lC).app kE;refine ⟨BA L 3 (H.length+2),((H.set (L (.n 1)) (.map (B9 ms (S p) (.bool true)))).set (L (.n 3)) .dead).set (L (.n 0)) (.box [.d (.bool s.further),.lsl (L (.n 2)) 1 0 s.above.length,.lsl (H.length+2) 1 0 (s.paths.length+1),.lsl (L (.n 4)) 1 0 (m+1),.lsl (L (.n 5)) 1 0 s.lists.length,.mp (L (.n 6)),.mp (L (.n 7))])++[.box [.d (.int .i64 nk),.d (S nt),.d (Ss nks false),.d (.sl nl.length false (AH nl))],.row false [S p],.row false (strs s.paths++[S p]),.box [.d (.bool c.2),.d (S c.1)]],Ctr.bodyI (M:=M0) Ak Tryz.func60 rfl AcJ ?h1 ?h2,?h3⟩;case h2 =>
   simp(disch:=try exact aa)only[Tryz.f60,hm,q0,q3,q4,ms1,mr1,ks,kr,v1,v2,rl,rg,sl,ndC,AA,↓Ab,Ad,↓reduceIte,Qu,Qv];refine ⟨lD,?_⟩;first
   | exact Or.inr mX
  case h1=>exact hX.ok
  case h3 =>
   have hp1:BT (BA L 3 (H.length+2)) {s with paths:=s.paths++[p]} (((H.set (L (.n 1)) (.map (B9 ms (S p) (.bool true)))).set (L (.n 3)) .dead).set (L (.n 0)) (.box [.d (.bool s.further),.lsl (L (.n 2)) 1 0 s.above.length,.lsl (H.length+2) 1 0 (s.paths.length+1),.lsl (L (.n 4)) 1 0 (m+1),.lsl (L (.n 5)) 1 0 s.lists.length,.mp (L (.n 6)),.mp (L (.n 7))])++[.box [.d (.int .i64 nk),.d (S nt),.d (Ss nks false),.d (.sl nl.length false (AH nl))],.row false [S p],.row false (strs s.paths++[S p]),.box [.d (.bool c.2),.d (S c.1)]]):=by
    refine h.path hpp lA lC lC ?_ ⟨ms,ms1,?_⟩ ?_ fun a ha a0 a1 a3=>?_;·rw[Ay iZ,A8 iZ,hm]
    ·exact pI
    ·rw[A0 lC];simp[strs]
    have la:=h.lt a ha;exact og
   have e1:s.single p (Cf (.mk nk nt nks nl))={s with paths:=s.paths++[p]}:=(by unfold Ly.single;rw[if_neg hpp,Ly.same_cell (c:=c) gZ]);rw[e1];refine ⟨hp1,⟨A7 _ _ lz,A7 _ _ lz,lC,fun i hi hr=>?_,fun a ha=>La lA (Ib iC)⟩,hX⟩;rw[Ay iQ,Ao (hr _ (ok _ lA)),Ao (hr _ (ok _ lA)),Ao (hr _ (ok _ lA))]
def BT.sev' {L:Rl->Nat} {s:Ly} {H K:List Ae} (h:BT L s H) {p:List UInt8} {n:Nat} (hn:0<n) (hl:H.length<=K.length)
  (k7:∃ m:List (D × D),H[L (.n 7)]?=some (.map m)/\K[L (.n 7)]?=some (.map (B9 m (S p) (.int .i64 (n:Nat)))))
  (kr:∀ a,BF s a->a≠.n 7->K[L a]?=H[L a]?):BT L {s with sv:=Do s.sv p n} K:=by
 have ok:∀ k,k<8+s.rows.length->BF s (.n k):=fun k hk=>hk;have ne:∀ {k j:Nat},k≠j->Rl.n k≠Rl.n j:=fun h e=>h jV;have get:∀ k,k<8+s.rows.length->k≠7->K[L (.n k)]?=H[L (.n k)]?:=fun k hk h7=>kr _ (ok k hk) (ne h7);refine ⟨h.inj,fun a ha=>Aeq (h.lt a ha) hl,?_,?_,?_,?_,?_,?_,?_,?_,?_,?_⟩;·rw[get 0 lA lz];exact h.box
 ·rw[get 1 lA lz];exact h.seen
 ·rw[get 2 lA lz];exact h.above
 ·rw[get 3 lA lz];exact h.paths
 ·rw[get 4 lA lz];exact h.rows
 ·rw[get 5 lA lz];exact h.lists
 ·rw[get 6 lA lz];exact h.items
 ·obtain ⟨m,m1,m2⟩:=k7;obtain ⟨m',q1,q2,q3⟩:=h.sev;have:m=m':=by rw[m1] at q1;cases q1;rfl
  subst this;refine ⟨_,m2,q2.upd _ _,fun q=>?_⟩;show _=if Do s.sv p n q=0 then none else some (D.int .i64 (Do s.sv p n q:Nat))
  rw[JS q2,q3];by_cases e:q=p;·subst e;rw[if_pos rfl,DO,if_neg lA]
  rw[if_neg e,Dn _ _ e]
 ·intro i hi;rw[get (8+i) ia lA];exact qH
 intro q hq;rw[kr (.i q) hq lC];exact qE
def BT.lst {L:Rl->Nat} {s:Ly} {H K:List Ae} (h:BT L s H) {N:Nat} {p:List UInt8} (hN:H.length<=N) (hK:N<K.length) (hl:H.length<=K.length)
  (k0:K[L (.n 0)]?=some (.box [.d (.bool s.further),.lsl (L (.n 2)) 1 0 s.above.length,.lsl (L (.n 3)) 1 0 s.paths.length,.lsl (L (.n 4)) 1 0 s.rows.length,.lsl N 1 0 (s.lists.length+1),.mp (L (.n 6)),.mp (L (.n 7))]))
  (k5:K[N]?=some (.row false (strs (s.lists++[p])))) (kr:∀ a,BF s a->a≠.n 0->a≠.n 5->K[L a]?=H[L a]?):BT (BA L 5 N) {s with lists:=s.lists++[p]} K:=by
 have ok:∀ k,k<8+s.rows.length->BF s (.n k):=fun k hk=>hk;have ne:∀ {k j:Nat},k≠j->Rl.n k≠Rl.n j:=fun h e=>h jV;have get:∀ k,k<8+s.rows.length->k≠0->k≠5->K[BA L 5 N (.n k)]?=H[L (.n k)]?:=fun k hk h0 h3=>by rw[A7 L N h3];exact kr _ (ok k hk) (ne h0) (ne h3)
 have s3:=DC L 5 N;have sk:∀ k,k≠5->BA L 5 N (.n k)=L (.n k):=fun k hk=>A7 L N hk;have hg:∀ a,BF s a->BA L 5 N a<K.length:=fun a ha=>by
  cases a with
  | n j =>
   by_cases e:j=5;·subst e;rw[s3];exact hK
   rw[sk j e];exact Aeq (h.lt _ ha) hl
  | i q=>exact Aeq (h.lt _ ha) hl
 refine ⟨Pw (s':={s with lists:=s.lists++[p]}) h hN fun a ha _=>ha,hg,?_,?_,?_,?_,?_,?_,?_,?_,?_,?_⟩;·rw[sk 0 lz,sk 2 lz,sk 3 lz,sk 4 lz,s3,sk 6 lz,sk 7 lz,k0];simp
 ·rw[get 1 lA lz lz];exact h.seen
 ·rw[get 2 lA lz lz];exact h.above
 ·rw[get 3 lA lz lz];exact h.paths
 ·rw[get 4 lA lz lz,h.rows];unfold Kj;have:∀ i,BA L 5 N (.n (8+i))=L (.n (8+i)):=fun i=>sk _ lA;simp only[this]
 ·rw[s3];exact k5
 ·rw[get 6 lA lz lz];exact h.items
 ·rw[get 7 lA lz lz];exact h.sev
 ·intro i hi;rw[get (8+i) ia lA lA];exact qH
 intro q hq;have e:K[L (.i q)]?=H[L (.i q)]?:=kr (.i q) hq lC lC;rw[Xi,e];exact qE
def Gs (L:Rl->Nat) (p:List UInt8) (N:Nat):Rl->Nat
 | .n j=>L (.n j)
 | .i q=>if q=p then N else L (.i q)
def Kc (L:Rl->Nat) (p:List UInt8) (N:Nat):Gs L p N (.i p)=N:=by simp[Gs]
def R3 (L:Rl->Nat) {p q:List UInt8} (N:Nat) (h:¬q=p):Gs L p N (.i q)=L (.i q):=by simp[Gs,h]
def BT.itm {L:Rl->Nat} {s:Ly} {H K:List Ae} (h:BT L s H) {N:Nat} {p:List UInt8} {e:Elm} (hN:H.length<=N) (hK:N<K.length) (hl:H.length<=K.length)
  (k6:∃ m:List (D × AV),H[L (.n 6)]?=some (.amap m)/\K[L (.n 6)]?=some (.amap (B9 m (S p) (.lsl N 5 0 ((s.it p).length+1)))))
  (kn:K[N]?=some (.row false (BI (s.it p++[e])))) (kr:∀ a,BF s a->a≠.n 6->a≠.i p->K[L a]?=H[L a]?):BT (Gs L p N) {s with it:=Do s.it p (s.it p++[e])} K:=by
 have ok:∀ k,k<8+s.rows.length->BF s (.n k):=fun k hk=>hk;have ne:∀ {k j:Nat},k≠j->Rl.n k≠Rl.n j:=fun h e=>h jV;have get:∀ k,k<8+s.rows.length->k≠6->K[L (.n k)]?=H[L (.n k)]?:=fun k hk h6=>kr _ (ok k hk) (ne h6) lC;have key:∀ a,BF {s with it:=Do s.it p (s.it p++[e])} a->(a=.i p/\Gs L p N a=N)\/(a≠.i p/\BF s a/\Gs L p N a=L a/\L a<H.length):=by
  intro a ha;cases a with
  | n k=>exact .inr ⟨lC,ha,rfl,h.lt (.n k) ha⟩
  | i q =>
   by_cases eq:q=p;·subst eq;exact .inl ⟨rfl,Kc L q N⟩
   have hq:BF s (.i q):=(by have:¬Do s.it p (s.it p++[e]) q=[]:=ha;rwa[Dn _ _ eq] at this);exact .inr ⟨fun x=>eq (by cases x;rfl),hq,R3 L N eq,h.lt _ hq⟩
 refine ⟨fun a b ha hb hab=>?_,fun a ha=>?_,?_,?_,?_,?_,?_,?_,?_,?_,?_,?_⟩
 ·rcases key a ha with ⟨a1,a2⟩ | ⟨a1,a2,a3,a4⟩<;>rcases key b hb with ⟨b1,b2⟩ | ⟨b1,b2,b3,b4⟩
  ·rw[a1,b1]
  ·omega
  ·omega
  exact h.inj a b a2 b2 (by rw[<-a3,<-b3];exact hab)
 ·rcases key a ha with ⟨a1,a2⟩ | ⟨a1,a2,a3,a4⟩<;>omega
 ·show K[L (.n 0)]?=_
  rw[get 0 lA lz];exact h.box
 ·show ∃ m:List (D × D),K[L (.n 1)]?=_/\_
  rw[get 1 lA lz];exact h.seen
 ·show K[L (.n 2)]?=_
  rw[get 2 lA lz];exact h.above
 ·show K[L (.n 3)]?=_
  rw[get 3 lA lz];exact h.paths
 ·show K[L (.n 4)]?=_
  rw[get 4 lA lz];exact h.rows
 ·show K[L (.n 5)]?=_
  rw[get 5 lA lz];exact h.lists
 ·obtain ⟨m,m1,m2⟩:=k6;obtain ⟨m',q1,q2,q3⟩:=h.items;have:m=m':=by rw[m1] at q1;cases q1;rfl
  subst this;refine ⟨_,m2,q2.upd _ _,fun q=>?_⟩;show _=if Do s.it p (s.it p++[e]) q=[] then none else some (AV.lsl (Gs L p N (.i q)) 5 0 (Do s.it p (s.it p++[e]) q).length)
  rw[JS q2,q3];by_cases eq:q=p;·subst eq;rw[if_pos rfl,DO,if_neg lC,Kc,Aeu];rfl
  rw[if_neg eq,Dn _ _ eq,R3 L N eq]
 ·show ∃ m:List (D × D),K[L (.n 7)]?=_/\_
  rw[get 7 lA lz];exact h.sev
 ·intro i hi;show ∃ m:List (D × D),K[L (.n (8+i))]?=_/\_
  rw[get (8+i) ia lA];exact qH
 intro q hq;rcases key (.i q) hq with ⟨a1,a2⟩ | ⟨a1,a2,a3,a4⟩
 ·cases a1;rw[Kc,kn];simp only[DO]
 rw[a3,kr (.i q) a2 lC a1];have eq:¬q=p:=fun x=>a1 (by rw[x]);simp only[Dn _ _ eq];exact h.item q a2
def Yn {L:Rl->Nat} {s:Ly} {H:List Ae} {p:List UInt8} {N:Nat} {l:List Elm} (hN:H.length<=N) {a:Rl} (ha:BF {s with it:=Do s.it p l} a):(∃ b,BF s b/\L b=Gs L p N a)\/H.length<=Gs L p N a:=by
 cases a with
 | n j=>exact .inl ⟨.n j,ha,rfl⟩
 | i q =>
  by_cases e:q=p;·subst e;rw[Kc];exact .inr hN
  rw[R3 L N e];have:¬Do s.it p l q=[]:=ha;rw[Dn _ _ e] at this;exact .inl ⟨.i q,this,rfl⟩
def Ly.itk (s:Ly) (p:List UInt8) (kids:List Nd) (k:Nat):Ly:={s with it:=Do s.it p (s.it p++(kids.take k).map fun x=>((s.rows.length:Int)-1,x))}
def Ly.itk_zero (s:Ly) (p:List UInt8) (kids:List Nd):s.itk p kids 0=s:=by
 have:Do s.it p (s.it p)=s.it:=by
  funext q;by_cases e:q=p;·subst e;exact DO _ _ _
  exact Dn _ _ e
 unfold Ly.itk;simp only[List.take_zero,AgD,Ahq,this]
def Ly.itk_at (s:Ly) (p:List UInt8) (kids:List Nd) (k:Nat):(s.itk p kids k).it p=s.it p++(kids.take k).map fun x=>((s.rows.length:Int)-1,x):=DO _ _ _
def Ly.itk_succ (s:Ly) (p:List UInt8) (kids:List Nd) (k:Nat) (h:k<kids.length):s.itk p kids (k+1)={s.itk p kids k with it:=Do (s.itk p kids k).it p ((s.itk p kids k).it p++[((s.rows.length:Int)-1,kids.getD k noN)])}:=by
 have e1:kids.take (k+1)=kids.take k++[kids.getD k noN]:=by rw[List.take_succ,AbY h,AbZ,AbY h];rfl
 unfold Ly.itk;simp only[e1,List.map_append,Agw,AgD];congr 1;funext q;by_cases e:q=p;·subst e;rw[DO,DO,DO,Ahg]
 rw[Dn _ _ e,Dn _ _ e,Dn _ _ e]
def Hu (L:Rl->Nat) (H:List Ae) (mi:List (D × AV)) (p:List UInt8) (it:List Elm) (e:Elm):List Ae :=
 (if it=[] then H.set (L (.n 6)) (.amap (B9 mi (S p) (.lsl (H.length+2) 5 0 (it.length+1)))) else (H.set (L (.i p)) .dead).set (L (.n 6)) (.amap (B9 mi (S p) (.lsl (H.length+2) 5 0 (it.length+1))))) ++
  [.box ((ndC e.2).map .d),.row false (BI [e]),.row false (BI (it++[e]))]
def Zz (L:Rl->Nat) (s:Ly) (H:List Ae) (p:List UInt8) (kids:List Nd) (k:Nat) (x:(Rl->Nat) × List Ae):Prop :=
 BT x.1 (s.itk p kids k) x.2/\C7 L s H x.1 (s.itk p kids k) x.2/\NoX x.2
def Ad7 (s:Ly) (p:List UInt8) (kids:List Nd) (k:Nat) (x y:(Rl->Nat) × List Ae):Prop :=
 ∃ mi,x.2[x.1 (.n 6)]?=some (.amap mi)/\y.2=Hu x.1 x.2 mi p ((s.itk p kids k).it p) ((s.rows.length:Int)-1,kids.getD k noN)
def Um {L:Rl->Nat} {s:Ly} {H:List Ae} {p:List UInt8} {kids:List Nd} {k:Nat} (hk:k<kids.length) {x:(Rl->Nat) × List Ae} (hx:Zz L s H p kids k x):∃ y,Ad7 s p kids k x y/\Zz L s H p kids (k+1) y:=by
 obtain ⟨L1,H1⟩:=x;obtain ⟨h1,h2,h3⟩:=hx;simp only at h1 h2 h3;obtain ⟨mi,m1,m2,m3⟩:=h1.items;have ok:∀ k',k'<8+s.rows.length->BF (s.itk p kids k) (.n k'):=fun k' hk'=>hk';have l6:=h1.lt (.n 6) (ok 6 lA);generalize he:(((s.rows.length:Int)-1,kids.getD k noN):Elm)=e;refine ⟨(Gs L1 p (H1.length+2),Hu L1 H1 mi p ((s.itk p kids k).it p) e),⟨mi,m1,by rw[he]⟩,?_⟩;have hlen:(Hu L1 H1 mi p ((s.itk p kids k).it p) e).length=H1.length+3:=by unfold Hu;split<;>simp
 have gN:(Hu L1 H1 mi p ((s.itk p kids k).it p) e)[H1.length+2]?=some (.row false (BI ((s.itk p kids k).it p++[e]))):=by unfold Hu;split<;>simp
 have g6:(Hu L1 H1 mi p ((s.itk p kids k).it p) e)[L1 (.n 6)]?=some (.amap (B9 mi (S p) (.lsl (H1.length+2) 5 0 (((s.itk p kids k).it p).length+1)))):=by
  unfold Hu;split;·rw[Ay ja,A8 l6]
  rw[Ay ja,A8 ja]
 have gO:∀ i,i<H1.length->i≠L1 (.n 6)->(¬(s.itk p kids k).it p=[]->i≠L1 (.i p))->(Hu L1 H1 mi p ((s.itk p kids k).it p) e)[i]?=H1[i]?:=by
  intro i hi h6 hp;unfold Hu;split;·rw[Ay iQ,Ao (Ne.symm h6)]
  rename_i hne;rw[Ay iQ,Ao (Ne.symm h6),Ao (Ne.symm (hp hne))]
 have hs':s.itk p kids (k+1)={s.itk p kids k with it:=Do (s.itk p kids k).it p ((s.itk p kids k).it p++[e])}:=by rw[Ly.itk_succ s p kids k hk,he]
 refine ⟨?_,h2.trans ?_,?_⟩
 ·show BT (Gs L1 p (H1.length+2)) (s.itk p kids (k+1)) (Hu L1 H1 mi p ((s.itk p kids k).it p) e)
  rw[hs'];refine h1.itm lA lA lA ⟨mi,m1,g6⟩ gN fun a ha a6 ap=>gO _ (h1.lt a ha) (h1.ne ha (ok 6 lA) a6) fun hne=>?_;exact h1.ne ha (b:=.i p) hne ap
 ·show C7 L1 (s.itk p kids k) H1 (Gs L1 p (H1.length+2)) (s.itk p kids (k+1)) (Hu L1 H1 mi p ((s.itk p kids k).it p) e)
  refine ⟨rfl,rfl,lA,fun i hi hr=>gO i hi (Ne.symm (hr _ (ok 6 lA))) fun hne=>Ne.symm (hr (.i p) hne),fun a ha=>?_⟩;rw[hs'] at ha;exact Yn lA ha
 show NoX (Hu L1 H1 mi p ((s.itk p kids k).it p) e)
 unfold Hu;split;·exact (h3.set _ lC).app kE
 exact ((h3.set _ lC).set _ lC).app kE
def AaR {L:Rl->Nat} {s:Ly} {H:List Ae} (h:BT L s H) (hr:0<s.rows.length) (h0:NoX H) (p:List UInt8) (kids:List Nd) (full:Bool) (hs:s.lists.length<=1000000000/\s.rows.length<=1000000000) (hk:(s.it p).length+kids.length<=1000000000) :
  ∃ L' H',Ctr TP G 97 [.ptr (L (.n 0)) 0,.d (S p),.d (NdS kids full)] H (.d (.tup [])) H'/\BT L' (s.list p kids) H'/\C7 L s H L' (s.list p kids) H'/\NoX H':=by
 obtain ⟨sl1,sl2⟩:=hs;have ok:∀ k,k<8+s.rows.length->BF s (.n k):=fun k hk=>hk;obtain ⟨mv,mv1,mv2,mv3⟩:=h.sev;have q0:=h.box;have q5:=h.lists;have l0:=h.lt _ (ok 0 lA);have l5:=h.lt _ (ok 5 lA);have l7:=h.lt _ (ok 7 lA);have n05:=h.ne (ok 0 lA) (ok 5 lA) lC;have n07:=h.ne (ok 0 lA) (ok 7 lA) lC;have n57:=h.ne (ok 5 lA) (ok 7 lA) lC;have ks:=mv2.ok;have nl:=Ax kids;have sl:=@strs_length s.lists;have v1:DI (.int .i64 0) mv (S p) false=.int .i64 (s.sv p:Nat):=by
  rw[Lr,mv3];by_cases e:s.sv p=0;·rw[if_pos e,e];rfl
  rw[if_neg e];rfl
 by_cases hA:s.sv p=s.rows.length
 ·have e1:s.list p kids=s:=if_pos hA;rw[e1];refine ⟨L,H,Ctr.bodyI (M:=M0) Ak Tryz.func97 rfl AdT h0.ok ?_,h,C7.refl _ _ _,h0⟩;rw[hA] at v1;simp(disch:=try exact aa)only[Tryz.f97,q0,mv1,ks,v1,↓Ab,Ad,↓reduceIte,Qu,Qv];first
  | exact RetI.unitR
 by_cases hB:s.sv p=0
 ·have e1:s.list p kids=({s with lists:=s.lists++[p],sv:=Do s.sv p s.rows.length}:Ly).itk p kids kids.length:=by
   unfold Ly.list Ly.itk;rw[if_neg hA,if_pos hB,Af1]
  rw[e1];have l1n:(BA L 5 (H.length+1)) (.n 0)=L (.n 0):=A7 _ _ lz;have x0:BT (BA L 5 (H.length+1)) {s with lists:=s.lists++[p]} ((H.set (L (.n 5)) .dead).set (L (.n 0)) (.box [.d (.bool s.further),.lsl (L (.n 2)) 1 0 s.above.length,.lsl (L (.n 3)) 1 0 s.paths.length,.lsl (L (.n 4)) 1 0 s.rows.length,.lsl (H.length+1) 1 0 (s.lists.length+1),.mp (L (.n 6)),.mp (L (.n 7))])++[.row false [S p],.row false (strs s.lists++[S p])]):=by
   refine h.lst lA lC lC ?_ ?_ fun a ha a0 a5=>?_;·rw[Ay iZ,A8 iZ]
   ·rw[A0 lC];simp[strs]
   have la:=h.lt a ha;rw[Ay i7,Ao (h.ne (ok 0 lA) ha (Ne.symm a0)),Ao (h.ne (ok 5 lA) ha (Ne.symm a5))]
  have x1:BT (BA L 5 (H.length+1)) {s with lists:=s.lists++[p],sv:=Do s.sv p s.rows.length} (((H.set (L (.n 5)) .dead).set (L (.n 0)) (.box [.d (.bool s.further),.lsl (L (.n 2)) 1 0 s.above.length,.lsl (L (.n 3)) 1 0 s.paths.length,.lsl (L (.n 4)) 1 0 s.rows.length,.lsl (H.length+1) 1 0 (s.lists.length+1),.mp (L (.n 6)),.mp (L (.n 7))])).set (L (.n 7)) (.map (B9 mv (S p) (.int .i64 (s.rows.length:Nat))))++[.row false [S p],.row false (strs s.lists++[S p])]):=by
   refine x0.sev' hr lC ⟨mv,?_,?_⟩ fun a ha a7=>?_;·rw[A7 _ _ lz,Ay jb,Ao n07,Ao n57];exact mv1
   ·rw[A7 _ _ lz,Ay jb,A8 jb]
   have hn':=x0.ne (a:=.n 7) (b:=a) (by show 7<8+s.rows.length;omega) ha (Ne.symm a7);rw[A7 _ _ lz] at hn';rcases Aes (BA L 5 (H.length+1) a) H.length with q | q
   ·rw[Ay jy,Ay jy,Ao hn']
   rw[A0 jy,A0 jy];simp only[Ag2]
  have x2:C7 L s H (BA L 5 (H.length+1)) {s with lists:=s.lists++[p],sv:=Do s.sv p s.rows.length} (((H.set (L (.n 5)) .dead).set (L (.n 0)) (.box [.d (.bool s.further),.lsl (L (.n 2)) 1 0 s.above.length,.lsl (L (.n 3)) 1 0 s.paths.length,.lsl (L (.n 4)) 1 0 s.rows.length,.lsl (H.length+1) 1 0 (s.lists.length+1),.mp (L (.n 6)),.mp (L (.n 7))])).set (L (.n 7)) (.map (B9 mv (S p) (.int .i64 (s.rows.length:Nat))))++[.row false [S p],.row false (strs s.lists++[S p])]) :=
   ⟨l1n,A7 _ _ lz,lC,fun i hi hr=>by rw[Ay iQ,Ao (hr _ (ok 7 lA)),Ao (hr _ (ok 0 lA)),Ao (hr _ (ok 5 lA))],
    fun a ha=>La lA (Lj (s':={s with lists:=s.lists++[p],sv:=Do s.sv p s.rows.length}) rfl rfl ha)⟩
  have x3:NoX (((H.set (L (.n 5)) .dead).set (L (.n 0)) (.box [.d (.bool s.further),.lsl (L (.n 2)) 1 0 s.above.length,.lsl (L (.n 3)) 1 0 s.paths.length,.lsl (L (.n 4)) 1 0 s.rows.length,.lsl (H.length+1) 1 0 (s.lists.length+1),.mp (L (.n 6)),.mp (L (.n 7))])).set (L (.n 7)) (.map (B9 mv (S p) (.int .i64 (s.rows.length:Nat))))++[.row false [S p],.row false (strs s.lists++[S p])]):=(((h0.set _ lC).set _ lC).set _ lC).app kE;generalize hS1:({s with lists:=s.lists++[p],sv:=Do s.sv p s.rows.length}:Ly)=S1 at *;have hS1r:S1.rows=s.rows:=kF
  have hS1i:S1.it=s.it:=kF
  obtain ⟨f,f0,fI,fT⟩:=Lb (Zz (BA L 5 (H.length+1)) S1 (((H.set (L (.n 5)) .dead).set (L (.n 0)) (.box [.d (.bool s.further),.lsl (L (.n 2)) 1 0 s.above.length,.lsl (L (.n 3)) 1 0 s.paths.length,.lsl (L (.n 4)) 1 0 s.rows.length,.lsl (H.length+1) 1 0 (s.lists.length+1),.mp (L (.n 6)),.mp (L (.n 7))])).set (L (.n 7)) (.map (B9 mv (S p) (.int .i64 (s.rows.length:Nat))))++[.row false [S p],.row false (strs s.lists++[S p])]) p kids) (Ad7 S1 p kids) kids.length ((BA L 5 (H.length+1)),((H.set (L (.n 5)) .dead).set (L (.n 0)) (.box [.d (.bool s.further),.lsl (L (.n 2)) 1 0 s.above.length,.lsl (L (.n 3)) 1 0 s.paths.length,.lsl (L (.n 4)) 1 0 s.rows.length,.lsl (H.length+1) 1 0 (s.lists.length+1),.mp (L (.n 6)),.mp (L (.n 7))])).set (L (.n 7)) (.map (B9 mv (S p) (.int .i64 (s.rows.length:Nat))))++[.row false [S p],.row false (strs s.lists++[S p])])
   br (fun k hk x hx=>Um hk hx)
  refine ⟨(f kids.length).1,(f kids.length).2,Ctr.bodyI (M:=M0) Ak Tryz.func97 rfl AdT (fI _ (Aex _)).2.2.ok ?_,(fI _ (Aex _)).1,x2.trans (fI _ (Aex _)).2.1,(fI _ (Aex _)).2.2⟩;simp(disch:=try exact aa)only[Tryz.f97,hB,q0,q5,mv1,ks,v1,sl,AA,↓Ab,Ad,↓reduceIte,Qu,Qv];refine ⟨lD,?_⟩;refine Al.frI 26388279066627 (α:=Nat) (fun k=>kids.length-k) (fun k=>[(45,.d (.int .i64 k))]) (fun k=>(f k).2) (fun k=>k<=kids.length) 0 (Af7 _) ?_ ?_
  ·rw[f0];first
   | exact .slots jc
  intro k hkk;simp only[Bm,Aeg,Aen];rcases Aes k kids.length with hlt | hge
  ·obtain ⟨mi,t1,t2⟩:=fT k hlt;obtain ⟨i1,i2,i3⟩:=fI k hkk;generalize hHk:(f k).2=Hk at *;generalize hLk:(f k).1=Lk at *;obtain ⟨mi',m1,m2,m3⟩:=i1.items;have emi:mi=mi':=(by rw[t1] at m1;cases m1;rfl)
   subst emi;have r0:=i1.box;have k0:Lk (.n 0)=L (.n 0):=(by rw[i2.n0,l1n])
   rw[k0] at r0;have z0:=i1.lt (.n 0) eK;rw[k0] at z0;have z6:=i1.lt (.n 6) eM;have y06:=i1.ne (a:=.n 0) (b:=.n 6) eK eM lC;rw[k0] at y06;have kk:=m2.ok;have g:=Ca hlt;have hit:=Ly.itk_at S1 p kids k;have hil:((S1.itk p kids k).it p).length<=1000000000:=dV
   have hrl:(S1.itk p kids k).rows.length=s.rows.length:=dW;generalize hkd:kids.getD k noN=kd at *;obtain ⟨ka,kb,kc,kl⟩:=kd;have v2:=Ew (.sl 0 true []) mi (S p);rw[m3] at v2;by_cases he:(S1.itk p kids k).it p=[]
   ·rw[if_pos he] at v2;simp(disch:=try exact aa)only[hrl,r0,t1,kk,v2,g,nl,ndC,AA,↓Ab,Ad,↓reduceIte,Qu,Qw,Qz];obtain ⟨cf,hcf⟩:=CB [L (.n 0),Lk (.n 6),Hk.length,Hk.length+1,Hk.length+2] jW;have c0:=hcf 0 _ rfl;have c1:=hcf 1 _ rfl;have c2:=hcf 2 _ rfl;have c3:=hcf 3 _ rfl;have c4:=hcf 4 _ rfl;refine ⟨ko,AF cf bY cN,k+1,hlt,iz,.inl ⟨?_,kV⟩⟩;show (f (k+1)).2=_
    rw[t2];exact pM
   rw[if_neg he] at v2;have zi:=i1.lt (.i p) he;have yi:=i1.item p he;have y0i:=i1.ne (a:=.n 0) (b:=.i p) eK he lC;rw[k0] at y0i;have y6i:=i1.ne (a:=.n 6) (b:=.i p) eM he lC;have el:=BM ((S1.itk p kids k).it p);simp(disch:=try exact aa)only[hrl,r0,t1,kk,v2,yi,el,g,nl,ndC,AA,↓Ab,Ad,↓reduceIte,Qu,Qw,Qz];obtain ⟨cf,hcf⟩:=CB [L (.n 0),Lk (.n 6),Lk (.i p),Hk.length,Hk.length+1,Hk.length+2] jW;have c0:=hcf 0 _ rfl;have c1:=hcf 1 _ rfl;have c2:=hcf 2 _ rfl;have c3:=hcf 3 _ rfl;have c4:=hcf 4 _ rfl;have c5:=hcf 5 _ rfl;refine ⟨ko,AF cf bZ cw,k+1,hlt,iz,.inl ⟨?_,kV⟩⟩;show (f (k+1)).2=_
   rw[t2];exact pT
  obtain rfl:k=kids.length:=lA
  simp(disch:=try exact aa)only[↓Ab,Ad];first
  | exact RetI.unit
 have e1:s.list p kids=({s with sv:=Do s.sv p s.rows.length}:Ly).itk p kids kids.length:=by unfold Ly.list Ly.itk;rw[if_neg hA,if_neg hB,Af1]
 rw[e1];have l1n:L (.n 0)=L (.n 0):=rfl;have x1:BT L {s with sv:=Do s.sv p s.rows.length} (H.set (L (.n 7)) (.map (B9 mv (S p) (.int .i64 (s.rows.length:Nat))))):=h.sev' hr lC ⟨mv,mv1,A8 l7⟩ fun a ha a7=>Ao (h.ne (ok 7 lA) ha (Ne.symm a7));have x2:C7 L s H L {s with sv:=Do s.sv p s.rows.length} (H.set (L (.n 7)) (.map (B9 mv (S p) (.int .i64 (s.rows.length:Nat))))) :=
  ⟨rfl,rfl,lC,fun i hi hr=>Ao (hr _ (ok 7 lA)),fun a ha=>.inl ⟨a,Lj (s':={s with sv:=Do s.sv p s.rows.length}) rfl rfl ha,rfl⟩⟩
 have x3:NoX (H.set (L (.n 7)) (.map (B9 mv (S p) (.int .i64 (s.rows.length:Nat))))):=h0.set _ lC;generalize hS1:({s with sv:=Do s.sv p s.rows.length}:Ly)=S1 at *;have hS1r:S1.rows=s.rows:=kF
 have hS1i:S1.it=s.it:=kF
 obtain ⟨f,f0,fI,fT⟩:=Lb (Zz L S1 (H.set (L (.n 7)) (.map (B9 mv (S p) (.int .i64 (s.rows.length:Nat))))) p kids) (Ad7 S1 p kids) kids.length (L,H.set (L (.n 7)) (.map (B9 mv (S p) (.int .i64 (s.rows.length:Nat)))))
  br (fun k hk x hx=>Um hk hx)
 refine ⟨(f kids.length).1,(f kids.length).2,Ctr.bodyI (M:=M0) Ak Tryz.func97 rfl AdT (fI _ (Aex _)).2.2.ok ?_,(fI _ (Aex _)).1,x2.trans (fI _ (Aex _)).2.1,(fI _ (Aex _)).2.2⟩;simp(disch:=try exact aa)only[Tryz.f97,q0,mv1,ks,v1,↓Ab,Ad,↓reduceIte,Qu,Qv];refine ⟨lD,?_⟩;refine Al.frI 26388279066627 (α:=Nat) (fun k=>kids.length-k) (fun k=>[(45,.d (.int .i64 k))]) (fun k=>(f k).2) (fun k=>k<=kids.length) 0 (Af7 _) ?_ ?_
 ·rw[f0];first
  | exact .slots jc
 intro k hkk;simp only[Bm,Aeg,Aen];rcases Aes k kids.length with hlt | hge
 ·obtain ⟨mi,t1,t2⟩:=fT k hlt;obtain ⟨i1,i2,i3⟩:=fI k hkk;generalize hHk:(f k).2=Hk at *;generalize hLk:(f k).1=Lk at *;obtain ⟨mi',m1,m2,m3⟩:=i1.items;have emi:mi=mi':=by rw[t1] at m1;cases m1;rfl
  subst emi;have r0:=i1.box;have k0:Lk (.n 0)=L (.n 0):=by rw[i2.n0,l1n]
  rw[k0] at r0;have z0:=i1.lt (.n 0) eK;rw[k0] at z0;have z6:=i1.lt (.n 6) eM;have y06:=i1.ne (a:=.n 0) (b:=.n 6) eK eM lC;rw[k0] at y06;have kk:=m2.ok;have g:=Ca hlt;have hit:=Ly.itk_at S1 p kids k;have hil:((S1.itk p kids k).it p).length<=1000000000:=dV
  have hrl:(S1.itk p kids k).rows.length=s.rows.length:=dW
  generalize hkd:kids.getD k noN=kd at *;obtain ⟨ka,kb,kc,kl⟩:=kd;have v2:=Ew (.sl 0 true []) mi (S p);rw[m3] at v2;by_cases he:(S1.itk p kids k).it p=[]
  ·rw[if_pos he] at v2;simp(disch:=try exact aa)only[hrl,r0,t1,kk,v2,g,nl,ndC,AA,↓Ab,Ad,↓reduceIte,Qu,Qw,Qz];obtain ⟨cf,hcf⟩:=CB [L (.n 0),Lk (.n 6),Hk.length,Hk.length+1,Hk.length+2] jW;have c0:=hcf 0 _ rfl;have c1:=hcf 1 _ rfl;have c2:=hcf 2 _ rfl;have c3:=hcf 3 _ rfl;have c4:=hcf 4 _ rfl;refine ⟨ko,AF cf bY cN,k+1,hlt,iz,.inl ⟨?_,kV⟩⟩;show (f (k+1)).2=_
   rw[t2];exact pM
  rw[if_neg he] at v2;have zi:=i1.lt (.i p) he;have yi:=i1.item p he;have y0i:=i1.ne (a:=.n 0) (b:=.i p) eK he lC;rw[k0] at y0i;have y6i:=i1.ne (a:=.n 6) (b:=.i p) eM he lC;have el:=BM ((S1.itk p kids k).it p);simp(disch:=try exact aa)only[hrl,r0,t1,kk,v2,yi,el,g,nl,ndC,AA,↓Ab,Ad,↓reduceIte,Qu,Qw,Qz];obtain ⟨cf,hcf⟩:=CB [L (.n 0),Lk (.n 6),Lk (.i p),Hk.length,Hk.length+1,Hk.length+2] jW;have c0:=hcf 0 _ rfl;have c1:=hcf 1 _ rfl;have c2:=hcf 2 _ rfl;have c3:=hcf 3 _ rfl;have c4:=hcf 4 _ rfl;have c5:=hcf 5 _ rfl;refine ⟨ko,AF cf bZ cw,k+1,hlt,iz,.inl ⟨?_,kV⟩⟩;show (f (k+1)).2=_
  rw[t2];exact pT
 obtain rfl:k=kids.length:=lA
 simp(disch:=try exact aa)only[↓Ab,Ad];first
 | exact RetI.unit
mutual
def nsz:Nd->Nat
 | .mk _ _ _ l=>1+BG l
def BG:List Nd->Nat
 | []=>0
 | n::r=>nsz n+BG r
end
def CK (n:Nd):nsz n=1+BG n.kids:=jU
def Cv (n:Nd):0<nsz n:=by rw[CK];omega
def Df:∀ {l:List Nd} {n:Nd},n∈l->nsz n<=BG l
 | [],n,h=>lx
 | x::r,n,h=>by
   rcases Aer.1 h with rfl | h
   ·rw[BG];omega
   have:=Df h;rw[BG];omega
def CP:∀ l:List Nd,l.length<=BG l
 | []=>Aex _
 | x::r=>by have:=CP r;have:=Cv x;rw[BG,Af2];omega
mutual
def Hp:Nd->Prop
 | .mk k _ ks l=>(k=6->ks.length=l.length)/\(∀ s∈ks,s.length<=100000)/\NF l
def NF:List Nd->Prop
 | []=>True
 | n::r=>Hp n/\NF r
end
def TV (n:Nd):Hp n=((n.kind=6->n.keys.length=n.kids.length)/\(∀ s∈n.keys,s.length<=100000)/\NF n.kids):=jU
def Ju:∀ {l:List Nd},NF l->∀ n∈l,Hp n
 | [],_,n,h=>lx
 | x::r,h,n,hn=>by
   rcases Aer.1 hn with rfl | hn
   ·exact h.1
   exact Ju h.2 n hn
def partO (n:Nd) (path:List UInt8):List Pt:=if n.kind=6 then DT n (path++[46]) else if n.kind=5 then [.l path n.kids] else [.c path (Cf n)]
def PK:∀ (l:List Nd) (front:List UInt8) (ks:List (List UInt8)),ks.length=l.length->G4 l front ks=(AgO l.length).flatMap fun i=>partO (l.getD i noN) (front++ks.getD i [])
 | [],front,ks,h=>rfl
 | n::r,front,ks,h=>by
   cases ks with
   | nil=>simp at h
   | cons k kr =>have ih:=PK r front kr ji;rw[FU,Af2,List.range_succ_eq_map,AgR,List.flatMap_map,List.tail_cons,ih];rfl
def Ly.kid (s:Ly) (l:List Nd) (front:List UInt8) (ks:List (List UInt8)) (k:Nat):Ly:=s.parts ((AgO k).flatMap fun i=>partO (l.getD i noN) (front++ks.getD i []))
def Ly.kid_zero (s:Ly) (l:List Nd) (front:List UInt8) (ks:List (List UInt8)):s.kid l front ks 0=s:=rfl
def Ly.kid_succ (s:Ly) (l:List Nd) (front:List UInt8) (ks:List (List UInt8)) (k:Nat):s.kid l front ks (k+1)=(s.kid l front ks k).parts (partO (l.getD k noN) (front++ks.getD k [])):=by unfold Ly.kid;rw[List.range_succ,List.flatMap_append,Ly.parts_app];simp
def Ly.kid_all (s:Ly) (l:List Nd) (front:List UInt8) (ks:List (List UInt8)) (h:ks.length=l.length):s.kid l front ks l.length=s.parts (G4 l front ks):=by rw[PK l front ks h];rfl
structure LyB (s:Ly) (B:Nat):Prop where
 paths:s.paths.length<=B
 lists:s.lists.length<=B
 rows:s.rows.length<=1000000000
 it:∀ p,(s.it p).length<=B
def LyB.single {s:Ly} {B:Nat} (h:LyB s B) (p:List UInt8) (x:Cel):LyB (s.single p x) (B+1):=by
 refine ⟨?_,Ahi h.lists,by rw[s.single_rows];exact h.rows,fun q=>Ahi (h.it q)⟩;have:=h.paths;show (if p∈s.paths then s.paths else s.paths++[p]).length<=B+1
 split;·omega
 simp;omega
def LyB.list {s:Ly} {B:Nat} (h:LyB s B) (p:List UInt8) (kids:List Nd):LyB (s.list p kids) (B+1+kids.length):=by
 have h1:=h.lists;have h2:=h.paths;unfold Ly.list;split;·exact ⟨lA,lA,h.rows,fun q=>by have:=h.it q;omega⟩
 refine ⟨by show s.paths.length<=_;omega,?_,h.rows,fun q=>?_⟩
 ·show (if s.sv p=0 then s.lists++[p] else s.lists).length<=_
  split;·simp;omega
  omega
 show (Do s.it p (s.it p++kids.map fun k=>((s.rows.length:Int)-1,k)) q).length<=_
 by_cases e:q=p;·subst e;rw[DO,Aeu,Ag5];have:=h.it q;omega
 rw[Dn _ _ e];have:=h.it q;omega
def LyB.mono {s:Ly} {B C:Nat} (h:LyB s B) (hc:B<=C):LyB s C:=⟨Agv h.paths hc,Agv h.lists hc,h.rows,fun p=>Agv (h.it p) hc⟩
mutual
def LyB.parts:∀ (n:Nd) (front:List UInt8) {s:Ly} {B:Nat},LyB s B->LyB (s.parts (DT n front)) (B+nsz n)
 | .mk k t ks l,front,s,B,h=>by have:=LyB.partsL l front ks h;exact this.mono (by rw[nsz];omega)
def LyB.partsL:∀ (l:List Nd) (front:List UInt8) (ks:List (List UInt8)) {s:Ly} {B:Nat},LyB s B->LyB (s.parts (G4 l front ks)) (B+BG l)
 | [],front,ks,s,B,h=>h
 | n::r,front,ks,s,B,h=>by
   rw[FU,Ly.parts_app];have h1:LyB (s.parts (if n.kind=6 then DT n (front++ks.headD []++[46]) else if n.kind=5 then [.l (front++ks.headD []) n.kids] else [.c (front++ks.headD []) (Cf n)])) (B+nsz n):=by
    split;·exact LyB.parts n _ h
    split;·rw[Ly.parts_one];have:=CP n.kids;have e:=CK n;exact (h.list _ n.kids).mono lA
    rw[Ly.parts_one];have:=Cv n;exact (h.single _ _).mono lA
   have h2:=LyB.partsL r front ks.tail h1;exact h2.mono (by rw[BG];omega)
end
def LyB.partO {s:Ly} {B:Nat} (h:LyB s B) (n:Nd) (path:List UInt8):LyB (s.parts (partO n path)) (B+nsz n):=by
 unfold Go.Proofs.YtmidaophnbdcdaaGreatDoor.partO;split;·exact LyB.parts n _ h
 split;·rw[Ly.parts_one];have:=CP n.kids;have e:=CK n;exact (h.list _ n.kids).mono lA
 rw[Ly.parts_one];have:=Cv n;exact (h.single _ _).mono lA
def Ud (l:List Nd) (k:Nat):Nat:=BG (l.take k)
def Lo {l:List Nd} {k:Nat} (h:k<l.length):Ud l (k+1)=Ud l k+nsz (l.getD k noN):=by
 have app:∀ (a b:List Nd),BG (a++b)=BG a+BG b:=by
  intro a b;induction a with
  | nil=>simp[BG]
  | cons x r ih=>simp only[AgV,BG,ih];omega
 unfold Ud;rw[AgS,AbY h,app,AbZ,AbY h];simp[BG]
def Xy (l:List Nd):∀ k,Ud l k<=BG l:=by
 intro k;have app:∀ (a b:List Nd),BG (a++b)=BG a+BG b:=by
  intro a b;induction a with
  | nil=>simp[BG]
  | cons x r ih=>simp only[AgV,BG,ih];omega
 have:=app (l.take k) (l.drop k);rw[List.take_append_drop] at this;unfold Ud;omega
def LyB.kid {s:Ly} {B:Nat} (h:LyB s B) (l:List Nd) (front:List UInt8) (ks:List (List UInt8)):∀ k,k<=l.length->LyB (s.kid l front ks k) (B+Ud l k)
 | 0,_=>by rw[Ly.kid_zero];exact h.mono lA
 | k+1,hk=>by rw[Ly.kid_succ,Lo lA,<-Nat.add_assoc];exact (LyB.kid h l front ks k lA).partO _ _
def Ly.kid_rows (s:Ly) (l:List Nd) (front:List UInt8) (ks:List (List UInt8)) (k:Nat):(s.kid l front ks k).rows.length=s.rows.length:=s.parts_rows _
end
section
open Go Go.Proofs Go.Abs
variable {G:Ah}
def D2:List UInt8:=[116,114,117,101]
def Ee:List UInt8:=[102,97,108,115,101]
def Cq (k:Int) (t:List UInt8):Bool:=if k=2 then decide (t=D2\/t=Ee) else if k=3 then Num.decOk t else if k=4 then AN t else decide (t=[])
def R6 (hT:HT G) (hG:Num.HG G) (n:Nd) (hs:n.text.length<=1000000000):Ctr TP G 73 [.d (NdD n)] [] (.d (.bool (Cq n.kind n.text))) []:=by
 obtain ⟨k,t,ks,l⟩:=n;obtain ⟨r,hr⟩:∃ r,r=Cq k t:=⟨_,rfl⟩;show Ctr _ _ _ _ _ (.d (.bool (Cq k t))) _
 replace hs:t.length<=1000000000:=hs;rw[<-hr];unfold Cq at hr;refine Ctr.pure (M:=M0) Ak Tryz.func73 rfl go73 ?_;by_cases k2:k=2
 ·subst k2;rw[if_pos rfl] at hr;simp(disch:=try exact aa)only[Af,ndC,Tryz.f73,↓Ab,Ad,↓reduceIte,↓Qe,Qu,Qv];rw[hr];unfold D2 Ee;refine ⟨fun h1=>?_,fun h1=>?_⟩;·exact decide_eq_decide.2 ⟨fun h2=>.inr h2,fun h2=>h2.resolve_left h1⟩
  exact (decide_eq_true (Or.inl h1)).symm
 rw[if_neg k2] at hr;by_cases k3:k=3
 ·subst k3;rw[if_pos rfl] at hr;subst hr;simp(disch:=try exact aa)only[ndC,Tryz.f73,↓Ab,Ad,↓reduceIte,Qu,Qv];refine Aa.pure (Num.decimalF_spec hG t lA) ?_;cases Num.decOk t;·simp(disch:=try exact aa)only[Num.Zf,↓Ab,Ad,↓reduceIte,↓Qe,Qu]
  simp(disch:=try exact aa)only[Num.Frac,↓Ab,Ad,↓reduceIte,↓Qe,Qu]
 rw[if_neg k3] at hr;by_cases k4:k=4;·subst k4;rw[if_pos rfl] at hr;subst hr;simp(disch:=try exact aa)only[ndC,Tryz.f73,↓Ab,Ad,↓reduceIte,Qu,Qv];refine Aa.pure (N1 hT t hs) ?_;simp only[↓Ab,Ad,↓Qe]
 rw[if_neg k4] at hr;simp(disch:=try exact aa)only[Af,ndC,k2,k3,k4,Tryz.f73,↓Ab,Ad,↓reduceIte,↓Qe,Qu,Qv];exact hr.symm
end
namespace Dst
def c1 (a b:Int):Nat:=if a=b then 0 else 1
abbrev bl (x y:List UInt8):Bool:=Op.bytesLess x y
def bl_irrefl:∀ x:List UInt8,bl x x=false
 | []=>rfl
 | a::x=>by
   show (decide (a<a) || (a == a && bl x x))=false
   rw[bl_irrefl x];simp
def Aed {a b:UInt8}:a<b↔a.toNat<b.toNat:=UInt8.lt_iff_toNat_lt
def S7 {a b:UInt8} {x y:List UInt8}:bl (a::x) (b::y)=true↔a.toNat<b.toNat\/(a=b/\bl x y=true):=by
 show (decide (a<b) || (a == b && bl x y))=true↔_
 simp[Aed]
def KH:∀ {x y z:List UInt8},bl x y=true->bl y z=true->bl x z=true
 | [],_::_,[],_,h=>lx
 | _::_,_::_,[],_,h=>lx
 | [],[],_,h,_=>lx
 | _::_,[],_,h,_=>lx
 | [],_::_,_::_,_,_=>rfl
 | a::x,b::y,c::z,h1,h2=>by
   rw[S7] at *;rcases h1 with h1 | ⟨rfl,h1⟩
   ·rcases h2 with h2 | ⟨rfl,h2⟩
    ·left;omega
    exact .inl h1
   rcases h2 with h2 | ⟨rfl,h2⟩
   ·exact .inl h2
   exact .inr ⟨rfl,KH h1 h2⟩
def KI:∀ {x y:List UInt8},bl x y=false->bl y x=false->x=y
 | [],[],_,_=>rfl
 | [],_::_,h,_=>lx
 | _::_,[],_,h=>lx
 | a::x,b::y,h1,h2=>by have g1:¬(bl (a::x) (b::y)=true):=(by rw[h1];decide);have g2:¬(bl (b::y) (a::x)=true):=(by rw[h2];decide);rw[S7] at g1 g2;have e:a=b:=UInt8.toNat_inj.1 lA;subst e;have:x=y:=KI (by cases e:bl x y<;>simp_all) (by cases e:bl y x<;>simp_all);rw[this]
def Asc (l:List (List UInt8)):Prop:=l.Pairwise fun x y=>bl x y=true
def XU:∀ {l m:List (List UInt8)},Asc l->Asc m->(∀ s,s∈l↔s∈m)->l=m
 | [],[],_,_,_=>rfl
 | [],y::m,_,_,h=>by have:=(h y).2 lC;cases this
 | x::l,[],_,_,h=>by have:=(h x).1 lC;cases this
 | x::l,y::m,h1,h2,h=>by
   obtain ⟨p1,p2⟩:=Aew.1 h1;obtain ⟨q1,q2⟩:=Aew.1 h2;have e:x=y:=by
    rcases Aer.1 ((h x).1 lC) with e | e
    ·exact e
    rcases Aer.1 ((h y).2 lC) with e' | e'
    ·exact e'.symm
    have:=KH (p1 y e') (q1 x e);exact qq
   subst e;rw[XU p2 q2 fun s=>?_];constructor
   ·intro hs;rcases Aer.1 ((h s).1 (by simp[hs])) with e | e
    ·subst e;have:=p1 s hs;exact qq
    exact e
   intro hs;rcases Aer.1 ((h s).2 (by simp[hs])) with e | e
   ·subst e;have:=q1 s hs;exact qq
   exact e
def Jn (s:List UInt8):List (List UInt8)->Nat
 | []=>0
 | x::l=>if bl x s=true then Jn s l+1 else 0
def Oh (l:List (List UInt8)) (s:List UInt8):List (List UInt8) :=
 if Jn s l<l.length/\l.getD (Jn s l) []=s then l else l.take (Jn s l)++s::l.drop (Jn s l)
def P7 (x:List UInt8) (l:List (List UInt8)) (s:List UInt8):Oh (x::l) s=if bl x s=true then x::Oh l s else if x=s then x::l else s::x::l:=by
 unfold Oh;rw[Jn];by_cases h:bl x s=true
 ·rw[if_pos h,if_pos h];by_cases h2:Jn s l<l.length/\l.getD (Jn s l) []=s;·rw[if_pos h2,if_pos iS]
  rw[if_neg h2,if_neg iS];simp
 rw[if_neg h,if_neg h];simp
def N5 (s t:List UInt8):∀ l:List (List UInt8),t∈Oh l s↔t=s\/t∈l
 | []=>by simp[Oh,Jn]
 | x::l=>by
   have ih:=N5 s t l;rw[P7];split;·simp only[Aer,ih];exact or_left_comm
   split;·rename_i e;subst e;simp
   simp
def U1 (s:List UInt8):∀ {l:List (List UInt8)},Asc l->Asc (Oh l s)
 | [],_=>by simp[Oh,Jn,Asc]
 | x::l,h=>by
   obtain ⟨p1,p2⟩:=Aew.1 h;have ih:=U1 s (l:=l) p2;rw[P7];split
   ·rename_i hx;refine Aew.2 ⟨fun t ht=>?_,ih⟩;rcases (N5 s t l).1 ht with rfl | ht
    ·exact hx
    exact p1 t ht
   rename_i hx;split;·exact h
   rename_i hne;have hs:bl s x=true:=by
    cases e:bl s x with
    | true=>rfl
    | false=>exact absurd (KI iO e) hne
   refine Aew.2 ⟨fun t ht=>?_,h⟩;rcases Aer.1 ht with rfl | ht
   ·exact hs
   exact KH hs (p1 t ht)
def setL (l:List (List UInt8)):List (List UInt8):=l.foldl Oh []
def JB:∀ (l m:List (List UInt8)),Asc m->Asc (l.foldl Oh m)/\∀ t,t∈l.foldl Oh m↔t∈l\/t∈m
 | [],m,h=>⟨h,fun t=>lC⟩
 | s::l,m,h=>by
   obtain ⟨h1,h2⟩:=JB l (Oh m s) (U1 s h);refine ⟨h1,fun t=>?_⟩;rw[List.foldl_cons,h2 t,N5,Aer];constructor
   ·rintro (h | h | h);·exact .inl (.inr h)
    ·exact .inl (.inl h)
    exact .inr h
   rintro ((h | h) | h);·exact .inr (.inl h)
   ·exact .inl h
   exact .inr (.inr h)
def asc_setL (l:List (List UInt8)):Asc (setL l):=(JB l [] List.Pairwise.nil).1
def mem_setL {l:List (List UInt8)} {t:List UInt8}:t∈setL l↔t∈l:=by rw[setL,(JB l [] List.Pairwise.nil).2];simp
def dedup:List (List UInt8)->List (List UInt8)
 | x::y::l=>if x=y then dedup (y::l) else x::dedup (y::l)
 | l=>l
def Lq {t:List UInt8}:∀ {l:List (List UInt8)},t∈dedup l↔t∈l
 | []=>by simp[dedup]
 | [x]=>by simp[dedup]
 | x::y::l=>by
   have ih:=Lq (t:=t) (l:=y::l);rw[dedup];split;·rename_i e;subst e;rw[ih];simp
   rw[Aer,ih,<-Aer]
def Rc:∀ {l:List (List UInt8)},l.Pairwise (fun x y=>bl y x=false)->Asc (dedup l)
 | [],_=>by simp[dedup,Asc]
 | [x],_=>by simp[dedup,Asc]
 | x::y::l,h=>by
   obtain ⟨p1,p2⟩:=Aew.1 h;have ih:=Rc (l:=y::l) p2;rw[dedup];split;·exact ih
   rename_i hne;have hxy:bl x y=true:=by
    cases e:bl x y with
    | true=>rfl
    | false=>exact absurd (KI e (p1 y lC)) hne
   refine Aew.2 ⟨fun t ht=>?_,ih⟩;rcases Aer.1 (Lq.1 ht) with rfl | ht
   ·exact hxy
   have h2:=(Aew.1 p2).1 t ht;cases e:bl y t with
   | true=>exact KH hxy e
   | false=>rw[KI e h2] at hxy;exact hxy
def VH {l m:List (List UInt8)} (h:m.Pairwise (fun x y=>bl y x=false)) (hp:∀ t,t∈m↔t∈l):dedup m=setL l :=
 XU (Rc h) (asc_setL l) fun t=>by rw[Lq,mem_setL,hp]
end Dst
namespace Dst
open Go.Abs
end Dst
namespace Dst
open Go Go.Proofs Go.Abs
variable {G:Ah}
abbrev M0:B8:=fun _=>false
abbrev S (l:List UInt8):D:=.str (bs l)
def nums_set {l:List UInt8} {i:Nat} {c:UInt8}:(AB l).set i (c.toNat:Int)=AB (l.set i c):=by simp[AB,Ahw]
def strs (l:List (List UInt8)):List D:=l.map fun s=>S s
def strs_length {l:List (List UInt8)}:(strs l).length=l.length:=by simp[strs]
def strs_getD {l:List (List UInt8)} {i:Nat} (h:i<l.length):(strs l).getD i .nilp=S (l.getD i []):=by simp[strs,AbZ,h]
abbrev Ss (l:List (List UInt8)) (full:Bool):D:=.sl l.length full (strs l)
def mem_take_succ {l:List (List UInt8)} {i:Nat} {s:List UInt8} (h:i<l.length):s∈l.take (i+1)↔s∈l.take i\/l.getD i []=s:=by rw[AgS,AbY h,AbZ,AbY h];simp only[Option.toList_some,Aht,List.mem_singleton,Ahn];exact or_congr_right eq_comm
def has_spec (l:List (List UInt8)) (full:Bool) (s:List UInt8) (hl:l.length<=1000000):Ctr TP G 37 [.d (Ss l full),.d (S s)] [] (.d (.bool (decide (s∈l)))) []:=by
 refine Ctr.pure (M:=M0) Ak Tryz.func37 rfl go37 ?_;simp only[Tryz.f37,↓Ab,Ad,Qu,Qv];refine Al.fr 386 (α:=Nat) (fun i=>l.length-i) (fun i=>[(9,.d (.int .i64 i))]) (fun _=>[]) (fun i=>i<=l.length/\s∉l.take i) 0 ⟨Af7 _,lC⟩ ?_ ?_;·exact nD
 rintro i ⟨h1,h2⟩;have sl:=@strs_length l;simp only[Bm,Aeg,Aen];rcases Aes i l.length with h | h
 ·have g1:=strs_getD h;have hm:=@mem_take_succ l i s h;by_cases he:l.getD i []=s
  ·have hin:s∈l:=AgH (hm.2 (.inr he));rw[decide_eq_true hin];rw[he] at g1;simp(disch:=try exact aa)only[Af,sl,g1,beq_self_eq_true,↓Ab,Ad,↓reduceIte,↓Qe];try rfl
  have hne:(l.getD i [] == s)=false:=by simpa using he
  simp(disch:=try exact aa)only[Af,sl,g1,hne,↓Ab,Ad,↓reduceIte];exact ⟨i+1,⟨h,fun q=>(hm.1 q).elim h2 he⟩,iz,nE⟩
 obtain rfl:i=l.length:=lA
 rw[Af1] at h2;rw[decide_eq_false h2];exact pz
def Z1 {l:List (List UInt8)} {i:Nat} {s:List UInt8}:(strs l).set i (S s)=strs (l.set i s):=by simp[strs,Ahw]
def Vo {n:Nat}:AQ [.str .empty] n=strs (Ahu n []):=by rw[Nc,strs,List.map_replicate];rfl
def strs_app {l m:List (List UInt8)} {k:Nat}:(strs l).take k++strs m=strs (l.take k++m):=by simp[strs,List.map_take]
def mmod_spec (n m:Int) (hn1:-9223372036854775808<=n) (hn2:n<=9223372036854775807) (h0:0<m) (h1:m<4611686018427387904) :
  Ctr TP G 12 [.d (.int .i64 n),.d (.int .i64 m)] [] (.d (.int .i64 (n % m))) []:=by
 have e:=Ahk (a:=n) (b:=m);have p1:=Ag3 n (show m≠0 by omega);have p2:=AgN n h0;have c0:-m<n.tmod m/\n.tmod m<m:=⟨Ahc n h0,Ahd n h0⟩;have hh:(n.tmod m<0->n.tmod m+m=n % m)/\(¬n.tmod m<0->n.tmod m=n % m):=by
  rw[e];split;·exact ⟨fun h=>lA,fun _=>lA⟩
  exact ⟨fun h=>lA,fun h=>lA⟩
 clear e;refine Ctr.pure (M:=M0) Ak Tryz.func12 rfl go12 ?_;simp(disch:=try exact aa)only[Tryz.f12,↓Ab,Ad,↓Qe,Qu,Qv]
end Dst
namespace Dst
open Go Go.Proofs Go.Abs Go.RowKit Go.Sort Go.Shelf
def AdK {h:Held} {v:Value} {x:List UInt8} (r:RD h v (S x)):v=encStr x:=by
 cases r with
 | str s=>rfl
def strs_get {l:List (List UInt8)} {i:Nat} {x:D} (h:(strs l)[i]?=some x):∃ y,l[i]?=some y/\x=S y:=by
 simp only[strs,Ahh] at h;cases hl:l[i]? with
 | none=>simp[hl] at h
 | some y=>simp[hl] at h;exact ⟨y,rfl,h.symm⟩
def Yf {l:List (List UInt8)} {i:Nat} (h:i<l.length):(strs l)[i]?=some (S l[i]):=by simp[strs,AbY h]
def Z3 {P:Program} {G:Ah} {f:FuncId} (hg:An P f=true)
  (hs:∀ (blk off cap:Nat) (ss:List (List UInt8)) (w:World),Holds encStr w blk off ss.toArray->blk<w.heap.size->ss.length<4611686018427387904 ->
   Calls P f #[.slice (some ⟨blk,off,none⟩) ss.length cap] w fun e w'=>e=.returned (.tuple #[])/\∃ n os,w'=grow (putRow encStr (Sort.ahead w n) blk off (ss.mergeSort fun x y=>decide (x<=y)).toArray) os)
  (hn:∀ (p:Option Addr) (cap:Nat) (w:World),Calls P f #[.slice p 0 cap] w fun e w'=>e=.returned (.tuple #[])/\w'=w)
  (l:List (List UInt8)) (hl:l.length<=100000):Ctr P G f [.lsl 0 1 0 l.length] [.row false (strs l)] .undef [.row false (strs (l.mergeSort fun x y=>decide (x<=y)))]:=by
 refine ⟨hg,fun h ρ w vs s r=>?_⟩;obtain ⟨v,rfl,hv⟩:=r.inv1;have hb:=s.blk 0 _ rfl;rcases Nat.eq_zero_or_pos l.length with h0 | h0
 ·obtain rfl:l=[]:=List.eq_nil_of_length_eq_zero h0;have key:∃ p cap,v=.slice p 0 cap:=by
   cases hv with
   | lsl0 base=>exact ⟨_,_,rfl⟩
   | lsl b sz off n cap g S h1 h2 h3=>exact ⟨_,_,rfl⟩
  obtain ⟨p,cap,rfl⟩:=key;refine (hn p cap w).mono ?_;rintro e w' ⟨rfl,rfl⟩;exact ⟨_,h,ρ,rfl,by simpa using s,.undef _,A6.refl _ _ _⟩
 have key:∃ g S cap,v=.slice (some ⟨g,0,none⟩) l.length cap/\ρ 0=some (g,S)/\l.length<=cap/\0+cap*1<=S:=by
  generalize hk:l.length=k at hv h0;cases hv with
  | lsl0 base=>omega
  | lsl b sz off n cap g S h1 h2 h3=>exact ⟨g,S,cap,rfl,h1,h2,h3⟩
 obtain ⟨g,S,cap,rfl,hρ,hcap,hS⟩:=key;obtain ⟨hone,hb⟩:=hb;rcases hb with ⟨hno,_⟩ | ⟨g',S',c,E,fr,b1,b2,b3,b4,b5,b6,b7,b8⟩
 ·rw[hρ] at hno;cases hno
 rw[hρ] at b1;cases b1;have hlen:(strs l).length=l.length:=strs_length;have hcs:l.length<=c.size:=lA
 have hval:∀ (j:Nat) (hj:j<l.length),c[j]?=some (encStr l[j]):=fun j hj=>by have h1:c[j]?=some c[j]:=AgQ lA;rw[h1,AdK (b6 j _ _ (Yf hj) h1)]
 have hH:Holds encStr w g 0 l.toArray:=by
  intro j hj;have hj':j<l.length:=iM
  refine ⟨?_,?_⟩;·simp only[World.cell?,b2,AgW];rw[hval j hj'];simp[hj']
  simp only[World.frozen?,b2,AgW];have:=b4 j lA;simp only[Bool.and_eq_false_iff,decide_eq_false_iff_not];omega
 have hgl:g<w.heap.size:=(Array.getElem?_eq_some_iff.1 b2).1;refine (hs g 0 cap l w hH hgl lA).mono ?_;rintro e w' ⟨rfl,n,os,rfl⟩;generalize hm:l.mergeSort (fun x y=>decide (x<=y))=m;have hml:m.length=l.length:=by rw[<-hm];exact Ag6 l
 have other:∀ k,k≠g->k<w.heap.size->(grow (putRow encStr (Sort.ahead w n) g 0 m.toArray) os).heap[k]?=w.heap[k]?:=fun k hk hlt=>by
  rw[heap_grow_old _ _ ir];show (w.heap.modify g _)[k]?=_
  rw[Ag7,if_neg (Ne.symm hk)]
 have same:(grow (putRow encStr (Sort.ahead w n) g 0 m.toArray) os).heap[g]?=some (.cells (putCells encStr 0 m.toArray c) E fr):=by
  rw[heap_grow_old _ _ (by simpa using hgl)];show (w.heap.modify g _)[g]?=_
  rw[Ag7,if_pos rfl,b2];rfl
 have hsz:(putCells encStr 0 m.toArray c).size=c.size:=by simp[putCells]
 have hcell:∀ (j:Nat) (hj:j<m.length),(putCells encStr 0 m.toArray c)[j]?=some (encStr m[j]):=fun j hj=>by
  have:j<c.size:=lA
  simp[putCells,Array.getElem?_mapIdx,AgQ this,hj]
 have hprom:∀ b o u,h b o=some u->(grow (putRow encStr (Sort.ahead w n) g 0 m.toArray) os).cell? ⟨b,o,none⟩=some u:=by
  intro b o u e;have hlt:=s.held_lt e;have hne:b≠g:=fun e'=>by subst e';rw[b8 o (fun e=>lh)] at e;cases e
  have:=s.prom b o u e;rw[<-this];simp only[World.cell?,other b hne hlt]
 refine ⟨_,h,ρ,rfl,⟨hprom,s.glob,fun i b e=>?_,fun i k S2 e=>?_,fun i j k S1 S2 e1 e2 l1 l2=>?_⟩,.undef _,⟨rfl,rfl,rfl,lC,fun k hk hnk=>other k (fun e=>hnk 0 S (e▸hρ)) hk,Held.le_refl _,fun _ _ _ _=>rfl,Place.le_refl _,fun i k S2 e=>.inl ⟨i,S2,e⟩⟩⟩
 ·cases i with
  | zero =>
   simp[hp] at e;subst e;refine ⟨fun j x hx=>?_,.inr ⟨g,S,_,E,fr,hρ,same,by rw[hsz];exact b3,b4,by rw[strs_length,hml];omega,fun j x u hx hu=>?_,(fun e=>lh),fun j _=>b8 j (fun e=>lh)⟩⟩;·obtain ⟨y,_,rfl⟩:=strs_get hx;rfl
   obtain ⟨y,hy,rfl⟩:=strs_get hx;have hj:=(List.getElem?_eq_some_iff.1 hy).1;rw[hcell j hj] at hu;cases hu;have:m[j]=y:=by rw[AbY hj] at hy;exact Option.some.inj hy
   rw[this];exact .str _
  | succ i=>simp[hp] at e
 ·obtain ⟨q1,b,q2⟩:=s.dom i k S2 e;refine ⟨jW,?_⟩;cases i with
  | zero=>exact ⟨_,rfl⟩
  | succ i=>simp[hp] at q2
 have z:∀ i,BC (hp [.row false (strs m)]) i->i=0:=by
  rintro i ⟨b,q,_⟩;cases i with
  | zero=>rfl
  | succ i=>simp[hp] at q
 rw[z i l1,z j l2]
def Tryz.sortL_ren:Go.Shelf.Ren:=⟨fun | 6=>178 | 8=>210 | 9=>209 | 19=>224 | 20=>191 | 21=>226 | 22=>227 | 23=>228 | 24=>229 | 25=>230 | 26=>231 | 27=>232 | 28=>233 | 29=>234 | 36=>248 | 31=>249 | 32=>250 | 37=>251 | 38=>252 | 39=>253 | 41=>261 | n=>n,fun | 27=>26 | 29=>9 | 3=>3 | 32=>155 | 26=>26 | 0=>0 | 44=>187 | 46=>177 | 4=>4 | 36=>292 | 35=>291 | 41=>296 | 5=>5 | 9=>9 | 53=>311 | 57=>315 | 63=>320 | 64=>321 | n=>n,fun | n=>n⟩
def Tryz.sortL:Go.Proofs.SlLaysM.n6 TP Tryz.sortL_ren where
 mixed:=by kernel_rfl
 f6:=⟨Tryz.f178.name,by kernel_rfl,Tryz.func178.trans (congrArg some (by kernel_rfl))⟩
 f8:=Tryz.func210.trans (congrArg some (by kernel_rfl))
 f9:=⟨Tryz.f209.name,by kernel_rfl,Tryz.func209.trans (congrArg some (by kernel_rfl))⟩
 f19:=Tryz.func224.trans (congrArg some (by kernel_rfl))
 f20:=Tryz.func191.trans (congrArg some (by kernel_rfl))
 f21:=⟨Tryz.f226.name,by kernel_rfl,Tryz.func226.trans (congrArg some (by kernel_rfl))⟩
 f22:=⟨Tryz.f227.name,by kernel_rfl,Tryz.func227.trans (congrArg some (by kernel_rfl))⟩
 f23:=⟨Tryz.f228.name,by kernel_rfl,Tryz.func228.trans (congrArg some (by kernel_rfl))⟩
 f24:=⟨Tryz.f229.name,by kernel_rfl,Tryz.func229.trans (congrArg some (by kernel_rfl))⟩
 f25:=⟨Tryz.f230.name,by kernel_rfl,Tryz.func230.trans (congrArg some (by kernel_rfl))⟩
 f26:=⟨Tryz.f231.name,by kernel_rfl,Tryz.func231.trans (congrArg some (by kernel_rfl))⟩
 f27:=⟨Tryz.f232.name,by kernel_rfl,Tryz.func232.trans (congrArg some (by kernel_rfl))⟩
 f28:=⟨Tryz.f233.name,by kernel_rfl,Tryz.func233.trans (congrArg some (by kernel_rfl))⟩
 f29:=⟨Tryz.f234.name,by kernel_rfl,Tryz.func234.trans (congrArg some (by kernel_rfl))⟩
 f31:=Tryz.func249.trans (congrArg some (by kernel_rfl))
 f32:=Tryz.func250.trans (congrArg some (by kernel_rfl))
 f36:=⟨Tryz.f248.name,by kernel_rfl,Tryz.func248.trans (congrArg some (by kernel_rfl))⟩
 f37:=⟨Tryz.f251.name,by kernel_rfl,Tryz.func251.trans (congrArg some (by kernel_rfl))⟩
 f38:=⟨Tryz.f252.name,by kernel_rfl,Tryz.func252.trans (congrArg some (by kernel_rfl))⟩
 f39:=⟨Tryz.f253.name,by kernel_rfl,Tryz.func253.trans (congrArg some (by kernel_rfl))⟩
 f41:=⟨Tryz.f261.name,by kernel_rfl,Tryz.func261.trans (congrArg some (by kernel_rfl))⟩
 t0:=Tryz.underlying0
 a0:=Tryz.isAgg0
 z0:=Tryz.sizeOf0
 v0:=Tryz.zeroValue0
 t3:=Tryz.underlying3
 a3:=Tryz.isAgg3
 z3:=Tryz.sizeOf3
 v3:=Tryz.zeroValue3
 t4:=Tryz.underlying4
 a4:=Tryz.isAgg4
 z4:=Tryz.sizeOf4
 v4:=Tryz.zeroValue4
 t5:=Tryz.underlying5
 a5:=Tryz.isAgg5
 z5:=Tryz.sizeOf5
 v5:=Tryz.zeroValue5
 t9:=Tryz.underlying9
 a9:=Tryz.isAgg9
 z9:=Tryz.sizeOf9
 v9:=Tryz.zeroValue9
 t26:=Tryz.underlying26
 a26:=Tryz.isAgg26
 z26:=Tryz.sizeOf26
 v26:=Tryz.zeroValue26
 t27:=Tryz.underlying26
 a27:=Tryz.isAgg26
 z27:=Tryz.sizeOf26
 v27:=Tryz.zeroValue26
 t29:=Tryz.underlying9
 a29:=Tryz.isAgg9
 z29:=Tryz.sizeOf9
 v29:=Tryz.zeroValue9
 t32:=Tryz.underlying155
 a32:=Tryz.isAgg155
 z32:=Tryz.sizeOf155
 v32:=Tryz.zeroValue155
 t35:=Tryz.underlying291
 a35:=Tryz.isAgg291
 z35:=Tryz.sizeOf291
 v35:=Tryz.zeroValue291
 t36:=Tryz.underlying292
 a36:=Tryz.isAgg292
 z36:=Tryz.sizeOf292
 v36:=Tryz.zeroValue292
 t41:=Tryz.underlying296
 a41:=Tryz.isAgg296
 z41:=Tryz.sizeOf296
 v41:=Tryz.zeroValue296
 t44:=Tryz.underlying187
 a44:=Tryz.isAgg187
 z44:=Tryz.sizeOf187
 v44:=Tryz.zeroValue187
 t46:=Tryz.underlying177
 a46:=Tryz.isAgg177
 z46:=Tryz.sizeOf177
 v46:=Tryz.zeroValue177
 t53:=Tryz.underlying311
 a53:=Tryz.isAgg311
 z53:=Tryz.sizeOf311
 v53:=Tryz.zeroValue311
 t57:=Tryz.underlying315
 a57:=Tryz.isAgg315
 z57:=Tryz.sizeOf315
 v57:=Tryz.zeroValue315
 t63:=Tryz.underlying320
 a63:=Tryz.isAgg320
 z63:=Tryz.sizeOf320
 v63:=Tryz.zeroValue320
 t64:=Tryz.underlying321
 a64:=Tryz.isAgg321
 z64:=Tryz.sizeOf321
 v64:=Tryz.zeroValue321
def srt (l:List (List UInt8)):List (List UInt8):=l.mergeSort fun x y=>decide (x<=y)
def Vx {l:List (List UInt8)}:(srt l).length=l.length:=Ag6 l
def Yj {G:Ah} (l:List (List UInt8)) (hl:l.length<=100000):Ctr TP G 178 [.lsl 0 1 0 l.length] [.row false (strs l)] .undef [.row false (strs (srt l))] :=
 Z3 AeX (fun blk off cap ss w h1 h2 h3=>AnyM.slices_Sort_string Tryz.sortL blk off cap ss w h1 h2 h3) (fun p cap w=>AnyM.slices_Sort_string_none Tryz.sortL p cap w) l hl
end Dst
namespace Dst
def Oy (x:List UInt8):∀ l:List (List UInt8),dedup (l++[x])=if l.getLast? = some x then dedup l else dedup l++[x]
 | []=>by simp[dedup]
 | [y]=>by
   by_cases h:y=x;·subst h;simp[dedup]
   simp[dedup,h]
 | y::z::l=>by
   have ih:=Oy x (z::l);have hl:(y::z::l).getLast? = (z::l).getLast?:=(by simp[List.getLast?_cons_cons])
   rw[hl];show dedup (y::z::(l++[x]))=_
   rw[dedup,dedup];have ih':dedup (z::(l++[x]))=if (z::l).getLast? = some x then dedup (z::l) else dedup (z::l)++[x]:=ih
   rw[ih'];split;·split<;>rfl
   split;·rfl
   rfl
def Ox {l:List (List UInt8)} {i:Nat} (h0:1<=i) (h:i<l.length):dedup (l.take (i+1))=if l.getD (i-1) []=l.getD i [] then dedup (l.take i) else dedup (l.take i)++[l.getD i []]:=by
 have e:l.take (i+1)=l.take i++[l.getD i []]:=by rw[AgS,AbY h,AbZ,AbY h];rfl
 have hl:(l.take i).getLast? = some (l.getD (i-1) []):=by rw[List.getLast?_eq_getElem?,Af0,List.getElem?_take,if_pos lA,show min i l.length-1=i-1 by omega,AbZ,AbY lA];rfl
 rw[e,Oy,hl];simp only[Option.some.injEq]
end Dst
end Go.Proofs.YtmidaophnbdcdaaGreatDoor
