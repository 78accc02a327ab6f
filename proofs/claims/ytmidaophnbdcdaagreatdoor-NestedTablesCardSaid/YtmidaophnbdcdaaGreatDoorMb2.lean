/-
  Contracts of the functions, one after another.
-/
import Derived.Test.YtmidaophnbdcdaaGreatDoorMb1
set_option linter.all false
open Go.Abs renaming Bm->HW,DN->BW,CK->SW,Aw->AW,B5->sA,Ap->kZ
open Go.Proofs.Tryz renaming prog->TP
set_option maxHeartbeats 4000000
set_option maxRecDepth 100000
open Go.Abs renaming Ed->Qe
open Nat renaming reduceAdd->Qu,reduceSub->Qv,reduceMul->Qw,reducePow->Qx,reduceDiv->Qy,reduceMod->Qz,reduceEqDiff->QI,reduceBEq->QK
open Int renaming reduceAdd->QA,reduceSub->QB,reduceMul->QC,reducePow->QD,reduceNeg->QE,reduceToNat->QF,reduceLT->QG,reduceLE->QH
open List renaming getD_eq_getElem?_getD->AaZ,take_of_length_le->Ac7,replicate->Adk,getElem?_append_right->Adm,length_eq_zero_iff->Ae6,set_append_right->Ae7,getElem?_append_left->Afe,replicate_succ->Aff,mem_cons->Afg,append_assoc->Afj,drop_of_length_le->Afk,getElem?_drop->Afr,drop_eq_getElem_cons->Aft,not_mem_nil->Afu,getElem?_eq_none->Afz,set_cons_zero->AfD,getElem?_take->AfE,take_length->AfI,cons_append->AfJ,take_left'->AfN,nodup_nil->AfQ
open Nat renaming mul_comm->Aa0,mul_le_mul_right->Ada,mul_assoc->Adf,add_mul->Adi,pow_le_pow_right->Adj,mod_lt->Adl,reduceMod->Adn,reduceDiv->Ado,pow_succ->Adp,lt_of_lt_of_le->Adq,mod_eq_of_lt->Aet,mul_add->AeI,div_div_eq_div_mul->AeJ,mul_le_mul_left->AeK,mod_add_div->AeL,add_zero->AeQ,div_eq_of_lt->AeR,div_lt_iff_lt_mul->AeT,add_sub_cancel_left->AeU,one_mul->Ae8,le_refl->Afc,mul_zero->Afd,two_pow_pos->Afh,sub_self->Afi,gcd->Afl,log2_lt->Afm,add_mul_div_left->Afn,pow_add->Afo,mul_lt_mul_of_pos_right->Afp,eq_zero_or_pos->Afq,add_mul_mod_self_left->Afs,le_of_lt->Afv,zero_add->Afw,lt_trans->Afx,gcd_comm->Afy,le_div_iff_mul_le->AfA,mul_one->AfB,add_sub_cancel->AfC,mul_right_comm->AfF,lt_of_le_of_lt->AfG,le_trans->AfH,mul_add_div->AfK,div_le_self->AfL,min_eq_left->AfM,mul_le_mul->AfP,add_comm->AfR,zero_mul->AfS,zero_le->AfT,pow_pos->AfU
open Int renaming ofNat_tdiv->AfO
namespace Go.Proofs.YtmidaophnbdcdaaGreatDoor
namespace Num
open Go Go.Proofs Go.Abs
variable {G:Ah}
def AeN (h x d:Nat) (hh:h<d) (hd:d<B) (hx:x<B):Ctr TP G 223 [.d (.int .u32 h),.d (.int .u32 x),.d (.int .u32 d)] []
  (.d (.tup [.int .u32 ((h*B+x) / d:Nat),.int .u32 ((h*B+x) % d:Nat)])) []:=by
 refine Ctr.pure (M:=M0) Am Tryz.func223 rfl Adu ?_;have hq:=Mh hh hx;simp only[B] at *;simp(disch:=(try simp only[Ab]);omega)only[Tryz.f223,↓Aa,Ac,↓reduceIte,↓Qe,Qu,Qv,QD,QF];refine ⟨by rfl,?_⟩;have hm:(h*4294967296+x) % d<d:=Adl _ (by omega);rw[Zx (by omega) hx,<-AfO,<-Int.ofNat_tmod,Ac3,D0,D0,Aet (a:=(h*4294967296+x) / d) (by omega),Aet hq,Aet (by omega)]
def Fp (n:Nat) (hn:n<18446744073709551616):Ctr TP G 138 [.d (.int .u64 n)] [] (.d (W (toW n))) []:=by
 refine Ctr.pure (M:=M0) Am Tryz.func138 rfl Aeg ?_;simp(disch:=(try simp only[Ab]);omega)only[Tryz.f138,↓Aa,Ac,↓reduceIte,Qu,Qv,Qz,QD,QF];refine Ad.frozenE (Fh [n % B,n / B] ?_ (by simp)) ?_ ?_
 ·intro x hx;simp only[Afg,Afu,or_false] at hx;rcases hx with rfl | rfl
  ·exact Adl _ (by decide)
  simp only[B];omega
 ·rw[D0];rfl
 have:val [n % B,n / B]=n:=by simp only[val,Afd,AeQ];exact AeL n B
 rw[this];simp(disch:=(try simp only[Ab]);omega)only[↓Aa,Ac,↓reduceIte,↓Qe]
def Aby:List UInt8:=[0,1,2,2,3,3,3,3,4,4,4,4,4,4,4,4,5,5,5,5,5,5,5,5,5,5,5,5,5,5,5,5,6,6,6,6,6,6,6,6,6,6,6,6,6,6,6,6,6,6,6,6,6,6,6,6,6,6,6,6,6,6,6,6,7,7,7,7,7,7,7,7,7,7,7,7,7,7,7,7,7,7,7,7,7,7,7,7,7,7,7,7,7,7,7,7,7,7,7,7,7,7,7,7,7,7,7,7,7,7,7,7,7,7,7,7,7,7,7,7,7,7,7,7,7,7,7,7,8,8,8,8,8,8,8,8,8,8,8,8,8,8,8,8,8,8,8,8,8,8,8,8,8,8,8,8,8,8,8,8,8,8,8,8,8,8,8,8,8,8,8,8,8,8,8,8,8,8,8,8,8,8,8,8,8,8,8,8,8,8,8,8,8,8,8,8,8,8,8,8,8,8,8,8,8,8,8,8,8,8,8,8,8,8,8,8,8,8,8,8,8,8,8,8,8,8,8,8,8,8,8,8,8,8,8,8,8,8,8,8,8,8,8,8,8,8,8,8,8,8,8,8,8,8,8,8]
def N9 (s:ByteArray) (hs:s.data.toList=Aby):s.size=256/\∀ i,i<256->ID s i=((if i=0 then 0 else i.log2+1:Nat):Int):=by
 refine ⟨by rw[ByteArray.size,<-Array.length_toList,hs];decide +kernel,fun i hi=>?_⟩;have:∀ i:Fin 256,((Aby.getD i.val 0).toNat:Int)=((if i.val=0 then 0 else i.val.log2+1:Nat):Int):=by decide +kernel
 unfold ID;rw[hs];exact this ⟨i,hi⟩
def IW {s:ByteArray} (h:s.data.toList=Aby):s.size=256:=(N9 s h).1
def LG {s:ByteArray} {i:Int} (h:s.data.toList=Aby) (h0:0<=i) (h1:i<256):ID s i.toNat=((if i.toNat=0 then 0 else i.toNat.log2+1:Nat):Int):=(N9 s h).2 _ (by omega)
def Adc (n:Nat) (hn:n<B):Ctr TP G 224 [.d (.int .u32 n)] [] (.d (.int .i64 (if n=0 then 0 else n.log2+1:Nat))) []:=by
 refine Ctr.pure (M:=M0) Am Tryz.func224 rfl Adt ?_;simp only[B] at *;have l24:(256:Int)<=n / 65536->n≠0/\(n / 65536 / 256)≠0/\n.log2=24+(n / 65536 / 256).log2:=fun h=>by
  have h1:n / 2^24≠0:=by omega
  have:=JJ h1;rw[show (2:Nat)^24=65536*256 from rfl,<-AeJ] at this;exact ⟨by omega,by omega,this⟩
 have l16:(65536:Int)<=n->n≠0/\(n / 65536)≠0/\n.log2=16+(n / 65536).log2:=fun h=>by
  have h1:n / 2^16≠0:=by omega
  exact ⟨by omega,by omega,JJ h1⟩
 have l8:(256:Int)<=n->n≠0/\(n / 256)≠0/\n.log2=8+(n / 256).log2:=fun h=>by
  have h1:n / 2^8≠0:=by omega
  exact ⟨by omega,by omega,JJ h1⟩
 simp(disch:=(try simp only[Ab]);omega)only[Tryz.f224,↓Aa,Ac,↓reduceIte,↓Qe,Qv,QA,QD,QF];refine ⟨fun h1=>⟨fun h2=>?_,fun h2=>?_⟩,fun h1=>⟨fun h2=>?_,fun h2=>?_⟩⟩;·obtain ⟨a,b,c⟩:=l24 h2;have h8:=(Afm (k:=8) b).2 (by omega);rw[IW (by decide +kernel),LG (by decide +kernel) (by omega) (by omega),show ((n:Int) / 65536 / 256).toNat=n / 65536 / 256 by omega,if_neg b];generalize hz:(n / 65536 / 256).log2+1=z;rw[wr_i64 (x:=(z:Int)) (by omega) (by omega),wr_i64 (by omega) (by omega)];omega
 ·obtain ⟨a,b,c⟩:=l16 h1;have h8:=(Afm (k:=8) b).2 (by omega);rw[IW (by decide +kernel),LG (by decide +kernel) (by omega) (by omega),show ((n:Int) / 65536).toNat=n / 65536 by omega,if_neg b];generalize hz:(n / 65536).log2+1=z;rw[wr_i64 (x:=(z:Int)) (by omega) (by omega),wr_i64 (by omega) (by omega)];omega
 ·obtain ⟨a,b,c⟩:=l8 h2;have h8:=(Afm (k:=8) b).2 (by omega);rw[IW (by decide +kernel),LG (by decide +kernel) (by omega) (by omega),show ((n:Int) / 256).toNat=n / 256 by omega,if_neg b];generalize hz:(n / 256).log2+1=z;rw[wr_i64 (x:=(z:Int)) (by omega) (by omega),wr_i64 (by omega) (by omega)];omega
 rw[IW (by decide +kernel),(N9 _ (by decide +kernel)).2 n (by omega)];have h8:(if n=0 then 0 else n.log2+1:Nat)<=8:=by
  split;·omega
  rename_i h;have:=(Afm (k:=8) h).2 (by omega);omega
 generalize (if n=0 then 0 else n.log2+1:Nat)=z at *;rw[wr_i64 (x:=(z:Int)) (by omega) (by omega),wr_i64 (by omega) (by omega)];omega
def lz32 (n:Nat) (h0:n≠0) (hn:n<B):Ctr TP G 204 [.d (.int .u32 n)] [] (.d (.int .i64 (31-n.log2:Nat))) []:=by refine Ctr.pure (M:=M0) Am Tryz.func204 rfl AdA ?_;have h8:=(Afm (k:=32) h0).2 hn;simp only[Tryz.f204,↓Aa,Ac,↓reduceIte,Qv];refine Ad.pure (Adc n hn) ?_;rw[if_neg h0];simp(disch:=(try simp only[Ab]);omega)only[↓Aa,Ac,↓Qe]
def Vj (a d:Nat) (hd:0<d) (hdB:d<B) (ha:(toW a).length<2^40) :
  Ctr TP G 203 [.d (W (toW a)),.d (.int .u32 d)] [] (.d (.tup [W (toW (a / d)),.int .u32 (a % d:Nat)])) []:=by
 have da:=Bp a;have va:=Bo a;generalize toW a=l at *;refine Ctr.pure (M:=M0) Am Tryz.func203 rfl AdB ?_;simp(disch:=(try simp only[Ab]);omega)only[Tryz.f203,↓Aa,Ac,↓reduceIte,Qu,Qv];refine Ak.fr 67 (α:=Nat × List Nat × Nat) (fun x=>x.1) (fun x=>[(7,.d (.int .u32 x.2.2)),(8,.d (.int .i64 ((x.1:Int)-1)))])
  (fun x=>[.row false (A1 .u32 (Adk x.1 0++x.2.1))]) (fun x=>x.1<=l.length/\x.2.1.length+x.1=l.length/\Dig x.2.1/\x.2.2<d/\val (l.drop x.1)=val x.2.1*d+x.2.2) (l.length,[],0) ⟨by simp,by simp,by simp[Dig],hd,by simp[val]⟩ ?_ ?_
 ·exact ⟨[some 0],rfl,by simp,by simp[sA,kZ,SW,AW],by simp[HW,BW]⟩
 rintro ⟨k,q,r⟩ ⟨hk,hq,hdq,hr,hv⟩;simp only at hk hq hdq hr hv;rcases k with _ | k
 ·simp(disch:=(try simp only[Ab]);omega)only[↓Aa,Ac,↓reduceIte,Qy,Qz,QB,QE];simp only[AeQ] at hq;rw[List.drop_zero,va] at hv;have e:D.sl l.length false (A1 .u32 ([]++q))=W q:=by simp[W,hq]
  refine Ad.frozenE (Fh q hdq (by omega)) (by rw[<-e];simp[]) ?_;have e1:a / d=val q:=by rw[hv,Aa0];rw[AfK hd,AeR hr];rfl
  have e2:a % d=r:=by rw[hv,Aa0,Nat.mul_add_mod,Aet hr]
  rw[e1,e2];simp(disch:=(try simp only[Ab]);omega)only[↓Aa,Ac,↓reduceIte,↓Qe,QE]
 simp(disch:=(try simp only[Ab]);omega)only[↓Aa,Ac,↓reduceIte,Qy,Qz];refine Ad.pure (AeN r _ d hr hdB (da.getD k)) ?_;simp(disch:=(try simp only[Ab]);omega)only[↓Aa,Ac,↓reduceIte,Qu];refine ⟨(k,(r*B+l.getD k 0) / d::q,(r*B+l.getD k 0) % d),⟨by simp only;omega,by simp;omega,fun x hx=>?_,Adl _ hd,Vi (by omega) hv⟩,by simp only;omega,
  [some 0],rfl,by simp,by simp[SW,AW],by simp[HW,BW,WH]⟩
 rcases Afg.1 hx with rfl | hx
 ·exact Mh hr (da.getD k)
 exact hdq x hx
end Num
namespace Num
open Go Go.Proofs Go.Abs
def ZW {U V P top u3 lu d1 d2 lv g:Nat} (hU:U=(top*B+u3)*P+lu) (hlu:lu<P) (hV:V=(d1*B+d2)*P+lv) (hu3:u3<B) (hUV:U<V*B)
  (hg:top<(g+1)*d1\/g+1=B):U<(g+1)*V:=by
 rcases hg with hg | hg
 ·have h1:(top+1)*(B*P)<=((g+1)*d1)*(B*P):=Ada _ hg;have h2:U<(top+1)*(B*P):=by
   have h3:(u3+1)*P<=B*P:=Ada _ hu3;rw[hU,Adi,Adi,Ae8,Adf];rw[Adi,Ae8] at h3;omega
  have h4:((g+1)*d1)*(B*P)<=(g+1)*V:=by rw[Adf];refine AeK _ ?_;rw[hV,Adi,<-Adf];omega
  omega
 rw[hg,Aa0];exact hUV
def AbB {U V P top u3 lu d1 d2 lv g rest:Nat} (hU:U=(top*B+u3)*P+lu) (hlu:lu<P) (hV:V=(d1*B+d2)*P+lv)
  (hr:g*d1+rest=top) (hgt:rest*B+u3<g*d2):U<g*V:=by
 have h1:U<(top*B+u3+1)*P:=by rw[hU,Adi (top*B+u3),Ae8];omega
 have h2:(top*B+u3+1)*P<=(g*(d1*B+d2))*P:=by refine Ada _ ?_;rw[<-hr,AeI,Adi,Adf];omega
 have h3:(g*(d1*B+d2))*P<=g*V:=by rw[Adf];refine AeK _ ?_;omega
 omega
def AbA {U V P top u3 lu d1 d2 lv g rest:Nat} (hU:U=(top*B+u3)*P+lu) (hV:V=(d1*B+d2)*P+lv) (hlv:lv<P) (hd1:1<=d1) (hd2:d2<B) (hg:g<B)
  (hr:g*d1+rest=top) (hle:B<=rest\/g*d2<=rest*B+u3):g*V<U+V:=by
 have hle:g*d2<=rest*B+u3:=by
  rcases hle with h | h
  ·have h1:g*d2<=B*B:=AfP (Afv hg) (Afv hd2);have h2:B*B<=rest*B:=Ada _ h;omega
  exact h
 have h1:(g*(d1*B+d2))*P<=(top*B+u3)*P:=by refine Ada _ ?_;rw[<-hr,AeI,Adi,Adf];omega
 have h2:g*V=(g*(d1*B+d2))*P+g*lv:=by rw[hV,AeI,Adf]
 have h3:B*P<=V:=by rw[hV,Adi,Adf];have:1*(B*P)<=d1*(B*P):=Ada _ hd1;omega
 have h4:g*lv<B*P:=by have h5:g*lv<=g*P:=AeK _ (Afv hlv);have h6:(g+1)*P<=B*P:=Ada _ hg;rw[Adi,Ae8] at h6;omega
 omega
def YU {d:List Nat} {n:Nat} (h:d.length=n+2):val d=(d.getD (n+1) 0*B+d.getD n 0)*B^n+val (d.take n):=by
 have e:d=d.take (n+2):=by rw[<-h,AfI]
 rw[e,Bw d (n+1),Bw d n,<-e];rw[Adp,Adi,Adf (B^n),Aa0 (B^n) (d.getD n 0),Aa0 (B^n),Aa0 B (d.getD _ 0)];omega
def YT {u:List Nat} {n:Nat} (h:u.length=n+3):val u=((u.getD (n+2) 0*B+u.getD (n+1) 0)*B+u.getD n 0)*B^n+val (u.take n):=by
 have e:u=u.take (n+3):=by rw[<-h,AfI]
 rw[e,Bw u (n+2),Bw u (n+1),Bw u n,<-e];generalize u.getD n 0=a;generalize u.getD (n+1) 0=b;generalize u.getD (n+2) 0=c;have e1:B^(n+1)*b=b*B*B^n:=by rw[Adp,Adf,Aa0 (B^n),Aa0 B b]
 have e2:B^(n+2)*c=c*B*B*B^n:=by rw[Adp,Adp];generalize B^n=p;ac_rfl
 rw[e1,e2,Adi,Adi,Adi,Aa0 (B^n) a];omega
def RT {l:List Nat} (h:Dig l) (n:Nat):val (l.take n)<B^n:=by
 have h1:=G3 (h.take n);have h2:(l.take n).length<=n:=by simp;omega
 exact Adq h1 (Adj (by decide) h2)
def SA {done u d:List Nat} {i g c b dig low c' b':Nat} (hi:done.length=i) (h1:dig+low+b=u.getD i 0+B*b') (h2:low+B*c'=c+g*d.getD i 0)
  (hv:val done+g*val (d.take i)=val (u.take i)+B^i*(c+b)):val (done++[dig])+g*val (d.take (i+1))=val (u.take (i+1))+B^(i+1)*(c'+b'):=by
 rw[B7,hi,Bw d i,Bw u i];simp only[val,Afd,AeQ];have e1:g*(val (d.take i)+B^i*d.getD i 0)=g*val (d.take i)+B^i*(g*d.getD i 0):=by rw[AeI,Nat.mul_left_comm g]
 have e2:B^(i+1)*(c'+b')=B^i*(B*c'+B*b'):=by rw[Adp,Adf,AeI]
 have e3:B^i*(dig+g*d.getD i 0+c+b)=B^i*(u.getD i 0+(B*c'+B*b')):=by congr 1;omega
 rw[e1,e2];simp only[AeI] at e3 hv ⊢;omega
def Xj {done u d:List Nat} {i a s:Nat} (hi:done.length=i) (hs:s=u.getD i 0+d.getD i 0+a) (hv:val done+B^i*a=val (u.take i)+val (d.take i)) :
  val (done++[s % B])+B^(i+1)*(s / B)=val (u.take (i+1))+val (d.take (i+1)):=by
 rw[B7,hi,Bw d i,Bw u i];simp only[val,Afd,AeQ];have e2:B^(i+1)*(s / B)=B^i*(B*(s / B)):=by rw[Adp,Adf]
 have e3:B^i*(s % B+B*(s / B))=B^i*(u.getD i 0+d.getD i 0+a):=by rw[AeL,hs]
 rw[e2];simp only[AeI] at e3 ⊢;omega
def AcR {U V g r P:Nat} (h1:U<(g+1)*V) (hv:r+g*V=U+P*0):U / V=g/\U % V=r:=by
 rw[Afd,AeQ] at hv;rw[Adi,Ae8] at h1;have hr:r<V:=by omega
 subst hv;refine ⟨?_,?_⟩;·rw[Aa0 g,Afn _ _ (by omega),AeR hr,Afw]
 rw[Aa0 g,Afs,Aet hr]
def AbO {U V g r P r3 x3 dn a:Nat} (h2:g*V<U+V) (hV:V<P) (hr:r<P) (hv:r+g*V=U+P*1) (hb:dn+x3=r+V-0) (h3:r3=dn+x3\/r3+P=dn+x3) (hr3:r3<P) (ha:a=g):U / V=g-1/\U % V=r3:=by
 subst ha;rw[AfB] at hv;rcases Afq a with h0 | h0
 ·subst h0;omega
 obtain ⟨m,rfl⟩:∃ m,a=m+1:=⟨a-1,by omega⟩;rw[Adi,Ae8] at hv h2;have e:r3+m*V=U:=by omega
 have hlt:r3<V:=by omega
 rw[AfC];subst e;refine ⟨?_,?_⟩;·rw[Aa0 m,Afn _ _ (by omega),AeR hlt,Afw]
 rw[Aa0 m,Afs,Aet hlt]
def Sb {a c sh:Nat} (ha:a<2^sh):a ||| c*2^sh=a+c*2^sh:=by have:=Nat.shiftLeft_add_eq_or_of_lt (i:=sh) (a:=c) (b:=a) ha;rw[Nat.shiftLeft_eq] at this;rw[Nat.or_comm,<-this,AfR]
def Sn {x sh:Nat} (h:sh<32):x*2^sh % 4294967296=x % 2^(32-sh)*2^sh:=by
 have:(4294967296:Nat)=2^(32-sh)*2^sh:=by rw[<-Afo,show 32-sh+sh=32 by omega]
 rw[this,Nat.mul_mod_mul_right]
def Abh {q l:List Nat} {k c x sh:Nat} (hq:q.length=k) (hx:l.getD k 0=x) (hv:val q+B^k*c=val (l.take k)*2^sh) :
  val (q++[c+x*2^sh % B])+B^(k+1)*(x*2^sh / B)=val (l.take (k+1))*2^sh:=by
 rw[B7,hq,Bw l k,hx];simp only[val,Afd,AeQ];have h1:=AeL (x*2^sh) B;have e1:B^(k+1)*(x*2^sh / B)=B^k*(B*(x*2^sh / B)):=by rw[Adp,Adf]
 have e2:(val (l.take k)+B^k*x)*2^sh=val (l.take k)*2^sh+B^k*(x*2^sh):=by rw[Adi,Adf]
 rw[e1,e2,<-hv];have e3:B^k*(x*2^sh % B+B*(x*2^sh / B))=B^k*(x*2^sh):=by rw[h1]
 simp only[AeI] at e3 ⊢;omega
end Num
namespace Num
open Go Go.Proofs Go.Abs
variable {G:Ah}
def OP {pre u post:List Nat} {i j:Nat} (hj:pre.length=j) (hi:i<u.length):(pre++(u++post)).getD (j+i) 0=u.getD i 0:=by subst hj;simp only[AaZ];rw[Adm (by omega),Afe (by omega),AeU]
def win (pre done u post:List Nat):List Nat:=pre++(done++(u.drop done.length++post))
def Aa1 {pre u post:List Nat}:win pre [] u post=pre++(u++post):=rfl
def G0 {pre done u post:List Nat} (h:done.length<=u.length):(win pre done u post).length=pre.length+u.length+post.length:=by simp[win];omega
def J5 {pre done u post:List Nat} (h:done.length<u.length):(win pre done u post).getD (pre.length+done.length) 0=u.getD done.length 0:=by unfold win;simp only[AaZ];rw[Adm (by omega),AeU,Adm (by omega),Afi,Afe (by simp;omega),Afr,AeQ]
def MP {pre done u post:List Nat} {v:Nat} (h:done.length<u.length):(win pre done u post).set (pre.length+done.length) v=win pre (done++[v]) u post:=by unfold win;rw[Ae7 _ _ (by omega),AeU,Ae7 _ _ (by omega),Afi,Aft h,AfJ,AfD,List.length_append,List.length_singleton,Afj];rfl
def V1 (pre u post d ex:List Nat) (n:Nat) (hd:d.length=n+2) (hu:u.length=n+3) (dd:Dig d) (du:Dig u) (hUV:val u<val d*B) (hn:2147483648<=d.getD (n+1) 0) (hl:pre.length+u.length+post.length<2^40) :
  Ctr TP G 206 [.lsl 0 1 pre.length (n+3),.lsl 1 1 0 (n+2)] [.row false (A1 .u32 (pre++(u++post))),.row false (A1 .u32 (d++ex))] (.d (.int .u32 (val u / val d:Nat)))
   [.row false (A1 .u32 (pre++(Bl (n+3) (val u % val d)++post))),.row false (A1 .u32 (d++ex))]:=by
 refine Ctr.body (M:=M0) Am Tryz.func206 rfl Ady ?_;have de:∀ i,i<n+2->(d++ex).getD i 0=d.getD i 0:=fun i hi=>by simp only[AaZ];rw[Afe (by omega)]
 have dl:(d++ex).length=n+2+ex.length:=by simp;omega
 generalize hrow:d++ex=dr at *;have g1:(pre++(u++post)).getD (pre.length+(n+2)) 0=u.getD (n+2) 0:=OP rfl (by omega);have g2:(pre++(u++post)).getD (pre.length+(n+1)) 0=u.getD (n+1) 0:=OP rfl (by omega);have g3:(pre++(u++post)).getD (pre.length+n) 0=u.getD n 0:=OP rfl (by omega);have p1:u.getD (n+2) 0<4294967296:=du.getD _;have p2:u.getD (n+1) 0<4294967296:=du.getD _;have p3:u.getD n 0<4294967296:=du.getD _;have q1:d.getD (n+1) 0<4294967296:=dd.getD _;have q2:d.getD n 0<4294967296:=dd.getD _;have hpl:(pre++(u++post)).length=pre.length+u.length+post.length:=by simp;omega
 generalize ho:pre++(u++post)=o at *;have hU:=YT hu;have hV:=YU hd;have hlu:=RT du n;have hlv:=RT dd n;rw[show n+3=(n+2)+1 from rfl];generalize ht:u.getD (n+2) 0*B+u.getD (n+1) 0=top at hU;have ht':u.getD (n+2) 0*4294967296+u.getD (n+1) 0=top:=by simpa only[B] using ht
 have htl:top<18446744073709551616:=by omega
 have hqt:=AfL top (d.getD (n+1) 0);have eg:(if (4294967295:Int)<((top / d.getD (n+1) 0:Nat):Int) then (4294967295:Int) else ((top / d.getD (n+1) 0:Nat):Int))=((min (top / d.getD (n+1) 0) 4294967295:Nat):Int):=by split<;>omega
 have hg0:min (top / d.getD (n+1) 0) 4294967295*d.getD (n+1) 0<=top:=AfH (Ada _ (Nat.min_le_left _ _)) (Nat.div_mul_le_self _ _);have hg1:top<(min (top / d.getD (n+1) 0) 4294967295+1)*d.getD (n+1) 0\/min (top / d.getD (n+1) 0) 4294967295+1=B:=by
  by_cases h:top / d.getD (n+1) 0<=4294967295;·rw[AfM h];left;rw[Aa0];exact Nat.lt_mul_div_succ top (by omega)
  right;rw[Nat.min_eq_right (by omega)];rfl
 have hg2:min (top / d.getD (n+1) 0) 4294967295<B:=by simp only[B];omega
 have hK:=ZW (g:=min (top / d.getD (n+1) 0) 4294967295) hU hlu hV p3 hUV hg1;generalize hg:min (top / d.getD (n+1) 0) 4294967295=g0 at *;have hr0:((top:Nat):Int)-((g0*d.getD (n+1) 0:Nat):Int)=((top-g0*d.getD (n+1) 0:Nat):Int):=by omega
 simp(disch:=(try simp only[Ab]);omega)only[Tryz.f206,dl,de,Zx,g1,g2,ht',<-AfO,eg,hr0,↓Aa,Ac,↓reduceIte,Qu,Qv,QD,QF];refine ⟨by rfl,?_⟩;refine Ak.fx 35 (α:=Nat × Nat) (β:=Nat) (fun x=>x.1) (fun x=>[(7,.d (.int .u64 x.1)),(8,.d (.int .u64 x.2))])
  (fun _=>[.row false (A1 .u32 o),.row false (A1 .u32 dr)]) (fun x=>x.1<B/\val u<(x.1+1)*val d/\x.1*d.getD (n+1) 0+x.2=top)
  35 (fun g=>[(7,.d (.int .u64 g))]) (fun _=>[.row false (A1 .u32 o),.row false (A1 .u32 dr)]) (fun g=>g<B/\val u<(g+1)*val d/\g*val d<val u+val d) (g0,top-g0*d.getD (n+1) 0) ⟨hg2,hK,by simp only;omega⟩ ?_ ?_ ?_
 ·exact ⟨[some 0,some 1],rfl,by simp,by simp[sA,kZ,SW,AW],by simp[HW,BW]⟩
 ·rintro ⟨g,r⟩ ⟨hgB,hgU,hgr⟩;simp only at hgB hgU hgr;simp only[Bi,Adn,Ado];have hE:∀ {g r},g<B->g*d.getD (n+1) 0+r=top->(B<=r\/g*d.getD n 0<=r*B+u.getD n 0)->g*val d<val u+val d :=
   fun a b c=>AbA hU hV hlv (by omega) q2 a b c
  have hD:∀ {g r},g*d.getD (n+1) 0+r=top->r*B+u.getD n 0<g*d.getD n 0->val u<g*val d:=fun a b=>AbB hU hlu hV a b;clear hU hV hlu hlv hUV hK hg1 eg hr0 hg0 hg2 hqt hg;replace hgU:=Hid.mk hgU;rcases g with _ | g
  ·simp(disch:=(try simp only[Ab]);omega)only[dl,de,Zx,g3,Int.zero_mul,↓Aa,Ac,↓reduceIte,Qu,QD,QF];have e0:0*val d<val u+val d:=hE hgB hgr (.inr (by simp));exact ⟨fun h=>⟨by rfl,0,⟨by decide,hgU.out,e0⟩,⟨[some 0,some 1],rfl,by simp,by simp[SW,AW],by simp[HW,BW]⟩⟩,fun h=>⟨by rfl,0,⟨by decide,hgU.out,e0⟩,⟨[some 0,some 1],rfl,by simp,by simp[SW,AW],by simp[HW,BW]⟩⟩⟩
  have hgd:(g+1)*d.getD n 0<=18446744065119617025:=I7 hgB (dd.getD n);have hgB':g+1<4294967296:=by simpa only[B] using hgB
  simp(disch:=(try simp only[Ab]);omega)only[dl,de,Zx,g3,↓Aa,Ac,↓reduceIte,Qu,QD,QF];refine ⟨fun h=>⟨by rfl,fun h2=>⟨(g,r+d.getD (n+1) 0),⟨?_,hD hgr (by simp only[B];omega),?_⟩,by simp only;omega,⟨[some 0,some 1],rfl,by simp,by simp[SW,AW],by simp[HW,BW]⟩⟩,
   fun h2=>⟨g+1,⟨hgB,hgU.out,hE hgB hgr (.inr (by simp only[B];omega))⟩,⟨[some 0,some 1],rfl,by simp,by simp[SW,AW],by simp[HW,BW]⟩⟩⟩,fun h=>⟨by rfl,g+1,⟨hgB,hgU.out,hE hgB hgr (.inl (by simp only[B];omega))⟩,⟨[some 0,some 1],rfl,by simp,by simp[SW,AW],by simp[HW,BW]⟩⟩⟩
  ·simp only;omega
  simp only;rw[Adi,Ae8] at hgr;omega
 rintro g ⟨hgB,hgU,hgV⟩;simp only[Bi,Adn,Ado];clear eg hr0 hg0 hg2 hqt hg hK hg1;replace hU:=Hid.mk hU;replace hV:=Hid.mk hV;replace hlu:=Hid.mk hlu;replace hlv:=Hid.mk hlv;replace hgU:=Hid.mk hgU;replace hgV:=Hid.mk hgV;replace hUV:=Hid.mk hUV;replace ht:=Hid.mk ht;have hgB':g<4294967296:=by simpa only[B] using hgB
 simp only[↓Aa,Ac,Qu];refine Ak.fx 14507109835375550096474275 (α:=List Nat × Nat × Nat) (β:=List Nat × Nat × Nat) (fun x=>n+2-x.1.length) (fun x=>[(9,.d (.int .u32 x.2.1)),(10,.d (.int .u64 x.2.2)),(84,.d (.int .i64 x.1.length))])
  (fun x=>[.row false (A1 .u32 (win pre x.1 u post)),.row false (A1 .u32 dr)]) (fun x=>x.1.length<=n+2/\Dig x.1/\x.2.1<=1/\x.2.2<B/\val x.1+g*val (d.take x.1.length)=val (u.take x.1.length)+B^x.1.length*(x.2.2+x.2.1))
  163 (fun x=>[(9,.d (.int .u32 x.2.1)),(10,.d (.int .u64 x.2.2))]) (fun x=>[.row false (A1 .u32 (win pre x.1 u post)),.row false (A1 .u32 dr)]) (fun x=>x.1.length=n+2/\Dig x.1/\x.2.1<=1/\x.2.2<B/\val x.1+g*val d=val (u.take (n+2))+B^(n+2)*(x.2.2+x.2.1))
  ([],0,0) ⟨by simp,by simp[Dig],by simp,by simp[B],by simp[val]⟩ ?_ ?_ ?_
 ·exact ⟨[some 0,some 1],rfl,by simp,by simp[sA,kZ,SW,AW],by simp[HW,BW,Aa1,ho]⟩
 ·rintro ⟨done,b,c⟩ ⟨hi,hdd,hb,hc,hv⟩;simp only at hi hdd hb hc hv;simp only[Bi,Adn,Ado];replace hv:=Hid.mk hv;have w1:(win pre done u post).getD (pre.length+done.length) 0=u.getD done.length 0:=J5 (by omega);have w3:(win pre done u post).length=pre.length+u.length+post.length:=G0 (by omega);have hcB:c<4294967296:=by simpa only[B] using hc
  have m1:g*d.getD done.length 0<=18446744065119617025:=I7 hgB (dd.getD _);have m2:u.getD done.length 0<4294967296:=du.getD _;have m3:d.getD done.length 0<4294967296:=dd.getD _;simp(disch:=(try simp only[Ab]);omega)only[w1,w3,dl,de,D0,↓Aa,Ac,↓reduceIte,Qu];refine ⟨fun h=>?_,fun h=>?_⟩
  ·refine Ad.pure (Ab5 _ _ _ (du.getD _) (Adl _ (by decide)) hb) ?_;have w2:∀ v,(win pre done u post).set (pre.length+done.length) v=win pre (done++[v]) u post:=fun v=>MP (by omega);simp(disch:=(try simp only[Ab]);omega)only[w2,w3,↓Aa,Ac,↓reduceIte,Qu,QD,QF];have hsl:c+g*d.getD done.length 0<B*B:=(by simp only[B];omega)
   rw[show (4294967296:Nat)=B from rfl];refine ⟨(done++[(u.getD done.length 0+B-(c+g*d.getD done.length 0) % B-b) % B],if u.getD done.length 0<(c+g*d.getD done.length 0) % B+b then 1 else 0,(c+g*d.getD done.length 0) / B),
    ⟨by simp;omega,hdd.append ?_,by simp only;split<;>omega,(AeT (by decide)).2 hsl,?_⟩,by simp;omega,[some 0,some 1],rfl,by simp,by simp[SW,AW,B],by simp[HW,BW]⟩
   ·intro x hx;simp at hx;subst hx;exact Adl _ (by decide)
   have:=SA (d:=d) (g:=g) rfl (IV (du.getD done.length) (Adl (c+g*d.getD done.length 0) (show 0<B by decide)) hb) (AeL (c+g*d.getD done.length 0) B) hv.out;simpa using this
  have hi':done.length=n+2:=by omega
  have hv:=hv.out;rw[hi',Ac7 (l:=d) (by omega)] at hv;exact ⟨(done,b,c),⟨hi',hdd,hb,hc,hv⟩,⟨[some 0,some 1],rfl,by simp,by simp[SW,AW],by simp[HW,BW]⟩⟩
 rintro ⟨done,b,c⟩ ⟨hi,hdd,hb,hc,hv⟩;simp only at hi hdd hb hc hv;simp only[Bi,Adn,Ado];replace hv:=Hid.mk hv;have w1:(win pre done u post).getD (pre.length+(n+2)) 0=u.getD (n+2) 0:=by rw[<-hi];exact J5 (by omega)
 have w3:(win pre done u post).length=pre.length+u.length+post.length:=G0 (by omega);have w2:∀ v,(win pre done u post).set (pre.length+(n+2)) v=win pre (done++[v]) u post:=fun v=>by rw[<-hi];exact MP (by omega)
 have hcB:c<4294967296:=by simpa only[B] using hc
 simp(disch:=(try simp only[Ab]);omega)only[w1,w3,↓Aa,Ac,↓reduceIte,Qu];refine Ad.pure (Ab5 _ _ _ (du.getD _) hc hb) ?_;by_cases hbb:u.getD (n+2) 0<c+b
 ·rw[if_pos hbb];simp(disch:=(try simp only[Ab]);omega)only[w2,w3,↓Aa,Ac,↓reduceIte,Qu];have h1:=IV (du.getD (n+2)) hc hb;rw[if_pos hbb] at h1;have dz:d.getD (n+2) 0=0:=by rw[AaZ,Afz (by omega)];rfl
  have h2:=SA (d:=d) (g:=g) (c:=c) (c':=0) hi h1 (by rw[dz];simp) (by rw[Ac7 (l:=d) (by omega)];exact hv.out);generalize hdig:(u.getD (n+2) 0+B-c-b) % B=dig at h1 h2 ⊢;have hdB:dig<B:=by rw[<-hdig];exact Adl _ (by decide)
  rw[Ac7 (l:=d) (by omega),Ac7 (l:=u) (by omega),Afw] at h2;generalize hu':done++[dig]=u' at h2 ⊢;have lu':u'.length=n+3:=by rw[<-hu'];simp;omega
  have du':Dig u':=by rw[<-hu'];exact hdd.append (by intro x hx;simp at hx;omega)
  have vu':=G3 du';rw[lu'] at vu';obtain ⟨m,rfl⟩:∃ m,g=m+1:=by
   rcases g with _ | m
   ·rw[AfS,AfB] at h2;have:B^(n+2+1)=B^(n+3):=rfl;omega
   exact ⟨m,rfl⟩
  have ew:win pre u' u post=win pre [] u' post:=by simp[win,lu',Afk (l:=u) (i:=n+3) (by omega)]
  rw[ew];clear w1 w2 w3 hv hb hc hcB hbb h1;replace h2:=Hid.mk h2;replace vu':=Hid.mk vu';refine Ak.fx 4083388403051261561560495289181218537633 (α:=List Nat × Nat) (β:=List Nat × Nat) (fun x=>n+2-x.1.length) (fun x=>[(13,.d (.int .u32 x.2)),(132,.d (.int .i64 x.1.length))])
   (fun x=>[.row false (A1 .u32 (win pre x.1 u' post)),.row false (A1 .u32 dr)]) (fun x=>x.1.length<=n+2/\Dig x.1/\x.2<=1/\val x.1+B^x.1.length*x.2=val (u'.take x.1.length)+val (d.take x.1.length))
   161 (fun x=>[(13,.d (.int .u32 x.2))]) (fun x=>[.row false (A1 .u32 (win pre x.1 u' post)),.row false (A1 .u32 dr)]) (fun x=>x.1.length=n+2/\Dig x.1/\x.2<=1/\val x.1+B^(n+2)*x.2=val (u'.take (n+2))+val d)
   ([],0) ⟨by simp,by simp[Dig],by simp,by simp[val]⟩ ?_ ?_ ?_
  ·exact ⟨[some 0,some 1],rfl,by simp,by simp[sA,kZ,SW,AW],by simp[HW,BW]⟩
  ·rintro ⟨done2,a⟩ ⟨hi2,hd2,ha,hv2⟩;simp only at hi2 hd2 ha hv2;simp only[Bi,Adn,Ado];replace hv2:=Hid.mk hv2;have w1:(win pre done2 u' post).getD (pre.length+done2.length) 0=u'.getD done2.length 0:=J5 (by omega);have w3:(win pre done2 u' post).length=pre.length+u'.length+post.length:=G0 (by omega);simp(disch:=(try simp only[Ab]);omega)only[w1,w3,dl,de,↓Aa,Ac,↓reduceIte,Qu];refine ⟨fun h=>?_,fun h=>?_⟩
   ·refine Ad.pure (Acn _ _ _ (du'.getD _) (dd.getD _) ha) ?_;have w2:∀ v,(win pre done2 u' post).set (pre.length+done2.length) v=win pre (done2++[v]) u' post:=fun v=>MP (by omega);have a1:=du'.getD done2.length;have a2:=dd.getD done2.length;simp(disch:=(try simp only[Ab]);omega)only[w2,w3,↓Aa,Ac,↓reduceIte,Qu];refine ⟨(done2++[(u'.getD done2.length 0+d.getD done2.length 0+a) % B],(u'.getD done2.length 0+d.getD done2.length 0+a) / B),
     ⟨by simp;omega,hd2.append ?_,by simp only[B] at *;omega,?_⟩,by simp;omega,[some 0,some 1],rfl,by simp,by simp[SW,AW],by simp[HW,BW]⟩
    ·intro x hx;simp at hx;subst hx;exact Adl _ (by decide)
    have:=Xj (u:=u') (d:=d) rfl rfl hv2.out;simpa using this
   have hi':done2.length=n+2:=(by omega);have hv2:=hv2.out;rw[hi',Ac7 (l:=d) (by omega)] at hv2;exact ⟨(done2,a),⟨hi',hd2,ha,hv2⟩,⟨[some 0,some 1],rfl,by simp,by simp[SW,AW],by simp[HW,BW]⟩⟩
  rintro ⟨done2,a⟩ ⟨hi2,hd2,ha,hv2⟩;simp only at hi2 hd2 ha hv2;simp only[Bi,Adn,Ado];replace hv2:=Hid.mk hv2;have w1:(win pre done2 u' post).getD (pre.length+(n+2)) 0=u'.getD (n+2) 0:=by rw[<-hi2];exact J5 (by omega)
  have w3:(win pre done2 u' post).length=pre.length+u'.length+post.length:=G0 (by omega);have w2:∀ v,(win pre done2 u' post).set (pre.length+(n+2)) v=win pre (done2++[v]) u' post:=fun v=>by rw[<-hi2];exact MP (by omega)
  have a1:=du'.getD (n+2);simp(disch:=(try simp only[Ab]);omega)only[w1,w2,w3,D0,cast_add,nats_set,↓Aa,Ac,↓reduceIte,Qu];rw[show (4294967296:Nat)=B from rfl];have hB0:0<B:=by decide
  have h3:=AeL (u'.getD (n+2) 0+a) B;have hq:(u'.getD (n+2) 0+a) / B=0\/(u'.getD (n+2) 0+a) / B=1:=by simp only[B] at *;omega
  have du3:Dig (done2++[(u'.getD (n+2) 0+a) % B]):=hd2.append (by intro x hx;simp at hx;subst hx;exact Adl _ hB0);have l3:(done2++[(u'.getD (n+2) 0+a) % B]).length=n+3:=by simp;omega
  have v3:=G3 du3;rw[l3] at v3;have hu3:val u'=val (u'.take (n+2))+B^(n+2)*u'.getD (n+2) 0:=by have:=Bw u' (n+2);rwa[Ac7 (l:=u') (by omega)] at this
  have e3:val (done2++[(u'.getD (n+2) 0+a) % B])+B^(n+3)*((u'.getD (n+2) 0+a) / B)=val u'+val d:=by
   rw[B7,hi2,hu3];simp only[val,Afd,AeQ];have e4:B^(n+3)*((u'.getD (n+2) 0+a) / B)=B^(n+2)*(B*((u'.getD (n+2) 0+a) / B)):=(by rw[Adp,Adf])
   have e5:B^(n+2)*((u'.getD (n+2) 0+a) % B)+B^(n+2)*(B*((u'.getD (n+2) 0+a) / B))=B^(n+2)*u'.getD (n+2) 0+B^(n+2)*a:=(by rw[<-AeI,h3,AeI]);have e6:=hv2.out;omega
  generalize hr3:done2++[(u'.getD (n+2) 0+a) % B]=r3 at *;generalize (u'.getD (n+2) 0+a) / B=z at *;have hV:=G3 dd;have hVP:val d<B^(n+3):=Adq hV (Adj hB0 (by omega));have hb:=AbO (U:=val u) (V:=val d) (g:=m+1) (r:=val u') (P:=B^(n+3)) (r3:=val r3) (x3:=0) (dn:=val u'+val d) hgV.out hVP vu'.out h2.out (by omega)
   (by rcases hq with rfl | rfl
       ·left;rw[Afd] at e3;omega
       right;rw[AfB] at e3;omega) v3 rfl
  rw[hb.1,hb.2,AfC,<-Ho du3 l3 rfl];have ew3:win pre r3 u' post=pre++(r3++post):=by simp[win,l3,Afk (l:=u') (i:=n+3) (by omega)]
  rw[ew3];exact ⟨[some 0,some 1],rfl,by simp,by simp[HW,BW],.inl (by simp[AW])⟩
 rw[if_neg hbb];simp(disch:=(try simp only[Ab]);omega)only[w2,w3,↓Aa,Ac,↓reduceIte,Qu];have h1:=IV (du.getD (n+2)) hc hb;rw[if_neg hbb] at h1;have dz:d.getD (n+2) 0=0:=by rw[AaZ,Afz (by omega)];rfl
 have h2:=SA (d:=d) (g:=g) (c:=c) (c':=0) hi h1 (by rw[dz];simp) (by rw[Ac7 (l:=d) (by omega)];exact hv.out);generalize hdig:(u.getD (n+2) 0+B-c-b) % B=dig at h1 h2 ⊢;have hdB:dig<B:=by rw[<-hdig];exact Adl _ (by decide)
 rw[Ac7 (l:=d) (by omega),Ac7 (l:=u) (by omega),Afw] at h2;generalize hu':done++[dig]=u' at h2 ⊢;have lu':u'.length=n+3:=by rw[<-hu'];simp;omega
 have du':Dig u':=by rw[<-hu'];exact hdd.append (by intro x hx;simp at hx;omega)
 have hb:=AcR hgU.out h2;rw[hb.1,hb.2,<-Ho du' lu' rfl];have ew3:win pre u' u post=pre++(u'++post):=by simp[win,lu',Afk (l:=u) (i:=n+3) (by omega)]
 rw[ew3];exact ⟨[some 0,some 1],rfl,by simp,by simp[HW,BW],.inl (by simp[AW])⟩
def ZT {q r:List Nat} {c k:Nat} (h:q.length=k):(q++c::r).getD k 0=c:=by subst h;simp[AaZ]
def Abr {q r:List Nat} {c k v:Nat} (h:q.length=k):(q++c::r).set k v=q++v::r:=by subst h;simp
def ZS {q r:List Nat} {c d k v:Nat} (h:q.length=k):(q++c::d::r).set (k+1) v=q++c::v::r:=by subst h;rw[Ae7 _ _ (by omega),AeU];rfl
def Kk (l:List Nat) (sh:Nat) (hl:Dig l) (hs:sh<32) (hll:l.length<2^40) :
  Ctr TP G 205 [.d (W l),.d (.int .i64 sh)] [] (.lsl 0 1 0 (l.length+1)) [.row false (A1 .u32 (Bl (l.length+1) (val l*2^sh)))]:=by
 refine Ctr.body (M:=M0) Am Tryz.func205 rfl Adz ?_;simp(disch:=(try simp only[Ab]);omega)only[Tryz.f205,↓Aa,Ac,↓reduceIte,Qu,Qv];have hm:(2:Int)^sh=((2^sh:Nat):Int):=by simp
 have hmb:2^sh<=2147483648:=Adj (by decide) (show sh<=31 by omega);have hmp:0<2^sh:=Afh sh;refine Ak.fr 24610 (α:=Nat × List Nat × Nat) (fun x=>l.length-x.1) (fun x=>[(15,.d (.int .i64 x.1))])
  (fun x=>[.row false (A1 .u32 (x.2.1++x.2.2::Adk (l.length-x.1) 0))]) (fun x=>x.1<=l.length/\x.2.1.length=x.1/\Dig x.2.1/\x.2.2<2^sh/\val x.2.1+B^x.1*x.2.2=val (l.take x.1)*2^sh) (0,[],0) ⟨AfT _,rfl,(fun x hx=>by cases hx),hmp,(AfS _).symm▸rfl⟩ ?_ ?_
 ·exact ⟨[some 0],rfl,by simp,by simp[sA,kZ,SW,AW],by simp[HW,BW]⟩
 rintro ⟨k,q,c⟩ ⟨hk,hq,hd,hc,hv⟩;simp only at hk hq hd hc hv;simp only[Bi,Adn,Ado];replace hv:=Hid.mk hv;have hx:l.getD k 0<4294967296:=hl.getD k;have hxm:l.getD k 0*2^sh<=4294967295*2147483648:=AfP (by omega) hmb;have c1:∀ r,(q++c::r).getD k 0=c:=fun r=>ZT hq;have c2:∀ r v,(q++c::r).set k v=q++v::r:=fun r v=>Abr hq;have c3:∀ a d r v,(q++a::d::r).set (k+1) v=q++a::v::r:=fun a d r v=>ZS hq;have hor:c ||| (l.getD k 0*2^sh % 4294967296)=c+l.getD k 0*2^sh % 4294967296:=by rw[Sn hs,Sb hc]
 have hlow:l.getD k 0*2^sh % 4294967296<4294967296:=Adl _ (by decide);have hmin:min sh 64=sh:=by omega
 simp(disch:=(try simp only[Ab]);omega)only[hm,hmin,c1,c2,hor,DM,D0,↓Aa,Ac,↓reduceIte,QD,QF];refine ⟨fun h=>?_,fun h=>?_⟩
 ·have er:Adk (l.length-k) 0=0::Adk (l.length-(k+1)) 0:=by rw[<-Aff];congr 1;omega
  rw[er];have ei:((l.getD k 0*2^sh:Nat):Int) / 4294967296=((l.getD k 0*2^sh / B:Nat):Int):=by simp only[B];omega
  rw[ei,nats_set,c3];refine ⟨(k+1,q++[c+l.getD k 0*2^sh % B],l.getD k 0*2^sh / B),⟨by simp only;omega,by simp[hq],hd.append ?_,?_,Abh hq rfl hv.out⟩,by simp only;omega,[some 0],rfl,by simp,by simp[SW,AW],?_⟩
  ·intro x hx;simp only[Afg,Afu,or_false] at hx;subst hx;show c+l.getD k 0*2^sh % 4294967296<2^32
   rw[<-hor];exact Nat.or_lt_two_pow (by omega) hlow
  ·simp only;rw[AeT (by decide),Aa0 (2^sh)];exact Afp hx hmp
  have e2:(q++[c+l.getD k 0*2^sh % B])++l.getD k 0*2^sh / B::Adk (l.length-(k+1)) 0=q++(c+l.getD k 0*2^sh % 4294967296)::l.getD k 0*2^sh / B::Adk (l.length-(k+1)) 0:=by rw[Afj];rfl
  simp only[e2];simp[HW,BW]
 have ek:k=l.length:=by omega
 have hv:=hv.out;subst ek;rw[Ac7 (Afc _)] at hv;have hcB:c<B:=Adq hc (by simp only[B];omega);rw[Afi,List.replicate_zero,<-Ho (l:=q++[c]) (hd.append (by intro x hx;simp only[Afg,Afu,or_false] at hx;subst hx;exact hcB)) (by simp[hq]) (by rw[B7,hq];simpa[val] using hv)];exact ⟨[some 0],rfl,by simp,by simp[HW,BW],.inl (by simp[AW])⟩
def FP (l:List Nat) (hl:l.length<2^40):Ctr TP G 135 [.d (W l)] [] (.d (W l)) []:=by
 refine Ctr.of_body Tryz.func135 rfl Aej rfl ?_;refine Tri.seq (Tri.of_awp (M:=M0) Am _ _ _ _ ?_);simp only[E4,Tryz.f135,↓Aa,Ac,Qv];refine Tri.seq (Tri.seq (Tri.nilRegion (e:=187) (by kernel_rfl) rfl ?_ ?_));·simp
 intro b hb;simp only[E4];refine Tri.of_awp (M:=M0) Am _ _ _ _ ?_;cases b;·simp only[E4,↓Aa,Ac];refine Tri.of_awp (M:=M0) Am _ _ _ _ ?_;simp(disch:=(try simp only[Ab]);omega)only[↓Aa,Ac,↓reduceIte,Qu];refine ⟨[],rfl,AfQ,trivial,.inr ⟨W l,?_,by simp[W,unf_sl],rfl⟩⟩;simp[sealA,W,cut_nats]
 simp only[OK,↓Aa,Ac];have h0:l=[]:=Ae6.1 (hb rfl);subst h0;exact ⟨[],rfl,AfQ,trivial,.inr ⟨.sl 0 true [],rfl,rfl,rfl⟩⟩
def Te {o:List Nat} (hd:Dig o) {k:Nat} (hk:k<=o.length) (h:k=0\/o.getD (k-1) 0≠0):toW (val (o.take k))=o.take k:=by
 refine Y1 (hd.take k) ?_;rcases h with rfl | h
 ·left;simp
 rcases Afq k with rfl | hp
 ·left;simp
 right;have e:(o.take k).length-1=k-1:=by simp;omega
 rw[e,AaZ,AfE,if_pos (by omega),<-AaZ];exact h
def FZ (o:List Nat) (n:Nat) (hd:Dig o) (hn:n<=o.length) (hl:o.length<2^60) :
  Ctr TP G 171 [.lsl 0 1 0 n] [.row false (A1 .u32 o)] (.lsl 0 1 0 (toW (val (o.take n))).length) [.row false (A1 .u32 o)]:=by
 refine Ctr.body (M:=M0) Am Tryz.func171 rfl Acg ?_;simp only[Tryz.f171,↓Aa,Ac,Qv];refine Ak.fr 0 (α:=Nat) (fun k=>k) (fun k=>[(0,.lsl 0 1 0 k)]) (fun _=>[.row false (A1 .u32 o)]) (fun k=>k<=n/\val (o.take k)=val (o.take n)) n ⟨Afc _,rfl⟩ ?_ ?_;·exact ⟨[some 0],rfl,by simp,by simp[sA,kZ,SW,AW],by simp[HW,BW]⟩
 rintro k ⟨hk,hv⟩;simp only[Bi,Ado];rcases k with _ | k
 ·simp(disch:=(try simp only[Ab]);omega)only[↓Aa,Ac,↓reduceIte];have:toW (val (o.take n))=[]:=by rw[<-hv];exact Bb
  rw[this];exact ⟨[some 0],rfl,by simp,by simp[HW,BW],.inl (by simp[AW])⟩
 simp(disch:=(try simp only[Ab]);omega)only[↓Aa,Ac,↓reduceIte];refine ⟨fun h=>⟨k,⟨by omega,?_⟩,Nat.lt_succ_self _,⟨[some 0],rfl,by simp,by simp[SW,AW],by simp[HW,BW]⟩⟩,fun h=>?_⟩;·rw[<-hv,Bw o k,show o.getD k 0=0 by omega];simp
 have:=Te hd (k:=k+1) (by omega) (.inr (by simpa using h));rw[hv] at this;rw[this];have e:(o.take (k+1)).length=k+1:=by simp;omega
 rw[e];exact ⟨[some 0],rfl,by simp,by simp[HW,BW],.inl (by simp[AW])⟩
end Num
namespace Num
open Go Go.Proofs Go.Abs
def FL (i k n:Nat):Bl (i+k) n=Bl i n++Bl k (n / B^i):=by
 induction i generalizing n with
 | zero=>simp[Bl]
 | succ i ih =>rw[Nat.add_right_comm i 1 k];simp only[Bl,AfJ];rw[ih,AeJ,Adp,Aa0 B]
def Yp (k:Nat):Bl k 0=Adk k 0:=by
 induction k with
 | zero=>rfl
 | succ k ih=>simp[Bl,Aff,ih]
def JQ {k z n:Nat} (h:n<B^k):Bl (k+z) n=Bl k n++Adk z 0:=by rw[FL,AeR h,Yp]
def Q7 {i k n:Nat} (h:i<=k):(Bl k n).take i=Bl i n:=by obtain ⟨z,rfl⟩:∃ z,k=i+z:=⟨k-i,by omega⟩;rw[FL,AfN (AK i n)]
def GT {i k n:Nat} (h:i<k):(Bl k n).getD i 0=n / B^i % B:=by obtain ⟨z,rfl⟩:∃ z,k=i+(z+1):=⟨k-i-1,by omega⟩;rw[FL,Bl];have:=AK i n;rw[AaZ,Adm (by omega),this,Afi];rfl
def Q8 (i n:Nat):Bl (i+1) n=Bl i n++[n / B^i % B]:=by rw[FL];rfl
def Nl (n:Nat):toW n=Bl (toW n).length n:=Ho (Bp n) rfl (Bo n)
def Vz {m:List Nat} {k s:Nat} (hm:Dig m) (hl:m.length=k+2) (ht:m.getD (k+1) 0≠0) (hs:s=31-(m.getD (k+1) 0).log2) :
  s<32/\val m*2^s<B^(k+2)/\2147483648<=(Bl (k+2) (val m*2^s)).getD (k+1) 0:=by
 have htB:=hm.getD (k+1);have hv:val m=val (m.take (k+1))+B^(k+1)*m.getD (k+1) 0:=by have:=Bw m (k+1);rwa[Ac7 (by omega)] at this
 have hlo:=RT hm (k+1);generalize m.getD (k+1) 0=t at *;have he:=(Nat.log2_eq_iff ht).1 rfl;have he32:=(Afm (k:=32) ht).2 htB;have hp:2^(t.log2+1)*2^s=B:=by rw[<-Afo,hs,show t.log2+1+(31-t.log2)=32 by omega];rfl
 have hp':2^t.log2*2^s=2147483648:=by rw[<-Afo,hs,show t.log2+(31-t.log2)=31 by omega]
 have h1:2147483648<=t*2^s:=by rw[<-hp'];exact Ada _ he.1
 have h2:(t+1)*2^s<=B:=by rw[<-hp];exact Ada _ he.2
 have h3:val m*2^s<B^(k+2):=by
  have e1:val m+1<=B^(k+1)*(t+1):=by have:=AeI (B^(k+1)) t 1;omega
  have e2:(val m+1)*2^s<=B^(k+1)*(t+1)*2^s:=Ada _ e1;have e3:B^(k+1)*(t+1)*2^s<=B^(k+1)*B:=by rw[Adf];exact AeK _ h2
  rw[Adi,Ae8] at e2;have:0<2^s:=Afh s;rw[Adp];omega
 refine ⟨by omega,h3,?_⟩;rw[GT (by omega)];have hB:0<B^(k+1):=AfU (by decide);have e4:val m*2^s / B^(k+1)<B:=by rw[AeT hB,Aa0 B,<-Adp];exact h3
 rw[Aet e4];refine AfH h1 ((AfA hB).2 ?_);rw[AfF];refine Ada _ ?_;rw[hv,Aa0];omega
def Abo {U V j Q r:Nat} (h:U / B^(j+1)=Q*V+r) (hr:r<V) :
  U / B^j % B+B*r<V*B/\U / B^j=(B*Q+(U / B^j % B+B*r) / V)*V+(U / B^j % B+B*r) % V:=by
 have hx:U / B^j % B<B:=Adl _ (by decide);refine ⟨?_,?_⟩;·have:B*(r+1)<=B*V:=AeK _ hr;rw[AeI,AfB] at this;rw[Aa0 V];omega
 have h1:=AeL (U / B^j) B;rw[AeJ,<-Adp,h,AeI] at h1;have h2:=AeL (U / B^j % B+B*r) V;rw[Adi,Adf];rw[Aa0 V] at h2;omega
def Wo {r s i:Nat} (hs:s<32):((r / B^(i+1) % B)*B+r / B^i % B) / 2^s % B=r / 2^s / B^i % B:=by
 have hB:B=2^(32-s)*2^s:=by rw[<-Afo,show 32-s+s=32 by omega];rfl
 have e1:r / 2^s / B^i=r / B^i / 2^s:=by rw[AeJ,Aa0,<-AeJ]
 have e2:r / B^(i+1)=r / B^i / B:=by rw[AeJ,Adp]
 rw[e1,e2];generalize r / B^i=y;have h1:=AeL y B;have h2:=AeL (y / B) B;generalize hc:y / B / B=c at *;generalize hh:y / B % B=h at *;generalize hl:y % B=l at *;have hp:0<2^s:=Afh s;have e3:y=(h*B+l)+2^s*(c*B*2^(32-s)):=by
  have:2^s*(c*B*2^(32-s))=B*(B*c):=by
   conv=>rhs;arg 1;rw[hB]
   ac_rfl
  rw[this,<-h1,<-h2,AeI,Aa0 B h];omega
 rw[e3,Afn _ _ hp,AfF,Nat.add_mul_mod_self_right]
def Ke {l:List Nat} (h:Dig l):(toW (val l)).length<=l.length:=CG (G3 h)
def La {l:List Nat} (h:Dig l):l.take (toW (val l)).length=toW (val l):=by
 conv=>lhs;arg 2;rw[<-Ur h]
 rw[Q7 (Ke h),<-Nl]
def BE (N s r i:Nat):List Nat:=Bl i (r / 2^s)++(Bl N r).drop i
def Dn {N s r i:Nat} (h:i<=N):(BE N s r i).length=N:=by simp[BE,AK];omega
def KR {N s r:Nat}:BE N s r 0=Bl N r:=rfl
def KT {N s r i:Nat} (h:i<N):(BE N s r i).getD i 0=r / B^i % B:=by have hl:=AK i (r / 2^s);rw[BE,AaZ,Adm (by omega),hl,Afi,Afr,AeQ,<-AaZ,GT h]
def SS {N s r i kk:Nat} (hk:kk<=N) (hr:r<B^kk):((BE N s r i).take kk).getD (i+1) 0=r / B^(i+1) % B:=by
 have hl:=AK i (r / 2^s);rw[AaZ,AfE];split;·rename_i h;rw[BE,Adm (by omega),hl,Afr,show i+(i+1-i)=i+1 by omega,<-AaZ,GT (by omega)]
 rename_i h;have:r<B^(i+1):=Adq hr (Adj (by decide) (by omega));rw[AeR this];rfl
def Ml {N s r i:Nat} (h:i<N):(BE N s r i).set i (r / 2^s / B^i % B)=BE N s r (i+1):=by have hl:=AK i (r / 2^s);have hl2:=AK N r;rw[BE,Ae7 _ _ (by omega),hl,Afi,Aft (by omega),AfD,BE,Q8,Afj];rfl
def Mi {N s r i:Nat}:Dig (BE N s r i):=(DL _ _).append ((DL _ _).drop _)
def KS {N s r i:Nat}:(BE N s r i).take i=Bl i (r / 2^s):=by rw[BE,AfN (AK _ _)]
def Aa2 {a b p q r:Nat} (hp:0<p) (h:a*p=q*(b*p)+r) (hr:r<b*p):a / b=q/\a % b=r / p/\r / p<=r:=by
 have h1:r % p=0:=by have:=congrArg (· % p) h;simp only[Nat.mul_mod_left] at this;rw[<-Adf,Nat.mul_add_mod_self_right] at this;exact this.symm
 obtain ⟨c,rfl⟩:=Nat.dvd_of_mod_eq_zero h1;rw[Aa0 p c] at h hr;have hc:c<b:=Nat.lt_of_mul_lt_mul_right hr;have ha:a=q*b+c:=by rw[<-Adf,<-Adi] at h;exact Nat.eq_of_mul_eq_mul_right hp h
 rw[Nat.mul_div_cancel_left _ hp];refine ⟨?_,?_,Nat.le_mul_of_pos_left _ hp⟩;·rw[ha,Aa0 q,AfK (by omega),AeR hc,AeQ]
 rw[ha,Aa0 q,Nat.mul_add_mod_self_left,Aet hc]
def Zw {l:List Nat} {k z s V:Nat} (hl:Dig l) (hz:l.length=k+2+z) (hs:s<32) (n3:2147483648<=(Bl (k+2) V).getD (k+1) 0):val l*2^s / B^(z+1)<V:=by
 have hB:∀ i,0<B^i:=fun i=>AfU (by decide);rw[GT (by omega)] at n3;have h1:2147483648<=V / B^(k+1):=AfH n3 (Nat.mod_le _ _);have h2:2147483648*B^(k+1)<=V:=(AfA (hB _)).1 h1;have h3:=G3 hl;rw[hz] at h3;have h4:2^s<=2147483648:=Adj (by decide) (show s<=31 by omega);rw[AeT (hB _)];have h5:val l*2^s<B^(k+2+z)*2^s:=Afp h3 (Afh s);have h6:B^(k+2+z)*2^s<=B^(k+2+z)*2147483648:=AeK _ h4;have h7:B^(k+2+z)*2147483648=2147483648*B^(k+1)*B^(z+1):=by rw[Aa0,Adf,<-Afo];congr 2;omega
 have h8:2147483648*B^(k+1)*B^(z+1)<=V*B^(z+1):=Ada _ h2;omega
end Num
namespace Num
open Go Go.Proofs Go.Abs
variable {G:Ah}
def M1:Ci:=fun f=>f == 206 || f == 171
def HX:M1 202=false:=rfl
def HV:M1 135=false:=rfl
def HU:M1 203=false:=rfl
def HR:M1 204=false:=rfl
def HQ:M1 205=false:=rfl
def HO:M1 173=false:=rfl
def HN:M1 206=true:=rfl
def HM:M1 171=true:=rfl
def Lm (a b:Nat) (hb:b≠0) (ha:(toW a).length<2^38) (hb':(toW b).length<2^38) :
  Ctr TP G 175 [.d (W (toW a)),.d (W (toW b))] [] (.d (.tup [W (toW (a / b)),W (toW (a % b))])) []:=by
 have da:=Bp a;have db:=Bp b;have va:=Bo a;have vb:=Bo b;have tb:=Y2 hb;have hcmp:cmpI (a:Int) b<0↔a<b:=by
  unfold cmpI;split;·omega
  split<;>omega
 refine Ctr.pure (M:=M1) Am Tryz.func175 rfl AdP ?_;simp(maxSteps:=1000000)(disch:=(try simp only[Ab]);omega)only[Tryz.f175,HX,↓Aa,Ac,↓reduceIte,Qu,Qv];refine Ad.pure (compare_spec a b (by omega) (by omega)) ?_;simp(maxSteps:=1000000)(disch:=(try simp only[Ab]);omega)only[HV,HU,HR,hcmp,↓Aa,Ac,↓reduceIte,Qu];refine ⟨fun h=>?_,fun h=>⟨fun h1=>?_,fun h1=>?_⟩⟩;·rw[AeR h,Aet h,Bb];refine Ad.pure (FP (toW a) (by omega)) ?_;simp(maxSteps:=1000000)(disch:=(try simp only[Ab]);omega)only[↓Aa,Ac,↓Qe];rfl
 ·have h1:(toW b).length=1:=by omega
  have hb1:(toW b).getD 0 0=b:=by have:=Bw (toW b) 0;rw[Ac7 (by omega),vb] at this;simpa[val] using this.symm
  have hbB:b<B:=by rw[<-hb1];exact db.getD 0
  rw[hb1];refine Ad.pure (Vj a b (by omega) hbB (by omega)) ?_;simp(maxSteps:=1000000)(disch:=(try simp only[Ab]);omega)only[HM,↓Aa,Ac,↓reduceIte,Qu];have dr:Dig [a % b]:=by intro x hx;simp at hx;subst hx;exact Afx (Adl _ (by omega)) hbB
  refine Ad.by (FZ [a % b] 1 dr (by simp) (by simp)) rfl rfl (Afc _) ?_;simp(maxSteps:=1000000)(disch:=(try simp only[Ab]);omega)only[↓Aa,Ac,↓reduceIte,↓Qe];have vr:val [a % b]=a % b:=by simp[val]
  have tr:=La dr;rw[vr] at tr;rw[vr,tr]
 generalize hl:toW a=l at *;generalize hm:toW b=m at *;obtain ⟨k,hk⟩:∃ k,m.length=k+2:=⟨m.length-2,by
  have:m.length≠0:=by intro h0;have:=Ae6.1 h0;subst this;exact hb vb.symm
  omega⟩
 rw[hk,show k+2-1=k+1 from rfl] at tb;have mB:=db.getD (k+1);obtain ⟨z,hz⟩:∃ z,l.length=k+2+z:=⟨l.length-(k+2),by
  have h2:¬l.length<m.length:=by intro h3;rw[<-hl,<-hm] at h3;exact h (Ev h3)
  omega⟩
 have e1:(l.length:Int)-((k+2:Nat):Int)+1=((z+1:Nat):Int):=by omega
 simp(maxSteps:=1000000)(disch:=(try simp only[Ab]);omega)only[hk,Ac];refine Ad.pure (lz32 _ tb mB) ?_;obtain ⟨n1,n2,n3⟩:=Vz db hk tb rfl;generalize hs:31-(m.getD (k+1) 0).log2=s at *;simp(maxSteps:=1000000)(disch:=(try simp only[Ab]);omega)only[HQ,↓Aa,Ac,↓reduceIte,Qu];refine Ad.by (Kk l s da n1 (by omega)) rfl rfl (by simp) ?_;simp(maxSteps:=1000000)(disch:=(try simp only[Ab]);omega)only[HQ,hk,↓Aa,Ac,↓reduceIte,Qu];refine Ad.by (Kk m s db n1 (by omega)) (by rw[W,hk]) rfl (by simp) ?_;simp(maxSteps:=1000000)(disch:=(try simp only[Ab]);omega)only[e1,hk,↓Aa,Ac,↓reduceIte,Qu];refine ⟨by rfl,?_⟩;have hVz:val m*2^s<B^(k+2+1):=Adq n2 (Adj (by decide) (by omega));generalize hU:val l*2^s=U at *;generalize hV:val m*2^s=V at *;refine Ak.fx 7936 (α:=Nat × Nat × List Nat) (β:=Nat × List Nat) (fun x=>x.1) (fun x=>[(13,.d (.int .i64 ((x.1:Int)-1)))])
  (fun x=>[.row false (A1 .u32 (Bl x.1 U++Bl (l.length+1-x.1) x.2.1)),.row false (A1 .u32 (Bl (k+2+1) V)),.row false (A1 .u32 (Adk x.1 0++x.2.2))])
  (fun x=>x.1<=z+1/\x.2.2.length+x.1=z+1/\Dig x.2.2/\x.2.1<V/\U / B^x.1=val x.2.2*V+x.2.1)
  5888 (fun _=>[]) (fun x=>[.row false (A1 .u32 (Bl (l.length+1) x.1)),.row false (A1 .u32 (Bl (k+2+1) V)),.row false (A1 .u32 x.2)])
  (fun x=>x.2.length=z+1/\Dig x.2/\x.1<V/\U=val x.2*V+x.1) (z+1,U / B^(z+1),[]) ⟨Afc _,by simp,(fun x hx=>by cases hx),?_,by simp[val]⟩ ?_ ?_ ?_
 ·rw[<-hU];exact Zw da hz n1 n3
 ·refine ⟨[some 0,some 1,some 2],rfl,by simp,by simp[sA,kZ,SW,AW],?_⟩;have:Bl (l.length+1) U=Bl (z+1) U++Bl (l.length+1-(z+1)) (U / B^(z+1)):=by rw[<-FL];congr 1;omega
  simp[HW,BW,this,Aff]
 ·rintro ⟨i,r,qd⟩ ⟨hi,hq,hdq,hr,hv⟩;simp only at hi hq hdq hr hv;simp only[Bi,Adn,Ado];rcases i with _ | j
  ·simp(maxSteps:=1000000)(disch:=(try simp only[Ab]);omega)only[↓Aa,Ac,Qu,QB,QE];rw[Nat.pow_zero,Nat.div_one] at hv;exact ⟨(r,qd),⟨by simpa using hq,hdq,hr,hv⟩,[some 0,some 1,some 2],rfl,by simp,by simp[SW,AW],by simp[HW,BW,Bl]⟩
  have e2:j+(k+2)+1-j=k+3:=by omega
  simp(maxSteps:=1000000)(disch:=(try simp only[Ab]);omega)only[HN,e2,↓Aa,Ac,↓reduceIte,Qu,QK];obtain ⟨hw,hq2⟩:=Abo hv hr;have hrB:r<B^(k+2):=Afx hr n2;have eu:Bl (j+1) U++Bl (l.length+1-(j+1)) r=Bl j U++((U / B^j % B::Bl (k+2) r)++Adk (z-j) 0):=by rw[Q8,Afj,show l.length+1-(j+1)=(k+2)+(z-j) by omega,JQ hrB];rfl
  have ed:Bl (k+2+1) V=Bl (k+2) V++[0]:=JQ (z:=1) n2;have du:Dig (U / B^j % B::Bl (k+2) r):=fun x hx=>by
   rcases Afg.1 hx with rfl | hx
   ·exact Adl _ (by decide)
   exact DL _ _ x hx
  have vu:val (U / B^j % B::Bl (k+2) r)=U / B^j % B+B*r:=by rw[val,D7 hrB]
  have vd:val (Bl (k+2) V)=V:=D7 n2;have hds:=V1 (G:=G) (Bl j U) (U / B^j % B::Bl (k+2) r) (Adk (z-j) 0) (Bl (k+2) V) [0] k (AK _ _) (by simp[AK]) (DL _ _) du (by rw[vu,vd];exact hw) n3 (by simp[AK];omega);rw[AK,vu,vd] at hds;refine Ad.by hds rfl (by rw[eu,ed]) (Afc _) ?_;have hr':(U / B^j % B+B*r) % V<V:=Adl _ (by omega);have hqB:(U / B^j % B+B*r) / V<B:=(AeT (by omega)).2 (by have:=hw;rw[Aa0 V] at this;exact this);generalize hgq:(U / B^j % B+B*r) / V=q1 at *;generalize hgr:(U / B^j % B+B*r) % V=r1 at *;have er:Bl (l.length+1-j) r1=Bl (k+3) r1++Adk (z-j) 0:=by rw[show l.length+1-j=(k+3)+(z-j) by omega,JQ];exact Adq (Afx hr' n2) (Adj (by decide) (by omega))
  simp(maxSteps:=1000000)(disch:=(try simp only[Ab]);omega)only[↓Aa,Ac,↓reduceIte,Qu];refine ⟨(j,r1,q1::qd),⟨by simp only;omega,by simp;omega,?_,hr',by rw[val];rw[AfR q1];exact hq2⟩,by simp,[some 0,some 1,some 2],rfl,by simp,by simp[SW,AW],?_⟩
  ·intro x hx;rcases Afg.1 hx with rfl | hx
   ·exact hqB
   exact hdq x hx
  simp[HW,BW,er,ed,WH]
 rintro ⟨r,qd⟩ ⟨hq,hdq,hr,hv⟩;simp only at hq hdq hr hv;simp only[Bi,Adn,Ado];simp(maxSteps:=1000000)(disch:=(try simp only[Ab]);omega)only[HM,↓Aa,Ac,↓reduceIte,Qu];have hrB:r<B^(k+2):=Afx hr n2;have vt:val ((Bl (l.length+1) r).take (k+2))=r:=by rw[Q7 (by omega),D7 hrB]
 have ht:=FZ (G:=G) (Bl (l.length+1) r) (k+2) (DL _ _) (by rw[AK];omega) (by rw[AK];omega);rw[vt] at ht;refine Ad.by ht rfl rfl (Afc _) ?_;have hkk:(toW r).length<=k+2:=CG hrB;have hrk:=C9 r;generalize (toW r).length=kk at *;simp(maxSteps:=1000000)(disch:=(try simp only[Ab]);omega)only[↓Aa,Ac,↓reduceIte,Qu];have hm2:(2:Int)^s=((2^s:Nat):Int):=by simp
 have hmin:min s 64=s:=by omega
 refine Ak.fx 77371252455336267181216256 (α:=Nat) (β:=Unit) (fun i=>kk-i) (fun i=>[(87,.d (.int .i64 i))])
  (fun i=>[.row false (A1 .u32 (BE (l.length+1) s r i)),.row false (A1 .u32 (Bl (k+2+1) V)),.row false (A1 .u32 qd)]) (fun i=>i<=kk)
  20480 (fun _=>[]) (fun _=>[.row false (A1 .u32 (BE (l.length+1) s r kk)),.row false (A1 .u32 (Bl (k+2+1) V)),.row false (A1 .u32 qd)]) (fun _=>True) 0 (AfT _) ?_ ?_ ?_
 ·exact ⟨[some 0,some 1,some 2],rfl,by simp,by simp[sA,kZ,SW,AW],by simp[HW,BW,KR]⟩
 ·intro i hi;simp only[Bi,Adn,Ado];have b1:=Dn (s:=s) (r:=r) (show i<=l.length+1 by omega);simp(maxSteps:=1000000)(disch:=(try simp only[Ab]);omega)only[HO,↓Aa,Ac,↓reduceIte,Qu];refine ⟨fun h5=>?_,fun h5=>?_⟩
  ·refine Ad.frozenE (ST ((BE (l.length+1) s r i).take kk) (i+1)) (by simp[W,b1];omega) ?_;rw[SS (by omega) hrk];have b3:=KT (N:=l.length+1) (s:=s) (r:=r) (i:=i) (by omega);have hun:=Wo (r:=r) (i:=i) n1;have bs:=Ml (N:=l.length+1) (s:=s) (r:=r) (i:=i) (by omega);have g1:r / B^(i+1) % B<4294967296:=Adl _ (by decide);have g2:r / B^i % B<4294967296:=Adl _ (by decide);generalize r / B^(i+1) % B=hi' at *;generalize r / B^i % B=lo at *;simp(maxSteps:=1000000)(disch:=(try simp only[Ab]);omega)only[b1,b3,Zx,hmin,hm2,Um,D0,↓Aa,Ac,↓reduceIte,Qu,QD,QF];have hun':(hi'*4294967296+lo) / 2^s % 4294967296=r / 2^s / B^i % B:=hun;rw[hun',bs];exact ⟨i+1,by omega,by simp only;omega,[some 0,some 1,some 2],rfl,by simp,by simp[SW,AW],by simp[HW,BW]⟩
  have:i=kk:=by omega
  subst this;exact ⟨(),trivial,[some 0,some 1,some 2],rfl,by simp,by simp[SW,AW],by simp[HW,BW]⟩
 rintro ⟨⟩ -;simp only[Bi,Adn,Ado];simp(maxSteps:=1000000)(disch:=(try simp only[Ab]);omega)only[HM,↓Aa,Ac,↓reduceIte,Qu];have hq1:=FZ (G:=G) qd (z+1) hdq (by omega) (by omega);rw[Ac7 (by omega)] at hq1;refine Ad.by hq1 rfl rfl (Afc _) ?_;simp(maxSteps:=1000000)(disch:=(try simp only[Ab]);omega)only[HM,↓Aa,Ac,↓reduceIte,Qu];have hus:=Aa2 (a:=a) (b:=b) (Afh s) (by rw[<-va,<-vb,hU,hV];exact hv) (by rw[<-vb,hV];exact hr);have vt2:val ((BE (l.length+1) s r kk).take kk)=r / 2^s:=by rw[KS,D7 (AfG hus.2.2 hrk)]
 have hr1:=FZ (G:=G) (BE (l.length+1) s r kk) kk Mi (by rw[Dn (by omega)];omega) (by rw[Dn (by omega)];omega);have htr:=La (DL kk (r / 2^s));have htl:=Ke (DL kk (r / 2^s));rw[D7 (AfG hus.2.2 hrk)] at htr htl;rw[AK] at htl;rw[vt2] at hr1;refine Ad.by hr1 rfl rfl (Afc _) ?_;have htq:=La hdq;have b1:=Dn (s:=s) (r:=r) (show kk<=l.length+1 by omega);have hlq:=Ke hdq;simp(maxSteps:=1000000)(disch:=(try simp only[Ab]);omega)only[↓Aa,Ac,↓reduceIte,↓Qe,Qu];have e5:(BE (l.length+1) s r kk).take (toW (r / 2^s)).length=toW (r / 2^s):=by have:=congrArg (List.take (toW (r / 2^s)).length) (KS (N:=l.length+1) (s:=s) (r:=r) (i:=kk));rw[List.take_take,AfM htl,htr] at this;exact this
 rw[e5,htq,hus.1,hus.2.1]
def BD {a b:Nat} (h:a<=b):(toW a).length<=(toW b).length:=by
 by_cases h2:(toW b).length<(toW a).length;·have:=Ev h2;omega
 omega
def UA (a b:Nat) (ha:(toW a).length<2^38) (hb:(toW b).length<2^38) :
  Ctr TP G 174 [.d (W (toW a)),.d (W (toW b))] [] (.d (W (toW (Afl a b)))) []:=by
 refine Ctr.pure (M:=M0) Am Tryz.func174 rfl AdQ ?_;simp only[Tryz.f174,↓Aa,Ac,Qu,Qv];refine Ak.fr 0 (α:=Nat × Nat) (fun x=>x.2) (fun x=>[(0,.d (W (toW x.1))),(1,.d (W (toW x.2)))]) (fun _=>[]) (fun x=>Afl x.1 x.2=Afl a b/\(toW x.1).length<2^38/\(toW x.2).length<2^38) (a,b) ⟨rfl,ha,hb⟩ ?_ ?_;·exact ⟨[],rfl,by simp,by simp[sA,kZ,SW,AW],by simp[HW]⟩
 rintro ⟨x,y⟩ ⟨hg,hx,hy⟩;simp only at hg hx hy;simp only[Bi,Ado];by_cases h0:y=0;·subst h0;rw[Nat.gcd_zero_right] at hg;subst hg;have e:toW 0=[]:=Bb;rw[e];simp(disch:=(try simp only[Ab]);omega)only[↓Aa,Ac,↓Qe,Qx]
 have hp:0<(toW y).length:=by
  rcases Afq (toW y).length with h | h
  ·exact absurd (Wp.1 (Ae6.1 h)) h0
  exact h
 simp(disch:=(try simp only[Ab]);omega)only[↓Aa,Ac,↓reduceIte,Qx];refine Ad.pure (Lm x y h0 hx hy) ?_;simp(disch:=(try simp only[Ab]);omega)only[↓Aa,Ac,Qu];have hlt:=Adl x (Nat.pos_of_ne_zero h0);refine ⟨(y,x % y),⟨by rw[<-hg,Afy x y];rw[Afy y (x % y)];exact (Nat.gcd_rec y x).symm,hy,?_⟩,hlt,⟨[],rfl,by simp,by simp[SW,AW],by simp[HW]⟩⟩;have:=BD (Afv hlt);simp only;omega
abbrev SP (n:Int):List D:=[.bool (decide (n<0)),W (toW n.natAbs)]
abbrev Big (n:Int):D:=.agg (SP n)
abbrev Frac (x:Rat):D:=.agg [.bool (decide (x.num<0)),W (toW x.num.natAbs),.bool false,W (toW x.den)]
abbrev sz (n:Int):Nat:=(toW n.natAbs).length
def H9 {n:Nat}:0<(toW n).length↔n≠0:=by rw[Nat.pos_iff_ne_zero,ne_eq,Ae6,Wp]
def Cr (neg:Bool) (n:Nat) (hn:(toW n).length<2^38):Ctr TP G 140 [.d (.bool neg),.d (W (toW n))] [] (.d (Big (if neg then -(n:Int) else n))) []:=by
 refine Ctr.pure (M:=M0) Am Tryz.func140 rfl Aee ?_;cases neg;·simp(disch:=(try simp only[Ab]);omega)only[Tryz.f140,↓Aa,Ac,↓reduceIte,↓Qe,Qu,Qv];simp[Big,SP,W]
 simp(disch:=(try simp only[Ab]);omega)only[Tryz.f140,↓Aa,Ac,↓reduceIte,↓Qe,Qu,Qv];have:=@H9 n;simp[Big,SP,W];omega
def Xy {a b:Nat}:(toW (a*b)).length<=(toW a).length+(toW b).length:=by refine CG ?_;rw[Afo];exact Nat.mul_lt_mul'' (C9 a) (C9 b)
def TH {a b:Nat}:(toW (a+b)).length<=max (toW a).length (toW b).length+1:=by refine CG ?_;have h1:=Adq (C9 a) (Adj (show 0<B by decide) (Nat.le_max_left (toW a).length (toW b).length));have h2:=Adq (C9 b) (Adj (show 0<B by decide) (Nat.le_max_right (toW a).length (toW b).length));generalize max (toW a).length (toW b).length=k at *;have h3:B^k*2<=B^k*B:=AeK _ (by decide);rw[Adp];omega
def Tq {n d:Int} (hd:d≠0):d.sign*n=if ¬decide (n<0)=decide (d<0) then -((n.natAbs:Nat):Int) else ((n.natAbs:Nat):Int):=by
 rcases Int.lt_or_gt_of_ne hd with h | h
 ·rw[Int.sign_eq_neg_one_of_neg h];by_cases hn:n<0<;>simp[hn,h]<;>omega
 rw[Int.sign_eq_one_of_pos h];by_cases hn:n<0<;>simp[hn,show ¬d<0 by omega]<;>omega
def W0 {m g:Nat} (h:g ∣ m):(-((m:Nat):Int)) / (g:Int)=-((m / g:Nat):Int):=by rw[Int.neg_ediv_of_dvd (Int.natCast_dvd_natCast.2 h)];rfl
def M7 {a b:Nat}:(toW (a / b)).length<=(toW a).length:=BD (AfL _ _)
def Fm (n d:Int) (hd:d≠0) (hn:sz n<2^36) (hds:sz d<2^36):Ctr TP G 139 [.d (Big n),.d (Big d)] [] (.d (Frac (Rat.divInt n d))) []:=by
 simp only[sz] at hn hds;have hg0:Afl n.natAbs d.natAbs≠0:=by intro h;exact hd (Int.natAbs_eq_zero.1 (Nat.gcd_eq_zero_iff.1 h).2)
 have hgl:(toW (Afl n.natAbs d.natAbs)).length<=(toW d.natAbs).length:=BD (Nat.gcd_le_right _ (by omega));have hx:=@M7 n.natAbs (Afl n.natAbs d.natAbs);have hy:=@M7 d.natAbs (Afl n.natAbs d.natAbs);have e1:(Rat.divInt n d).num=if ¬decide (n<0)=decide (d<0) then -((n.natAbs / Afl n.natAbs d.natAbs:Nat):Int) else ((n.natAbs / Afl n.natAbs d.natAbs:Nat):Int):=by
  rw[Rat.num_divInt,Tq hd,Int.gcd,Afy d.natAbs];split;·exact W0 (Nat.gcd_dvd_left _ _)
  rfl
 have e2:(Rat.divInt n d).den=d.natAbs / Afl n.natAbs d.natAbs:=by rw[Rat.den_divInt,if_neg hd,Int.gcd,Afy d.natAbs]
 refine Ctr.pure (M:=M0) Am Tryz.func139 rfl Aef ?_;simp(disch:=(try simp only[Ab]);omega)only[Tryz.f139,↓Aa,Ac,↓reduceIte,Qu,Qv];refine Ad.pure (UA _ _ (by omega) (by omega)) ?_;generalize Afl n.natAbs d.natAbs=g at *;simp(disch:=(try simp only[Ab]);omega)only[↓Aa,Ac,↓reduceIte,Qu];refine Ad.pure (Lm _ g hg0 (by omega) (by omega)) ?_;simp(disch:=(try simp only[Ab]);omega)only[↓Aa,Ac,↓reduceIte,Qu];refine Ad.pure (Lm _ g hg0 (by omega) (by omega)) ?_;simp(disch:=(try simp only[Ab]);omega)only[↓Aa,Ac,↓reduceIte,Qu];refine Ad.pure (Cr _ _ (by omega)) ?_;simp only[↓Aa,Ac,↓reduceIte,Qu];refine Ad.pure (Cr false _ (by omega)) ?_;simp only[Frac];rw[e1,e2];simp(disch:=(try simp only[Ab]);omega)only[↓Aa,Ac,↓reduceIte,↓Qe,Qu]
def FV (x:Rat):Prop:=sz x.num<=256/\(toW x.den).length<=256
instance (x:Rat):Decidable (FV x):=inferInstanceAs (Decidable (_/\_))
def HG (G:Ah):Prop:=G 2=some [W [1]]
def IR:toW 1=[1]:=by rw[Fi (by decide),show 1 / B=0 from rfl,Bb];rfl
def AaB {n:Nat}:SP (n:Int)=[.bool false,W (toW n)]:=by simp[SP]
abbrev Zf:D:=.agg [.bool false,.sl 0 false [],.bool false,.sl 0 false []]
def Y7 {n:Int} (h1:-9223372036854775808<=n) (h2:n<=9223372036854775807):sz n<=2:=CG (by simp only[B];omega)
abbrev BigN (n:Nat):D:=.agg [.bool false,W (toW n)]
def DR {n:Nat}:Big (n:Int)=BigN n:=by rw[Big,AaB]
end Num
section
open Go Go.Proofs Go.Abs Go.RowKit Go.ChangeShapes Go.WideShapes Go.ChangeAt Go.Shelf Go.Joins Go.Deep
def gOne:Tryz.prog.globalNamed "tablefinder/fraction.one" = some 2:=by kernel_rfl
def tOne:(Tryz.prog.globals[2]?).map (·.type)=some 205:=by kernel_rfl
def cU32:Tryz.prog.cellsOf 187=1:=by kernel_rfl
def G2 (b:Bool):Ah:=fun g=>if g=2 then some [Num.W [1]] else G1 b g
def hT2 {b:Bool}:HT (G2 b):=⟨rfl,rfl⟩
def hP2 {b:Bool}:HP (G2 b):=rfl
def hI2 {b:Bool}:HI (G2 b):=Adg hP2
def hG2 {b:Bool}:Num.HG (G2 b):=by simp[Num.HG,G2]
def AbG {X:World} {b:Bool} (h0:S5 (G1 b) X) (h:Lib.VarReads TP X "tablefinder/fraction.one" Rows.laid_tablefinder_fraction_one):S5 (G2 b) X:=by
 obtain ⟨g,t,cs,fuel,p,hg,ht,hv,hd⟩:=h;obtain rfl:=Option.some.inj (gOne.symm.trans hg);obtain rfl:=Option.some.inj (tOne.symm.trans ht);rcases open_ints Tryz.underlying205 Tryz.underlying187 cU32 hd with ⟨_,hx⟩ | ⟨a,len,cap,zs,hcs,_,hl,hm,hz,hx,hcell,_⟩
 ·simp[Rows.laid_tablefinder_fraction_one] at hx
 have hz:zs.length=cap:=by simpa using hz
 simp only[Rows.laid_tablefinder_fraction_one,Prod.mk.injEq,DataW.slice.injEq] at hx;obtain ⟨⟨h1,h2⟩,_⟩:=hx;have e1:(zs.take len).length=1:=by have:=congrArg List.length h1;simpa[lits] using this.symm
 have e2:(zs.drop len).length=0:=by have:=congrArg List.length h2;simpa[lits] using this.symm
 have e3:len=1/\cap=1:=by simp at e1 e2;omega
 obtain ⟨rfl,rfl⟩:=e3;obtain ⟨z,rfl⟩:∃ z,zs=[z]:=by
  match zs,hz with
  | [z],_=>exact ⟨z,rfl⟩
 have ez:z=1:=by have:=h1;simp[lits] at this;exact this.symm
 subst ez;have hz0:=World.var?_cell hg hv 0;have e4:cs[0]?=some (.slice (some a) 1 1):=by
  have:cs=#[.slice (some a) 1 1]:=by rw[<-Array.toArray_toList (xs:=cs),hcs]
  rw[this];rfl
 rw[e4] at hz0;rcases Xn (W:=X) (k:=.u32) hl (by simp) hcell with hr | hr
 ·intro g ds hgd;simp only[G2] at hgd;split at hgd
  ·rename_i hgg;subst hgg;cases hgd;refine ⟨fun _=>.slice (some a) 1 1,fun i x hx=>?_,fun i x hx=>?_⟩
   ·rcases i with _ | i
    ·exact hz0
    simp at hx
   rcases i with _ | i
   ·simp at hx;subst hx;exact hr
   simp at hx
  exact h0 g ds hgd
 cases hr
end
end Go.Proofs.YtmidaophnbdcdaaGreatDoor
