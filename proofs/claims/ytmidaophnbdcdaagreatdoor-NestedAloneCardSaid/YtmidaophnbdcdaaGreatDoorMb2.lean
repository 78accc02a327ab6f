/-
  Digits in base 2^32: plain.
-/
import Derived.Test.YtmidaophnbdcdaaGreatDoorMb1
set_option linter.all false
open Go.Abs renaming A4→HW,Dx→BW,Ci→SW,Aq→AW,BI→sA,Aw→kA
open Go.Proofs.Tryz renaming prog→TP
set_option maxHeartbeats 4000000
set_option maxRecDepth 1000000
open Go.Abs renaming EL→Qa,B1→Qb,BB→Qc,BT→Qd,Eq→Qe,AF→Qf,AJ→Qg,AA→Qh,Bf→Qi,C9→Qj,DW→Qk,EK→Ql,BS→Qm,BV→Qn,BA→Qo,CM→Qr,unfA→Qs,FSa→QJ,IOa→QL,Cm→QM,Dw→QN,Fr→QO,CY→QP,BM→QQ
open Go.Abs.AV renaming one→Qp
open Go.Abs.D renaming one→Qq
open Go.IntKind renaming signed→Qt
open Nat renaming reduceAdd→Qu,reduceSub→Qv,reduceMul→Qw,reducePow→Qx,reduceDiv→Qy,reduceMod→Qz,reduceEqDiff→QI,reduceBEq→QK
open Int renaming reduceAdd→QA,reduceSub→QB,reduceMul→QC,reducePow→QD,reduceNeg→QE,reduceToNat→QF,reduceLT→QG,reduceLE→QH
open List renaming getD_eq_getElem?_getD→AcB,take_of_length_le→AdT,replicate→AdV,getElem?_append_right→Afv,drop_eq_getElem_cons→AfR,set_cons_zero→AfS,getElem?_eq_getElem→AfT,replicate_succ→AfV,set_append_right→AfW,mem_cons→AfZ,length_eq_zero_iff→Af1,set_cons_succ→Af3,getElem?_eq_none→Af8,append_assoc→Af9,getElem?_append_left→Agc,drop_of_length_le→Agh,cons_append→Agj,length_cons→Agk,getElem?_take→Agq,getElem?_drop→Ags,not_mem_nil→Agv,foldl→Agw,drop_length→AgN,take_length→AgO,take_left'→AgT,take_take→AgU,drop_zero→AgV,nodup_nil→AgX
open Nat renaming mul_comm→AdU,mul_assoc→AdW,mul_le_mul_right→AdX,mul_add→AdY,add_mul→AdZ,pow_succ→Ad0,div_lt_iff_lt_mul→Ad1,mod_add_div→Ae1,mod_lt→Ae2,mod_eq_of_lt→Ae3,pow_le_pow_right→Afs,reduceMod→Afw,reduceDiv→AfI,mul_le_mul_left→AfJ,lt_of_lt_of_le→AfN,div_eq_of_lt→AfO,le_refl→AfP,div_div_eq_div_mul→AfQ,add_zero→AfU,add_mul_mod_self_left→AfX,add_mul_div_left→AfY,add_sub_cancel_left→Af0,one_mul→Af2,mul_zero→Af4,min_eq_left→Af5,testBit_two_pow_sub_succ→Af6,two_pow_pos→Af7,pow_add→Aga,le_of_lt→Agb,and_lt_two_pow→Agd,zero_add→Age,testBit_eq_decide_div_mod_eq→Agf,sub_self→Agg,le_div_iff_mul_le→Agi,gcd→Agl,shiftLeft_add_eq_or_of_lt→Agm,log2_lt→Agn,div_lt_self→Ago,mul_lt_mul_of_pos_right→Agp,eq_zero_or_pos→Agr,mul_one→Agt,add_assoc→Agu,lt_trans→Agx,gcd_comm→Agy,strongRecOn→Agz,log2_eq_iff→AgA,mul_le_mul→AgB,xor_lt_two_pow→AgC,add_sub_cancel→AgD,mul_right_comm→AgE,lt_of_le_of_lt→AgF,or_lt_two_pow→AgG,le_pred_of_lt→AgH,mul_left_comm→AgI,le_trans→AgK,lt_succ_self→AgL,shiftLeft_eq→AgM,testBit_and→AgP,testBit_xor→AgQ,mul_add_div→AgR,div_le_self→AgS,add_comm→AgY,zero_mul→AgZ,zero_le→Ag0,pow_pos→Ag1,sub_lt→Ag2
open Int renaming toNat_natCast→AgJ,ofNat_tdiv→AgW
namespace Go.Proofs.YtmidaophnbdcdaaGreatDoor.Num
open Go Go.Proofs Go.Abs
structure Hid (p:Prop):Prop where
 out:p
def B:Nat:=4294967296
def val:List Nat→Nat
 | []=>0
 | d::l=>d+B*val l
def toW (n:Nat):List Nat:=if h:n=0 then [] else n % B::toW (n / B)
termination_by n
decreasing_by exact Ago (by omega) (by decide)
def Dig (l:List Nat):Prop:=∀ d,d∈l→d<B
theorem Bq:toW 0=[]:=by rw[toW];simp
theorem EI {n:Nat} (h:n≠0):toW n=n % B::toW (n / B):=by rw[toW];simp[h]
theorem C7 (n:Nat):val (toW n)=n:=by
 induction n using Agz with
 | _ n ih =>
  by_cases h:n=0
  ·subst h;rw[Bq];rfl
  ·rw[EI h,val,ih (n / B) (Ago (by omega) (by decide))]
   exact Ae1 n B
theorem Dt (n:Nat):Dig (toW n):=by
 induction n using Agz with
 | _ n ih =>
  by_cases h:n=0
  ·subst h;rw[Bq];intro d hd;cases hd
  ·rw[EI h]
   intro d hd
   rcases AfZ.1 hd with rfl | hd
   ·exact Ae2 _ (by decide)
   ·exact ih (n / B) (Ago (by omega) (by decide)) d hd
theorem Ck (l m:List Nat):val (l++m)=val l+B^l.length*val m:=by
 induction l with
 | nil=>simp[val]
 | cons d l ih=>simp only[Agj,val,ih,Agk,Ad0,AdY];rw[Agu];congr 2;rw[←AdW,AdU B]
theorem Gh {l:List Nat} (h:Dig l):val l<B^l.length:=by
 induction l with
 | nil=>simp[val]
 | cons d l ih =>
  have h1:=h d (by simp)
  have h2:=ih fun x hx=>h x (by simp[hx])
  simp only[val,Agk,Ad0]
  have:B*(val l+1)≤B*B^l.length:=AfJ _ h2
  rw[AdU (B^l.length)]
  rw[AdY] at this
  omega
theorem Dig.append {l m:List Nat} (h1:Dig l) (h2:Dig m):Dig (l++m):=fun d hd=>by
 rcases List.mem_append.1 hd with h | h
 ·exact h1 d h
 ·exact h2 d h
theorem Dig.take {l:List Nat} (h:Dig l) (n:Nat):Dig (l.take n):=fun d hd=>h d (List.mem_of_mem_take hd)
theorem Dig.drop {l:List Nat} (h:Dig l) (n:Nat):Dig (l.drop n):=fun d hd=>h d (List.mem_of_mem_drop hd)
theorem Dig.getD {l:List Nat} (h:Dig l) (i:Nat):l.getD i 0<B:=by
 rw[AcB]
 cases e:l[i]? with
 | none=>decide
 | some x=>exact h x (List.mem_of_getElem? e)
theorem R0 {l:List Nat} {k:Nat} (h:k<l.length):l.take (k+1)=l.take k++[l.getD k 0]:=by
 rw[List.take_add_one,AcB,AfT h];rfl
theorem Hl {l:List Nat} {k:Nat} (h:k<l.length):val (l.take (k+1))=val (l.take k)+B^k*l.getD k 0:=by
 rw[R0 h,Ck]
 simp[val,Af5 (Agb h)]
theorem VL {l:List Nat} (h:Dig l) (hl:l=[]∨l.getD (l.length-1) 0≠0):toW (val l)=l:=by
 induction l with
 | nil=>exact Bq
 | cons d l ih =>
  have h1:=h d (by simp)
  have hB:(0:Nat)<B:=by decide
  have hv:val (d::l)≠0:=by
   simp only[val]
   by_cases hn:l=[]
   ·subst hn;simp at hl;simp[val];omega
   ·have h3:=ih (fun x hx=>h x (by simp[hx])) (.inr (by
     rcases hl with h0 | h0
     ·cases h0
     ·have:l.length≠0:=by simpa using hn
      have e:(d::l).length-1=(l.length-1)+1:=by simp;omega
      rw[e] at h0;simpa using h0))
    intro h0
    have:val l=0:=by
     have:=Nat.eq_zero_of_add_eq_zero_left h0
     rcases Nat.mul_eq_zero.1 this with h | h
     ·omega
     ·exact h
    rw[this,Bq] at h3
    exact hn h3.symm
  rw[EI hv]
  have e1:val (d::l) % B=d:=by simp only[val];rw[AfX];exact Ae3 h1
  have e2:val (d::l) / B=val l:=by simp only[val];rw[AfY _ _ hB,AfO h1,Age]
  rw[e1,e2]
  by_cases hn:l=[]
  ·subst hn;simp[val,Bq]
  ·rw[ih (fun x hx=>h x (by simp[hx])) (.inr (by
     rcases hl with h0 | h0
     ·cases h0
     ·have:l.length≠0:=by simpa using hn
      have e:(d::l).length-1=(l.length-1)+1:=by simp;omega
      rw[e] at h0;simpa using h0))]
theorem VM {n:Nat} (h:n≠0):(toW n).getD ((toW n).length-1) 0≠0:=by
 induction n using Agz with
 | _ n ih =>
  rw[EI h]
  by_cases h2:n / B=0
  ·rw[h2,Bq]
   simp
   have:n<B:=by
    rcases Nat.div_eq_zero_iff.1 h2 with h | h
    ·exact absurd h (by decide)
    ·exact h
   rw[Ae3 this];exact h
  ·have:=ih _ (Ago (by omega) (by decide)) h2
   have hl:(toW (n / B)).length≠0:=by rw[EI h2];simp
   have e:(n % B::toW (n / B)).length-1=((toW (n / B)).length-1)+1:=by simp;omega
   rw[e]
   simpa using this
theorem Tk {n:Nat}:toW n=[]↔n=0:=by
 constructor
 ·intro h
  have:=C7 n
  rw[h] at this
  exact this.symm
 ·rintro rfl;exact Bq
theorem DN {n k:Nat} (h:n<B^k):(toW n).length≤k:=by
 induction k generalizing n with
 | zero=>have:n=0:=by simpa using h
         subst this;simp[Bq]
 | succ k ih =>
  by_cases h0:n=0
  ·subst h0;simp[Bq]
  ·rw[EI h0]
   simp only[Agk]
   have:n / B<B^k:=by
    rw[Ad1 (by decide)]
    rw[←Ad0];exact h
   have:=ih this
   omega
theorem Ju {n k:Nat} (h:k<(toW n).length):B^k≤n:=by
 by_cases hn:B^k≤n
 ·exact hn
 ·have:=DN (n:=n) (k:=k) (by omega)
  omega
theorem Nn (n:Nat):n<B^(toW n).length:=by
 have:=Gh (Dt n)
 rwa[C7] at this
theorem Ae6 {n:Nat} (h:n<4294967296):n / 2147483648=(n.testBit 31).toNat:=by
 rw[Agf,show (2:Nat)^31=2147483648 from rfl]
 by_cases h1:n / 2147483648=1
 ·simp[h1]
 ·have:n / 2147483648=0:=by omega
  simp[this]
theorem S4 {n:Nat} (h:n<4294967296):n.testBit 31=decide (2147483648≤n):=by
 rw[Agf,show (2:Nat)^31=2147483648 from rfl]
 apply decide_eq_decide.2
 omega
theorem Aa1 {x y c d:Nat} (hx:x<4294967296) (hy:y<4294967296) (hc:c≤1) (hd:d=(x+4294967296-y-c) % 4294967296) :
  (((4294967295-x) &&& y) ||| ((4294967295-(x ^^^ y)) &&& d)) / 2147483648=if x<y+c then 1 else 0:=by
 have hxy:x ^^^ y<2^32:=AgC (by omega) (by omega)
 have hd':d<4294967296:=by omega
 have h1:((4294967295-x) &&& y)<2^32:=Agd _ (by omega)
 have h2:((4294967295-(x ^^^ y)) &&& d)<2^32:=Agd _ (by omega)
 have h3:=AgG h1 h2
 rw[Ae6 (by omega),Nat.testBit_or,AgP,AgP]
 rw[show 4294967295-x=2^32-(x+1) by omega,show 4294967295-(x ^^^ y)=2^32-((x ^^^ y)+1) by omega,Af6 (by omega),Af6 hxy,AgQ,
  S4 hx,S4 hy,S4 hd']
 by_cases a:2147483648≤x<;>by_cases b:2147483648≤y<;>by_cases e:2147483648≤d<;>by_cases f:x<y+c<;>simp[a,b,e,f]<;>omega
theorem AaT {n:Nat} (h:n<4294967296):4294967295 ^^^ n=4294967295-n:=by
 apply Nat.eq_of_testBit_eq
 intro i
 rw[show 4294967295-n=2^32-(n+1) by omega,Af6 (by omega),AgQ,show (4294967295:Nat)=2^32-1 from rfl,Nat.testBit_two_pow_sub_one]
 by_cases hi:i<32
 ·simp[hi]
 ·have:n.testBit i=false:=Nat.testBit_lt_two_pow (AfN h (by
   calc 4294967296=2^32:=rfl
    _≤2^i:=Afs (by decide) (by omega)))
  simp[hi,this]
theorem VA {n:Nat} (h:n<4294967296):C5 .xor .u32 4294967295 (n:Int)=((4294967295-n:Nat):Int):=by
 have:=GK (a:=4294967295) (b:=n) (by omega) h
 rw[AaT h] at this
 exact this
theorem GS {l:List Nat} {k:Nat} (h:k<l.length):val l=val (l.take k)+B^k*(l.getD k 0+B*val (l.drop (k+1))):=by
 have e:l=l.take k++l.getD k 0::l.drop (k+1):=by
  rw[AcB,AfT h]
  simp
 conv=>lhs;rw[e]
 rw[Ck]
 simp[val,Af5 (Agb h)]
theorem MJ {l m:List Nat} {k:Nat} (hl:Dig l) (h1:k<l.length) (h2:k<m.length) (h3:l.drop (k+1)=m.drop (k+1)) (h4:l.getD k 0<m.getD k 0):val l<val m:=by
 rw[GS h1,GS h2,h3]
 have h5:=Gh (hl.take k)
 rw[List.length_take,Af5 (Agb h1)] at h5
 have h6:B^k*(l.getD k 0+1+B*val (m.drop (k+1)))≤B^k*(m.getD k 0+B*val (m.drop (k+1))):=AfJ _ (by omega)
 rw[show l.getD k 0+1+B*val (m.drop (k+1))=(l.getD k 0+B*val (m.drop (k+1)))+1 by omega,AdY,Agt] at h6
 omega
theorem Zu {l m:List Nat} {k:Nat} (h1:k<l.length) (h2:k<m.length) (h3:l.drop (k+1)=m.drop (k+1)) (h4:l.getD k 0=m.getD k 0):l.drop k=m.drop k:=by
 rw[AfR h1,AfR h2,h3]
 simp[AcB,AfT h1,AfT h2] at h4
 rw[h4]
theorem Fw {a b:Nat} (h:(toW a).length<(toW b).length):a<b:=AfN (Nn a) (Ju h)
theorem Jf {x y c:Nat} (hx:x<B) (hy:y<B) (hc:c≤1):(x+B-y-c) % B+y+c=x+B*(if x<y+c then 1 else 0):=by
 simp only[B] at *;split<;>omega
def cmpI (a b:Int):Int:=if a<b then -1 else if b<a then 1 else 0
theorem I1 {a b:Int} (h:a<b):cmpI a b=-1:=by simp[cmpI,h]
theorem I2 {a b:Int} (h:b<a):cmpI a b=1:=by simp[cmpI,h,show ¬a<b by omega]
theorem EW {a b:Int} (h:a=b):cmpI a b=0:=by simp[cmpI,h]
theorem NO {a b:Int}:cmpI a b=0↔a=b:=by
 refine ⟨fun h=>?_,EW⟩
 by_cases h1:a<b
 ·rw[I1 h1] at h;omega
 ·by_cases h2:b<a
  ·rw[I2 h2] at h;omega
  ·omega
theorem T9 {a b c d:Int} (h1:a<b→c<d) (h2:b<a→d<c) (h3:a=b→c=d):cmpI a b=cmpI c d:=by
 by_cases h:a<b
 ·rw[I1 h,I1 (h1 h)]
 ·by_cases h':b<a
  ·rw[I2 h',I2 (h2 h')]
  ·have:a=b:=by omega
   rw[EW this,EW (h3 this)]
theorem BD (l:List Nat) (k:Nat):val (l.take (k+1))=val (l.take k)+B^k*l.getD k 0:=by
 by_cases h:k<l.length
 ·exact Hl h
 ·rw[AdT (by omega),AdT (by omega),AcB,Af8 (by omega)]
  simp
theorem Ti {l:List Nat} {p d:Nat} (h:p<l.length):val (l.set p d)+B^p*l.getD p 0=val l+B^p*d:=by
 have h1:=GS (l:=l.set p d) (k:=p) (by simpa using h)
 have h2:=GS h
 rw[List.take_set_of_le (AfP _),List.drop_set_of_lt (AgL p),AcB,List.getElem?_set_self h] at h1
 simp only[Option.getD_some,AdY,Nat.succ_eq_add_one] at h1 h2
 omega
theorem Dig.set {l:List Nat} (h:Dig l) {p d:Nat} (hd:d<B):Dig (l.set p d):=fun x hx=>by
 rcases List.mem_or_eq_of_mem_set hx with h1 | h1
 ·exact h x h1
 ·omega
theorem Dig.zeros (n:Nat):Dig (AdV n 0):=fun d hd=>by
 have:=List.eq_of_mem_replicate hd
 subst this;decide
theorem Ul (n:Nat):val (AdV n 0)=0:=by
 induction n with
 | zero=>rfl
 | succ n ih=>simp[AfV,val,ih]
theorem Jr {x y:Nat} (hx:x<B) (hy:y<B):x*y≤18446744065119617025:=by
 simp only[B] at *
 exact AgB (AgH hx) (AgH hy)
theorem RW {q o m:List Nat} {i j c x s:Nat} (hp:i+j<q.length) (hs:s=c+(x*m.getD j 0+q.getD (i+j) 0)) (hv:val q+B^(i+j)*c=val o+B^i*(x*val (m.take j))) :
  val (q.set (i+j) (s % B))+B^(i+(j+1))*(s / B)=val o+B^i*(x*val (m.take (j+1))):=by
 have h1:=Ti (l:=q) (p:=i+j) (d:=s % B) hp
 have h2:=Ae1 s B
 have h3:B^(i+j)*(s % B)+B^(i+(j+1))*(s / B)=B^(i+j)*s:=by
  rw[←Agu i j 1,Ad0,AdW,←AdY,h2]
 have h4:B^(i+j)*s=B^(i+j)*c+(B^i*(x*(B^j*m.getD j 0))+B^(i+j)*q.getD (i+j) 0):=by
  rw[hs,AdY,AdY]
  congr 2
  rw[Aga,AdW,AgI (B^j)]
 have h5:B^i*(x*val (m.take (j+1)))=B^i*(x*val (m.take j))+B^i*(x*(B^j*m.getD j 0)):=by
  rw[BD,AdY,AdY]
 omega
theorem Us {q o l:List Nat} {i k c b:Nat} (hp:i+k<q.length) (hz:q.getD (i+k) 0=0) (hv:val q+B^(i+k)*c=val o+B^i*(l.getD i 0*b)) (ho:val o=val (l.take i)*b) :
  val (q.set (i+k) c)=val (l.take (i+1))*b:=by
 have h1:=Ti (l:=q) (p:=i+k) (d:=c) hp
 rw[hz] at h1
 have h2:val (l.take (i+1))*b=val (l.take i)*b+B^i*(l.getD i 0*b):=by rw[BD,AdZ,AdW]
 omega
theorem Ih {n:Nat}:IntKind.u32.wrap (n:Int)=((n % 4294967296:Nat):Int):=by simp[IntKind.wrap,IntKind.bits,IntKind.signed]
theorem Aa9 {n:Nat}:IntKind.u64.wrap (n:Int)=((n % 18446744073709551616:Nat):Int):=by simp[IntKind.wrap,IntKind.bits,IntKind.signed]
theorem J5 {l:List Nat} {p r d:Nat} (h:p≠r):(l.set p d).getD r 0=l.getD r 0:=by
 simp[AcB,List.getElem?_set_ne h]
theorem AaO {h x:Nat} (hx:x<4294967296):h*4294967296 ||| x=h*4294967296+x:=by
 have:=Agm (i:=32) (a:=h) (b:=x) hx
 rw[AgM] at this
 exact this.symm
theorem Wl {h x:Nat} (hh:h<4294967296) (hx:x<4294967296):C5 .or .u64 ((h:Int)*4294967296) (x:Int)=((h*4294967296+x:Nat):Int):=by
 have:=Vn (a:=((h*4294967296:Nat):Int)) (b:=(x:Int)) (by omega) (by omega) (by omega) (by omega)
 rw[AgJ,AgJ,AaO hx] at this
 exact this
theorem HM {n k:Nat} (h:n / 2^k≠0):n.log2=k+(n / 2^k).log2:=by
 have hp:0<2^k:=Af7 k
 have hn:n≠0:=by intro h0;subst h0;simp at h
 have h1:=(AgA h).1 rfl
 refine (AgA hn).2 ⟨?_,?_⟩
 ·rw[Aga,AdU]
  exact (Agi hp).1 h1.1
 ·rw[Agu,Aga,AdU]
  exact (Ad1 hp).1 h1.2
theorem J7 {r x d:Nat} (hr:r<d) (hx:x<B):(r*B+x) / d<B:=by
 rw[Ad1 (by omega)]
 have:(r+1)*B≤d*B:=AdX _ hr
 rw[AdZ,Af2] at this
 rw[AdU B]
 omega
theorem R8 {q l:List Nat} {k r d:Nat} (h:k<l.length) (hv:val (l.drop (k+1))=val q*d+r) :
  val (l.drop k)=val ((r*B+l.getD k 0) / d::q)*d+(r*B+l.getD k 0) % d:=by
 have e:l.drop k=l.getD k 0::l.drop (k+1):=by
  rw[AfR h,AcB,AfT h];rfl
 rw[e,val,hv,val]
 have h1:=Ae1 (r*B+l.getD k 0) d
 generalize (r*B+l.getD k 0) / d=a at *
 generalize (r*B+l.getD k 0) % d=b at *
 rw[AdU d a] at h1
 rw[AdZ,AdY,AdW,AdU B r]
 omega
theorem Ty {q:List Nat} {k v:Nat}:(0::(AdV k 0++q)).set k v=AdV k 0++v::q:=by
 have e:0::(AdV k 0++q)=AdV k 0++0::q:=by
  rw[←Agj,←AfV,List.replicate_succ',Af9];rfl
 rw[e,AfW _ _ (by simp)]
 simp
def Bo:Nat→Nat→List Nat
 | 0,_=>[]
 | k+1,n=>n % B::Bo k (n / B)
theorem A3 (k n:Nat):(Bo k n).length=k:=by
 induction k generalizing n with
 | zero=>rfl
 | succ k ih=>simp[Bo,ih]
theorem Ez (k n:Nat):Dig (Bo k n):=by
 induction k generalizing n with
 | zero=>intro d h;cases h
 | succ k ih =>
  intro d h
  rcases AfZ.1 h with rfl | h
  ·exact Ae2 _ (by decide)
  ·exact ih _ d h
theorem Re {l:List Nat} (h:Dig l):Bo l.length (val l)=l:=by
 induction l with
 | nil=>rfl
 | cons d l ih =>
  have h1:=h d (by simp)
  have hB:(0:Nat)<B:=by decide
  simp only[Agk,Bo,val]
  rw[AfX,Ae3 h1,AfY _ _ hB,AfO h1,Age,ih fun x hx=>h x (by simp[hx])]
theorem Gi {k n:Nat} (h:n<B^k):val (Bo k n)=n:=by
 induction k generalizing n with
 | zero=>have:n=0:=by simpa using h
         subst this;rfl
 | succ k ih =>
  simp only[Bo,val]
  rw[ih]
  ·exact Ae1 n B
  ·rw[Ad1 (by decide),←Ad0];exact h
theorem KN {l:List Nat} {k n:Nat} (h:Dig l) (hk:l.length=k) (hv:val l=n):l=Bo k n:=by
 subst hk;subst hv;exact (Re h).symm
abbrev W (l:List Nat):D:=.sl l.length false (AK .u32 l)
variable {G:Ad}
abbrev M0:BZ:=fun _=>false
theorem O7 (l:List Nat) (i:Nat) :
  Ctr TP G 173 [.d (W l),.d (.int .i64 i)] [] (.d (.int .u32 (l.getD i 0:Nat))) []:=by
 refine Ctr.pure (M:=M0) Am Tryz.func173 rfl Aeo ?_
 simp(maxSteps:=1000000)(disch:=(try simp only[awL]);omega)only[Tryz.f173,↓awU,awY,↓reduceIte,↓reduceDIte,↓Qe,Qu,Qv,Qw,Qx,Qy,Qz,QA,QB,QC,QD,QE,QF,QG,QH,QI,QK]
 intro h
 rw[AcB,Af8 (by omega)];rfl
theorem Ea (l:List Nat) (hd:Dig l) (hl:l.length<2^60):Ctr TP G 171 [.d (W l)] [] (.d (W (toW (val l)))) []:=by
 refine Ctr.pure (M:=M0) Am Tryz.func171 rfl ZY ?_
 simp only[Tryz.f171,↓awU,awV,awF,Qa,Qb,Qc,Qd,forall_const,↓reduceIte,↓reduceDIte,↓Qe,Qf,Qg,Qh,Qi,Qj,Qk,Ql,Qm,Qn,Qo,Qp,Qq,Qr,Qs,implies_true,Qt,Qu,Qv,Qw,Qx,Qy,Qz,QA,QB,QC,QD,QE,QF,QG,QH,QI,QJ,QK,QL,QM,QN,QO,QP,QQ]
 refine Au.inv (α:=Nat) (fun k=>k) (fun k=>mkS 21 [(0,.d (.sl k false (AK .u32 (l.take k))))]) (fun _=>[]) (fun k=>k≤l.length∧val (l.take k)=val l) l.length ⟨AfP _,by simp⟩ (.pure ?_) ?_
 ·simp[mkS,SW,AW]
 ·rintro k ⟨hk,hv⟩
  simp only[mkS,Agw,AdV,AfS,Af3]
  simp(maxSteps:=1000000)(disch:=(try simp only[awL]);omega)only[↓awU,awY,↓reduceIte,↓reduceDIte,↓Qe,Qu,Qv,Qw,Qx,Qy,Qz,QA,QB,QC,QD,QE,QF,QG,QH,QI,QK]
  refine ⟨fun h=>⟨fun h0=>⟨k-1,⟨by omega,?_⟩,Ag2 (by omega) (by decide),.pure ?_⟩,fun h0=>?_⟩,fun h=>?_⟩
  ·have e:((k:Int)-1).toNat=k-1:=by omega
   rw[e,AcB,Agq,if_pos (by omega),←AcB] at h0
   have:=Hl (l:=l) (k:=k-1) (by omega)
   rw[show k-1+1=k by omega,hv] at this
   rw[this,show l.getD (k-1) 0=0 by omega];simp
  ·have e:((k:Int)-1).toNat=k-1:=by omega
   simp[SW,AW,e,AgU]
  ·have e:((k:Int)-1).toNat=k-1:=by omega
   rw[e] at h0
   have:=VL (hd.take k) (.inr (by rw[show (l.take k).length-1=k-1 by simp;omega];omega))
   rw[hv] at this
   rw[this];simp[W,hk,Af5]
  ·have:k=0:=by omega
   subst this
   have:val l=0:=by rw[←hv];rfl
   rw[this,Bq];rfl
theorem Nr (a:Int):Ctr TP G 246 [.d (.int .i64 a)] [] (.d (.bool false)) []:=by
 refine Ctr.pure (M:=M0) Am Tryz.func246 rfl ZT ?_
 simp(maxSteps:=1000000)(disch:=(try simp only[awL]);omega)only[Tryz.f246,↓awU,awY,↓reduceIte,↓reduceDIte,↓Qe,Qu,Qv,Qw,Qx,Qy,Qz,QA,QB,QC,QD,QE,QF,QG,QH,QI,QK]
theorem Nq (a:Int):Ctr TP G 247 [.d (.int .u32 a)] [] (.d (.bool false)) []:=by
 refine Ctr.pure (M:=M0) Am Tryz.func247 rfl Ad2 ?_
 simp(maxSteps:=1000000)(disch:=(try simp only[awL]);omega)only[Tryz.f247,↓awU,awY,↓reduceIte,↓reduceDIte,↓Qe,Qu,Qv,Qw,Qx,Qy,Qz,QA,QB,QC,QD,QE,QF,QG,QH,QI,QK]
theorem Zz (a b:Int):Ctr TP G 221 [.d (.int .i64 a),.d (.int .i64 b)] [] (.d (.int .i64 (cmpI a b))) []:=by
 refine Ctr.pure (M:=M0) Am Tryz.func221 rfl ZU ?_
 simp(maxSteps:=1000000)(disch:=(try simp only[awL]);omega)only[Tryz.f221,↓awU,awY,↓reduceIte,↓reduceDIte,↓Qe,Qu,Qv,Qw,Qx,Qy,Qz,QA,QB,QC,QD,QE,QF,QG,QH,QI,QK]
 refine Ab.pure (Nr _) ?_
 simp(maxSteps:=1000000)(disch:=(try simp only[awL]);omega)only[↓awU,awY,↓reduceIte,↓reduceDIte,↓Qe,Qu,Qv,Qw,Qx,Qy,Qz,QA,QB,QC,QD,QE,QF,QG,QH,QI,QK]
 refine Ab.pure (Nr _) ?_
 simp(maxSteps:=1000000)(disch:=(try simp only[awL]);omega)only[↓awU,awY,↓reduceIte,↓reduceDIte,↓Qe,Qu,Qv,Qw,Qx,Qy,Qz,QA,QB,QC,QD,QE,QF,QG,QH,QI,QK]
 refine ⟨fun h=>(I1 h).symm,fun h=>⟨fun h'=>(I2 h').symm,fun h'=>(EW (by omega)).symm⟩⟩
theorem Zy (a b:Int):Ctr TP G 222 [.d (.int .u32 a),.d (.int .u32 b)] [] (.d (.int .i64 (cmpI a b))) []:=by
 refine Ctr.pure (M:=M0) Am Tryz.func222 rfl Ad6 ?_
 simp(maxSteps:=1000000)(disch:=(try simp only[awL]);omega)only[Tryz.f222,↓awU,awY,↓reduceIte,↓reduceDIte,↓Qe,Qu,Qv,Qw,Qx,Qy,Qz,QA,QB,QC,QD,QE,QF,QG,QH,QI,QK]
 refine Ab.pure (Nq _) ?_
 simp(maxSteps:=1000000)(disch:=(try simp only[awL]);omega)only[↓awU,awY,↓reduceIte,↓reduceDIte,↓Qe,Qu,Qv,Qw,Qx,Qy,Qz,QA,QB,QC,QD,QE,QF,QG,QH,QI,QK]
 refine Ab.pure (Nq _) ?_
 simp(maxSteps:=1000000)(disch:=(try simp only[awL]);omega)only[↓awU,awY,↓reduceIte,↓reduceDIte,↓Qe,Qu,Qv,Qw,Qx,Qy,Qz,QA,QB,QC,QD,QE,QF,QG,QH,QI,QK]
 refine ⟨fun h=>(I1 h).symm,fun h=>⟨fun h'=>(I2 h').symm,fun h'=>(EW (by omega)).symm⟩⟩
theorem Z5 (x y c:Nat) (hx:x<B) (hy:y<B) (hc:c≤1):Ctr TP G 172 [.d (.int .u32 x),.d (.int .u32 y),.d (.int .u32 c)] []
  (.d (.tup [.int .u32 ((x+y+c) % B:Nat),.int .u32 ((x+y+c) / B:Nat)])) []:=by
 refine Ctr.pure (M:=M0) Am Tryz.func172 rfl Aep ?_
 simp only[B] at *
 simp(maxSteps:=1000000)(disch:=(try simp only[awL]);omega)only[Tryz.f172,↓awU,awY,↓reduceIte,↓reduceDIte,↓Qe,Qu,Qv,Qw,Qx,Qy,Qz,QA,QB,QC,QD,QE,QF,QG,QH,QI,QK]
 rw[show IntKind.u32.wrap ((x+y+c:Nat):Int)=(((x+y+c) % 4294967296:Nat):Int) by simp[IntKind.wrap,IntKind.bits,IntKind.signed]]
 simp
theorem ZO (x y c:Nat) (hx:x<B) (hy:y<B) (hc:c≤1):Ctr TP G 225 [.d (.int .u32 x),.d (.int .u32 y),.d (.int .u32 c)] []
  (.d (.tup [.int .u32 ((x+B-y-c) % B:Nat),.int .u32 ((if x<y+c then 1 else 0:Nat):Int)])) []:=by
 refine Ctr.pure (M:=M0) Am Tryz.func225 rfl Ad3 ?_
 simp only[B] at *
 simp(maxSteps:=1000000)(disch:=(try simp only[awL]);omega)only[Tryz.f225,↓awU,awY,↓reduceIte,↓reduceDIte,↓Qe,Qu,Qv,Qw,Qx,Qy,Qz,QA,QB,QC,QD,QE,QF,QG,QH,QI,QK]
 have e1:IntKind.u32.wrap (IntKind.u32.wrap ((x:Int)-(y:Int))-(c:Int))=(((x+4294967296-y-c) % 4294967296:Nat):Int):=by
  simp[IntKind.wrap,IntKind.bits,IntKind.signed];omega
 have hxy:x ^^^ y<2^32:=AgC (by omega) (by omega)
 have h1:((4294967295-x) &&& y)<2^32:=Agd _ (by omega)
 have h2:((4294967295-(x ^^^ y)) &&& ((x+4294967296-y-c) % 4294967296))<2^32:=Agd _ (by omega)
 rw[e1,GK hx hy,VA hx,VA hxy,GL (by omega) hy,GL (by omega) (by omega),Ht h1 h2]
 have:=Aa1 hx hy hc rfl
 rw[←this]
 rfl
end Go.Proofs.YtmidaophnbdcdaaGreatDoor.Num
namespace Go.Proofs.YtmidaophnbdcdaaGreatDoor.Num
open Go Go.Proofs Go.Abs
variable {G:Ad}
theorem compare_spec (a b:Nat) (ha:(toW a).length<2^40) (hb:(toW b).length<2^40) :
  Ctr TP G 202 [.d (W (toW a)),.d (W (toW b))] [] (.d (.int .i64 (cmpI a b))) []:=by
 have da:=Dt a
 have db:=Dt b
 have va:=C7 a
 have vb:=C7 b
 have la:=@Fw a b
 have lb:=@Fw b a
 generalize toW a=l at *
 generalize toW b=m at *
 refine Ctr.pure (M:=M0) Am Tryz.func202 rfl Aed ?_
 simp(maxSteps:=1000000)(disch:=(try simp only[awL]);omega)only[Tryz.f202,↓awU,awY,↓reduceIte,↓reduceDIte,↓Qe,Qu,Qv,Qw,Qx,Qy,Qz,QA,QB,QC,QD,QE,QF,QG,QH,QI,QK]
 refine Ab.pure (Zz _ _) ?_
 simp(maxSteps:=1000000)(disch:=(try simp only[awL]);omega)only[↓awU,awY,↓reduceIte,↓reduceDIte,↓Qe,Qu,Qv,Qw,Qx,Qy,Qz,QA,QB,QC,QD,QE,QF,QG,QH,QI,QK]
 refine ⟨fun h=>?_,fun h=>?_⟩
 ·refine T9 (fun h=>?_) (fun h=>?_) (fun h'=>absurd (EW h') h)
  ·have:=la (by omega);omega
  ·have:=lb (by omega);omega
 ·have e:l.length=m.length:=by have:=NO.1 h;omega
  refine Au.inv (α:=Nat) (fun k=>k) (fun k=>mkS 35 [(0,.d (W l)),(1,.d (W m)),(6,.d (.int .i64 ((k:Int)-1)))]) (fun _=>[]) (fun k=>k≤l.length∧l.drop k=m.drop k) l.length ⟨AfP _,by rw[AgN,e,AgN]⟩ (.pure ?_) ?_
  ·simp[mkS,SW,AW]
  ·rintro k ⟨hk,hv⟩
   simp only[mkS,Agw,AdV,AfS,Af3]
   simp(maxSteps:=1000000)(disch:=(try simp only[awL]);omega)only[↓awU,awY,↓reduceIte,↓reduceDIte,↓Qe,Qu,Qv,Qw,Qx,Qy,Qz,QA,QB,QC,QD,QE,QF,QG,QH,QI,QK]
   refine ⟨fun h=>?_,fun h=>?_⟩
   ·have e1:((k:Int)-1).toNat=k-1:=by omega
    refine Ab.pure (Zy _ _) ?_
    simp(maxSteps:=1000000)(disch:=(try simp only[awL]);omega)only[↓awU,awY,↓reduceIte,↓reduceDIte,↓Qe,Qu,Qv,Qw,Qx,Qy,Qz,QA,QB,QC,QD,QE,QF,QG,QH,QI,QK]
    refine ⟨by rfl,fun h1=>?_,fun h1=>?_⟩
    ·rw[e1,←va,←vb]
     rw[e1] at h1
     refine T9 (fun h2=>?_) (fun h2=>?_) (fun h'=>absurd (EW h') h1)
     ·have:=MJ (k:=k-1) da (by omega) (by omega) (by rw[show k-1+1=k by omega];exact hv) (by omega:l.getD (k-1) 0<m.getD (k-1) 0)
      omega
     ·have:=MJ (k:=k-1) db (by omega) (by omega) (by rw[show k-1+1=k by omega];exact hv.symm) (by omega:m.getD (k-1) 0<l.getD (k-1) 0)
      omega
    ·rw[e1] at h1
     have h2:=NO.1 h1
     refine ⟨k-1,⟨by omega,Zu (by omega) (by omega) (by rw[show k-1+1=k by omega];exact hv) (by omega)⟩,Ag2 (by omega) (by decide),.pure ?_⟩
     simp[SW,AW]
     omega
   ·have:k=0:=by omega
    subst this
    simp only[AgV] at hv
    rw[←va,←vb,hv]
    exact (EW rfl).symm
theorem G0 (a b:Nat) (ha:(toW a).length<2^40) (hb:(toW b).length<2^40) :
  Ctr TP G 137 [.d (W (toW a)),.d (W (toW b))] [] (.d (W (toW (a+b)))) []:=by
 have da:=Dt a
 have db:=Dt b
 have va:=C7 a
 have vb:=C7 b
 generalize toW a=l at *
 generalize toW b=m at *
 refine Ctr.pure (M:=M0) Am Tryz.func137 rfl AeH ?_
 simp(maxSteps:=1000000)(disch:=(try simp only[awL]);omega)only[Tryz.f137,↓awU,awY,↓reduceIte,↓reduceDIte,↓Qe,Qu,Qv,Qw,Qx,Qy,Qz,QA,QB,QC,QD,QE,QF,QG,QH,QI,QK]
 refine Au.inv (α:=Nat × List Nat × Nat) (fun x=>max l.length m.length-x.1) (fun x=>mkS 45 [(0,.d (W l)),(1,.d (W m)),(5,.lsl 0 1 0 x.1),(6,.d (.int .u32 x.2.2)),(20,.d (.int .i64 (max l.length m.length:Nat))),(21,.d (.int .i64 x.1))])
  (fun x=>[.row false (AK .u32 x.2.1)]) (fun x=>x.1≤max l.length m.length∧x.2.1.length=x.1∧Dig x.2.1∧x.2.2≤1∧val x.2.1+B^x.1*x.2.2=val (l.take x.1)+val (m.take x.1)) (0,[],0) ⟨by simp,rfl,by simp[Dig],by simp,by simp[val]⟩ ?_ ?_
 ·refine ⟨[some 0],rfl,by simp,by simp[mkS,SW,AW],by simp[HW,BW]⟩
 ·rintro ⟨k,out,c⟩ ⟨hk,ho,hd,hc,hv⟩
  simp only at hk ho hd hc hv
  simp only[mkS,Agw,AdV,AfS,Af3]
  simp(maxSteps:=1000000)(disch:=(try simp only[awL]);omega)only[↓awU,awY,↓reduceIte,↓reduceDIte,↓Qe,Qu,Qv,Qw,Qx,Qy,Qz,QA,QB,QC,QD,QE,QF,QG,QH,QI,QK]
  refine ⟨fun h=>?_,fun h=>?_⟩
  ·refine Ab.pure (O7 l k) ?_
   simp(maxSteps:=1000000)(disch:=(try simp only[awL]);omega)only[↓awU,awY,↓reduceIte,↓reduceDIte,↓Qe,Qu,Qv,Qw,Qx,Qy,Qz,QA,QB,QC,QD,QE,QF,QG,QH,QI,QK]
   refine Ab.pure (O7 m k) ?_
   simp(maxSteps:=1000000)(disch:=(try simp only[awL]);omega)only[↓awU,awY,↓reduceIte,↓reduceDIte,↓Qe,Qu,Qv,Qw,Qx,Qy,Qz,QA,QB,QC,QD,QE,QF,QG,QH,QI,QK]
   refine Ab.pure (Z5 _ _ _ (da.getD k) (db.getD k) hc) ?_
   simp(maxSteps:=1000000)(disch:=(try simp only[awL]);omega)only[↓awU,awY,↓reduceIte,↓reduceDIte,↓Qe,Qu,Qv,Qw,Qx,Qy,Qz,QA,QB,QC,QD,QE,QF,QG,QH,QI,QK]
   refine ⟨(k+1,out++[(l.getD k 0+m.getD k 0+c) % B],(l.getD k 0+m.getD k 0+c) / B),⟨by omega,by simp[ho],hd.append ?_,?_,?_⟩,by simp only;omega,[some 2],rfl,by simp,?_,?_⟩
   ·intro x hx;simp at hx;subst hx;exact Ae2 _ (by decide)
   ·have h1:=da.getD k
    have h2:=db.getD k
    simp only[B] at *;omega
   ·have e1:val (l.take (k+1))=val (l.take k)+B^k*l.getD k 0:=BD l k
    have e2:val (m.take (k+1))=val (m.take k)+B^k*m.getD k 0:=BD m k
    simp only[e1,e2,Ck,ho,val,Af4,AfU]
    have e3:=Ae1 (l.getD k 0+m.getD k 0+c) B
    have e4:B^(k+1)=B^k*B:=Ad0 ..
    rw[e4,AdW,Agu,←AdY,e3]
    simp only[AdY]
    omega
   ·simp[SW,AW]
   ·simp[HW,BW,nats_push]
  ·have ek:k=max l.length m.length:=by omega
   have e:(D.sl (k+1) false (AK .u32 (out++[c])))=W (out++[c]):=by simp[W,ho]
   have hv':val (out++[c])=a+b:=by
    rw[AdT (by omega),AdT (by omega)] at hv
    rw[Ck,ho]
    simp[val,hv,va,vb]
   rw[e]
   refine Ab.frozen (Ea _ (hd.append ?_) ?_) ?_
   ·intro x hx;simp at hx;subst hx;simp only[B];omega
   ·simp[ho];omega
   ·rw[hv']
    simp(maxSteps:=1000000)(disch:=(try simp only[awL]);omega)only[↓awU,awY,↓reduceIte,↓reduceDIte,↓Qe,Qu,Qv,Qw,Qx,Qy,Qz,QA,QB,QC,QD,QE,QF,QG,QH,QI,QK]
theorem CJ (a b:Nat) (ha:(toW a).length<2^40) (hb:(toW b).length<2^40) :
  Ctr TP G 136 [.d (W (toW a)),.d (W (toW b))] [] (.d (W (toW (a*b)))) []:=by
 have da:=Dt a
 have db:=Dt b
 have va:=C7 a
 have vb:=C7 b
 generalize toW a=l at *
 generalize toW b=m at *
 refine Ctr.pure (M:=M0) Am Tryz.func136 rfl AeI ?_
 simp(maxSteps:=1000000)(disch:=(try simp only[awL]);omega)only[Tryz.f136,↓awU,awY,↓reduceIte,↓reduceDIte,↓Qe,Qu,Qv,Qw,Qx,Qy,Qz,QA,QB,QC,QD,QE,QF,QG,QH,QI,QK]
 refine Au.inv (α:=Nat × List Nat) (fun x=>l.length-x.1) (fun x=>mkS 67 [(0,.d (W l)),(1,.d (W m)),(5,.lsl 0 1 0 (l.length+m.length)),(17,.d (W l)),(18,.d (.int .i64 l.length)),(19,.d (.int .i64 x.1))])
  (fun x=>[.row false (AK .u32 x.2)]) (fun x=>x.1≤l.length∧x.2.length=l.length+m.length∧Dig x.2∧val x.2=val (l.take x.1)*b∧∀ p,x.1+m.length≤p→x.2.getD p 0=0) (0,AdV (l.length+m.length) 0)
  ⟨by simp,by simp,Dig.zeros _,by simp[Ul,val],fun p _=>by simp only[AcB,List.getElem?_replicate];split<;>rfl⟩ ?_ ?_
 ·refine ⟨[some 0],rfl,by simp,by simp[mkS,SW,AW],by simp[HW,BW]⟩
 ·rintro ⟨i,o⟩ ⟨hi,ho,hd,hv,hz⟩
  simp only at hi ho hd hv hz
  simp only[mkS,Agw,AdV,AfS,Af3]
  simp(maxSteps:=1000000)(disch:=(try simp only[awL]);omega)only[↓awU,awY,↓reduceIte,↓reduceDIte,↓Qe,Qu,Qv,Qw,Qx,Qy,Qz,QA,QB,QC,QD,QE,QF,QG,QH,QI,QK]
  refine ⟨fun h=>?_,fun h=>?_⟩
  ·refine Au.inv (α:=Nat × List Nat × Nat) (fun x=>m.length-x.1) (fun x=>mkS 67 [(0,.d (W l)),(1,.d (W m)),(5,.lsl 0 1 0 (l.length+m.length)),(17,.d (W l)),(18,.d (.int .i64 l.length)),(19,.d (.int .i64 i)),
     (6,.d (.int .i64 i)),(7,.d (.int .u32 (l.getD i 0:Nat))),(8,.d (.int .u64 x.2.2)),(24,.d (W m)),(25,.d (.int .i64 m.length)),(26,.d (.int .i64 x.1))])
    (fun x=>[.row false (AK .u32 x.2.1)]) (fun x=>x.1≤m.length∧x.2.1.length=l.length+m.length∧Dig x.2.1∧x.2.2<B∧val x.2.1+B^(i+x.1)*x.2.2=val o+B^i*(l.getD i 0*val (m.take x.1))∧∀ p,i+m.length≤p→x.2.1.getD p 0=0) (0,o,0)
    ⟨by simp,ho,hd,by simp[B],by simp[val],hz⟩ ?_ ?_
   ·refine ⟨[some 0],rfl,by simp,by simp[mkS,SW,AW],by simp[HW,BW]⟩
   ·rintro ⟨j,q,c⟩ ⟨hj,hq,hdq,hc,hvq,hzq⟩
    simp only at hj hq hdq hc hvq hzq
    replace hv:=Hid.mk hv
    replace hvq:=Hid.mk hvq
    have p1:=Jr (da.getD i) (db.getD j)
    have p2:=hdq.getD (i+j)
    have p3:c<4294967296:=hc
    have p4:q.getD (i+j) 0<4294967296:=p2
    have p5:l.getD i 0<4294967296:=da.getD i
    have p6:m.getD j 0<4294967296:=db.getD j
    simp only[mkS,Agw,AdV,AfS,Af3]
    simp(maxSteps:=1000000)(disch:=(try simp only[awL]);omega)only[↓awU,awY,↓reduceIte,↓reduceDIte,↓Qe,Qu,Qv,Qw,Qx,Qy,Qz,QA,QB,QC,QD,QE,QF,QG,QH,QI,QK]
    refine ⟨fun h1=>?_,fun h1=>?_⟩
    ·simp only[Ih,nats_set]
     have hsl:c+(l.getD i 0*m.getD j 0+q.getD (i+j) 0)<B*B:=by simp only[B];omega
     generalize hg:c+(l.getD i 0*m.getD j 0+q.getD (i+j) 0)=s at hsl ⊢
     refine ⟨(j+1,q.set (i+j) (s % B),s / B),⟨by simp only;omega,by simp[hq],hdq.set (Ae2 _ (by decide)),(Ad1 (by decide)).2 hsl,RW (by omega) hg.symm hvq.out,fun p hp=>?_⟩,
      by simp only;omega,[some 0],rfl,by simp,by simp[SW,AW,B],by simp[HW,BW,Ih,nats_set,B]⟩
     rw[J5 (by omega)];exact hzq p hp
    ·have ej:j=m.length:=by omega
     have hvq:=hvq.out
     rw[ej,AdT (AfP _),vb] at hvq
     refine ⟨(i+1,q.set (i+m.length) c),⟨by simp only;omega,by simp[hq],hdq.set hc,Us (by omega) (hzq _ (AfP _)) hvq hv.out,fun p hp=>?_⟩,
      by simp only;omega,[some 0],rfl,by simp,by simp[SW,AW],by simp[HW,BW]⟩
     rw[J5 (by omega)];exact hzq p (by omega)
  ·have e:(D.sl (l.length+m.length) false (AK .u32 o))=W o:=by simp[W,ho]
   have ei:i=l.length:=by omega
   rw[e]
   refine Ab.frozen (Ea _ hd ?_) ?_
   ·omega
   ·rw[hv,ei,AdT (AfP _),va]
    simp(maxSteps:=1000000)(disch:=(try simp only[awL]);omega)only[↓awU,awY,↓reduceIte,↓reduceDIte,↓Qe,Qu,Qv,Qw,Qx,Qy,Qz,QA,QB,QC,QD,QE,QF,QG,QH,QI,QK]
theorem Ae5 (h x d:Nat) (hh:h<d) (hd:d<B) (hx:x<B):Ctr TP G 223 [.d (.int .u32 h),.d (.int .u32 x),.d (.int .u32 d)] []
  (.d (.tup [.int .u32 ((h*B+x) / d:Nat),.int .u32 ((h*B+x) % d:Nat)])) []:=by
 refine Ctr.pure (M:=M0) Am Tryz.func223 rfl Ad5 ?_
 have hq:=J7 hh hx
 simp only[B] at *
 simp(maxSteps:=1000000)(disch:=(try simp only[awL]);omega)only[Tryz.f223,↓awU,awY,↓reduceIte,↓reduceDIte,↓Qe,Qu,Qv,Qw,Qx,Qy,Qz,QA,QB,QC,QD,QE,QF,QG,QH,QI,QK]
 refine ⟨by rfl,?_⟩
 have hm:(h*4294967296+x) % d<d:=Ae2 _ (by omega)
 rw[Wl (by omega) hx,←AgW,←Int.ofNat_tmod,Aa9,Ih,Ih,Ae3 (a:=(h*4294967296+x) / d) (by omega),Ae3 hq,Ae3 (by omega)]
theorem Ee (n:Nat) (hn:n<18446744073709551616):Ctr TP G 138 [.d (.int .u64 n)] [] (.d (W (toW n))) []:=by
 refine Ctr.pure (M:=M0) Am Tryz.func138 rfl AeG ?_
 simp(maxSteps:=1000000)(disch:=(try simp only[awL]);omega)only[Tryz.f138,↓awU,awY,↓reduceIte,↓reduceDIte,↓Qe,Qu,Qv,Qw,Qx,Qy,Qz,QA,QB,QC,QD,QE,QF,QG,QH,QI,QK]
 refine Ab.frozenE (Ea [n % B,n / B] ?_ (by simp)) ?_ ?_
 ·intro x hx
  simp only[AfZ,Agv,or_false] at hx
  rcases hx with rfl | rfl
  ·exact Ae2 _ (by decide)
  ·simp only[B];omega
 ·rw[Ih];rfl
 ·have:val [n % B,n / B]=n:=by simp only[val,Af4,AfU];exact Ae1 n B
  rw[this]
  simp(maxSteps:=1000000)(disch:=(try simp only[awL]);omega)only[↓awU,awY,↓reduceIte,↓reduceDIte,↓Qe,Qu,Qv,Qw,Qx,Qy,Qz,QA,QB,QC,QD,QE,QF,QG,QH,QI,QK]
def Zd:List UInt8:=[0,1,2,2,3,3,3,3,4,4,4,4,4,4,4,4,5,5,5,5,5,5,5,5,5,5,5,5,5,5,5,5,6,6,6,6,6,6,6,6,6,6,6,6,6,6,6,6,6,6,6,6,6,6,6,6,6,6,6,6,6,6,6,6,7,7,7,7,7,7,7,7,7,7,7,7,7,7,7,7,7,7,7,7,7,7,7,7,7,7,7,7,7,7,7,7,7,7,7,7,7,7,7,7,7,7,7,7,7,7,7,7,7,7,7,7,7,7,7,7,7,7,7,7,7,7,7,7,8,8,8,8,8,8,8,8,8,8,8,8,8,8,8,8,8,8,8,8,8,8,8,8,8,8,8,8,8,8,8,8,8,8,8,8,8,8,8,8,8,8,8,8,8,8,8,8,8,8,8,8,8,8,8,8,8,8,8,8,8,8,8,8,8,8,8,8,8,8,8,8,8,8,8,8,8,8,8,8,8,8,8,8,8,8,8,8,8,8,8,8,8,8,8,8,8,8,8,8,8,8,8,8,8,8,8,8,8,8,8,8,8,8,8,8,8,8,8,8,8,8,8,8,8,8,8,8]
theorem LM (s:ByteArray) (hs:s.data.toList=Zd):s.size=256∧∀ i,i<256→GI s i=((if i=0 then 0 else i.log2+1:Nat):Int):=by
 refine ⟨by rw[ByteArray.size,←Array.length_toList,hs];decide +kernel,fun i hi=>?_⟩
 have:∀ i:Fin 256,((Zd.getD i.val 0).toNat:Int)=((if i.val=0 then 0 else i.val.log2+1:Nat):Int):=by decide +kernel
 unfold GI
 rw[hs]
 exact this ⟨i,hi⟩
theorem GU {s:ByteArray} (h:s.data.toList=Zd):s.size=256:=(LM s h).1
theorem JC {s:ByteArray} {i:Int} (h:s.data.toList=Zd) (h0:0≤i) (h1:i<256):GI s i.toNat=((if i.toNat=0 then 0 else i.toNat.log2+1:Nat):Int):=(LM s h).2 _ (by omega)
theorem Adx (n:Nat) (hn:n<B):Ctr TP G 224 [.d (.int .u32 n)] [] (.d (.int .i64 (if n=0 then 0 else n.log2+1:Nat))) []:=by
 refine Ctr.pure (M:=M0) Am Tryz.func224 rfl Ad4 ?_
 simp only[B] at *
 have l24:(256:Int)≤n / 65536→n≠0∧(n / 65536 / 256)≠0∧n.log2=24+(n / 65536 / 256).log2:=fun h=>by
  have h1:n / 2^24≠0:=by omega
  have:=HM h1
  rw[show (2:Nat)^24=65536*256 from rfl,←AfQ] at this
  exact ⟨by omega,by omega,this⟩
 have l16:(65536:Int)≤n→n≠0∧(n / 65536)≠0∧n.log2=16+(n / 65536).log2:=fun h=>by
  have h1:n / 2^16≠0:=by omega
  exact ⟨by omega,by omega,HM h1⟩
 have l8:(256:Int)≤n→n≠0∧(n / 256)≠0∧n.log2=8+(n / 256).log2:=fun h=>by
  have h1:n / 2^8≠0:=by omega
  exact ⟨by omega,by omega,HM h1⟩
 simp(maxSteps:=1000000)(disch:=(try simp only[awL]);omega)only[Tryz.f224,↓awU,awY,↓reduceIte,↓reduceDIte,↓Qe,Qu,Qv,Qw,Qx,Qy,Qz,QA,QB,QC,QD,QE,QF,QG,QH,QI,QK]
 refine ⟨fun h1=>⟨fun h2=>?_,fun h2=>?_⟩,fun h1=>⟨fun h2=>?_,fun h2=>?_⟩⟩
 ·obtain ⟨a,b,c⟩:=l24 h2
  have h8:=(Agn (k:=8) b).2 (by omega)
  rw[GU (by decide +kernel),JC (by decide +kernel) (by omega) (by omega),show ((n:Int) / 65536 / 256).toNat=n / 65536 / 256 by omega,if_neg b]
  generalize hz:(n / 65536 / 256).log2+1=z
  rw[wr_i64 (x:=(z:Int)) (by omega) (by omega),wr_i64 (by omega) (by omega)]
  omega
 ·obtain ⟨a,b,c⟩:=l16 h1
  have h8:=(Agn (k:=8) b).2 (by omega)
  rw[GU (by decide +kernel),JC (by decide +kernel) (by omega) (by omega),show ((n:Int) / 65536).toNat=n / 65536 by omega,if_neg b]
  generalize hz:(n / 65536).log2+1=z
  rw[wr_i64 (x:=(z:Int)) (by omega) (by omega),wr_i64 (by omega) (by omega)]
  omega
 ·obtain ⟨a,b,c⟩:=l8 h2
  have h8:=(Agn (k:=8) b).2 (by omega)
  rw[GU (by decide +kernel),JC (by decide +kernel) (by omega) (by omega),show ((n:Int) / 256).toNat=n / 256 by omega,if_neg b]
  generalize hz:(n / 256).log2+1=z
  rw[wr_i64 (x:=(z:Int)) (by omega) (by omega),wr_i64 (by omega) (by omega)]
  omega
 ·rw[GU (by decide +kernel),(LM _ (by decide +kernel)).2 n (by omega)]
  have h8:(if n=0 then 0 else n.log2+1:Nat)≤8:=by
   split
   ·omega
   ·rename_i h;have:=(Agn (k:=8) h).2 (by omega);omega
  generalize (if n=0 then 0 else n.log2+1:Nat)=z at *
  rw[wr_i64 (x:=(z:Int)) (by omega) (by omega),wr_i64 (by omega) (by omega)]
  omega
theorem lz32 (n:Nat) (h0:n≠0) (hn:n<B):Ctr TP G 204 [.d (.int .u32 n)] [] (.d (.int .i64 (31-n.log2:Nat))) []:=by
 refine Ctr.pure (M:=M0) Am Tryz.func204 rfl Aeb ?_
 have h8:=(Agn (k:=32) h0).2 hn
 simp(maxSteps:=1000000)(disch:=(try simp only[awL]);omega)only[Tryz.f204,↓awU,awY,↓reduceIte,↓reduceDIte,↓Qe,Qu,Qv,Qw,Qx,Qy,Qz,QA,QB,QC,QD,QE,QF,QG,QH,QI,QK]
 refine Ab.pure (Adx n hn) ?_
 rw[if_neg h0]
 simp(maxSteps:=1000000)(disch:=(try simp only[awL]);omega)only[↓awU,awY,↓reduceIte,↓reduceDIte,↓Qe,Qu,Qv,Qw,Qx,Qy,Qz,QA,QB,QC,QD,QE,QF,QG,QH,QI,QK]
theorem R9 (a d:Nat) (hd:0<d) (hdB:d<B) (ha:(toW a).length<2^40) :
  Ctr TP G 203 [.d (W (toW a)),.d (.int .u32 d)] [] (.d (.tup [W (toW (a / d)),.int .u32 (a % d:Nat)])) []:=by
 have da:=Dt a
 have va:=C7 a
 generalize toW a=l at *
 refine Ctr.pure (M:=M0) Am Tryz.func203 rfl Aec ?_
 simp(maxSteps:=1000000)(disch:=(try simp only[awL]);omega)only[Tryz.f203,↓awU,awY,↓reduceIte,↓reduceDIte,↓Qe,Qu,Qv,Qw,Qx,Qy,Qz,QA,QB,QC,QD,QE,QF,QG,QH,QI,QK]
 refine Au.fr 67 (α:=Nat × List Nat × Nat) (fun x=>x.1) (fun x=>[(7,.d (.int .u32 x.2.2)),(8,.d (.int .i64 ((x.1:Int)-1)))])
  (fun x=>[.row false (AK .u32 (AdV x.1 0++x.2.1))]) (fun x=>x.1≤l.length∧x.2.1.length+x.1=l.length∧Dig x.2.1∧x.2.2<d∧val (l.drop x.1)=val x.2.1*d+x.2.2) (l.length,[],0) ⟨by simp,by simp,by simp[Dig],hd,by simp[val]⟩ ?_ ?_
 ·exact ⟨[some 0],rfl,by simp,by simp[sA,kA,SW,AW],by simp[HW,BW,SW,AW]⟩
 ·rintro ⟨k,q,r⟩ ⟨hk,hq,hdq,hr,hv⟩
  simp only at hk hq hdq hr hv
  rcases k with _ | k
  ·simp(maxSteps:=1000000)(disch:=(try simp only[awL]);omega)only[↓awU,awY,↓reduceIte,↓reduceDIte,↓Qe,Qu,Qv,Qw,Qx,Qy,Qz,QA,QB,QC,QD,QE,QF,QG,QH,QI,QK]
   simp only[AfU] at hq
   rw[AgV,va] at hv
   have e:D.sl l.length false (AK .u32 ([]++q))=W q:=by simp[W,hq]
   refine Ab.frozenE (Ea q hdq (by omega)) (by rw[←e];simp[AdV]) ?_
   have e1:a / d=val q:=by rw[hv,AdU];rw[AgR hd,AfO hr];rfl
   have e2:a % d=r:=by rw[hv,AdU,Nat.mul_add_mod,Ae3 hr]
   rw[e1,e2]
   simp(maxSteps:=1000000)(disch:=(try simp only[awL]);omega)only[↓awU,awY,↓reduceIte,↓reduceDIte,↓Qe,Qu,Qv,Qw,Qx,Qy,Qz,QA,QB,QC,QD,QE,QF,QG,QH,QI,QK]
  ·simp(maxSteps:=1000000)(disch:=(try simp only[awL]);omega)only[↓awU,awY,↓reduceIte,↓reduceDIte,↓Qe,Qu,Qv,Qw,Qx,Qy,Qz,QA,QB,QC,QD,QE,QF,QG,QH,QI,QK]
   refine Ab.pure (Ae5 r _ d hr hdB (da.getD k)) ?_
   simp(maxSteps:=1000000)(disch:=(try simp only[awL]);omega)only[↓awU,awY,↓reduceIte,↓reduceDIte,↓Qe,Qu,Qv,Qw,Qx,Qy,Qz,QA,QB,QC,QD,QE,QF,QG,QH,QI,QK]
   refine ⟨(k,(r*B+l.getD k 0) / d::q,(r*B+l.getD k 0) % d),⟨by simp only;omega,by simp;omega,fun x hx=>?_,Ae2 _ hd,R8 (by omega) hv⟩,by simp only;omega,
    [some 0],rfl,by simp,by simp[SW,AW],by simp[HW,BW,Ty]⟩
   rcases AfZ.1 hx with rfl | hx
   ·exact J7 hr (da.getD k)
   ·exact hdq x hx
end Go.Proofs.YtmidaophnbdcdaaGreatDoor.Num
namespace Go.Proofs.YtmidaophnbdcdaaGreatDoor.Num
open Go Go.Proofs Go.Abs
theorem WI {U V P top u3 lu d1 d2 lv g:Nat} (hU:U=(top*B+u3)*P+lu) (hlu:lu<P) (hV:V=(d1*B+d2)*P+lv) (hu3:u3<B) (hUV:U<V*B)
  (hg:top<(g+1)*d1∨g+1=B):U<(g+1)*V:=by
 rcases hg with hg | hg
 ·have h1:(top+1)*(B*P)≤((g+1)*d1)*(B*P):=AdX _ hg
  have h2:U<(top+1)*(B*P):=by
   have h3:(u3+1)*P≤B*P:=AdX _ hu3
   rw[hU,AdZ,AdZ,Af2,AdW]
   rw[AdZ,Af2] at h3
   omega
  have h4:((g+1)*d1)*(B*P)≤(g+1)*V:=by
   rw[AdW]
   refine AfJ _ ?_
   rw[hV,AdZ,←AdW]
   omega
  omega
 ·rw[hg,AdU];exact hUV
theorem Zh {U V P top u3 lu d1 d2 lv g rest:Nat} (hU:U=(top*B+u3)*P+lu) (hlu:lu<P) (hV:V=(d1*B+d2)*P+lv)
  (hr:g*d1+rest=top) (hgt:rest*B+u3<g*d2):U<g*V:=by
 have h1:U<(top*B+u3+1)*P:=by rw[hU,AdZ (top*B+u3),Af2];omega
 have h2:(top*B+u3+1)*P≤(g*(d1*B+d2))*P:=by
  refine AdX _ ?_
  rw[←hr,AdY,AdZ,AdW]
  omega
 have h3:(g*(d1*B+d2))*P≤g*V:=by
  rw[AdW]
  refine AfJ _ ?_
  omega
 omega
theorem Zg {U V P top u3 lu d1 d2 lv g rest:Nat} (hU:U=(top*B+u3)*P+lu) (hV:V=(d1*B+d2)*P+lv) (hlv:lv<P) (hd1:1≤d1) (hd2:d2<B) (hg:g<B)
  (hr:g*d1+rest=top) (hle:B≤rest∨g*d2≤rest*B+u3):g*V<U+V:=by
 have hle:g*d2≤rest*B+u3:=by
  rcases hle with h | h
  ·have h1:g*d2≤B*B:=AgB (Agb hg) (Agb hd2)
   have h2:B*B≤rest*B:=AdX _ h
   omega
  ·exact h
 have h1:(g*(d1*B+d2))*P≤(top*B+u3)*P:=by
  refine AdX _ ?_
  rw[←hr,AdY,AdZ,AdW]
  omega
 have h2:g*V=(g*(d1*B+d2))*P+g*lv:=by rw[hV,AdY,AdW]
 have h3:B*P≤V:=by
  rw[hV,AdZ,AdW]
  have:1*(B*P)≤d1*(B*P):=AdX _ hd1
  omega
 have h4:g*lv<B*P:=by
  have h5:g*lv≤g*P:=AfJ _ (Agb hlv)
  have h6:(g+1)*P≤B*P:=AdX _ hg
  rw[AdZ,Af2] at h6
  omega
 omega
theorem VD {d:List Nat} {n:Nat} (h:d.length=n+2):val d=(d.getD (n+1) 0*B+d.getD n 0)*B^n+val (d.take n):=by
 have e:d=d.take (n+2):=by rw[←h,AgO]
 rw[e,BD d (n+1),BD d n,←e]
 rw[Ad0,AdZ,AdW (B^n),AdU (B^n) (d.getD n 0),AdU (B^n),AdU B (d.getD _ 0)]
 omega
theorem VC {u:List Nat} {n:Nat} (h:u.length=n+3):val u=((u.getD (n+2) 0*B+u.getD (n+1) 0)*B+u.getD n 0)*B^n+val (u.take n):=by
 have e:u=u.take (n+3):=by rw[←h,AgO]
 rw[e,BD u (n+2),BD u (n+1),BD u n,←e]
 generalize u.getD n 0=a
 generalize u.getD (n+1) 0=b
 generalize u.getD (n+2) 0=c
 have e1:B^(n+1)*b=b*B*B^n:=by rw[Ad0,AdW,AdU (B^n),AdU B b]
 have e2:B^(n+2)*c=c*B*B*B^n:=by rw[Ad0,Ad0];generalize B^n=p;ac_rfl
 rw[e1,e2,AdZ,AdZ,AdZ,AdU (B^n) a]
 omega
theorem Od {l:List Nat} (h:Dig l) (n:Nat):val (l.take n)<B^n:=by
 have h1:=Gh (h.take n)
 have h2:(l.take n).length≤n:=by simp;omega
 exact AfN h1 (Afs (by decide) h2)
theorem ON {done u d:List Nat} {i g c b dig low c' b':Nat} (hi:done.length=i) (h1:dig+low+b=u.getD i 0+B*b') (h2:low+B*c'=c+g*d.getD i 0)
  (hv:val done+g*val (d.take i)=val (u.take i)+B^i*(c+b)):val (done++[dig])+g*val (d.take (i+1))=val (u.take (i+1))+B^(i+1)*(c'+b'):=by
 rw[Ck,hi,BD d i,BD u i]
 simp only[val,Af4,AfU]
 have e1:g*(val (d.take i)+B^i*d.getD i 0)=g*val (d.take i)+B^i*(g*d.getD i 0):=by rw[AdY,AgI g]
 have e2:B^(i+1)*(c'+b')=B^i*(B*c'+B*b'):=by rw[Ad0,AdW,AdY]
 have e3:B^i*(dig+g*d.getD i 0+c+b)=B^i*(u.getD i 0+(B*c'+B*b')):=by congr 1;omega
 rw[e1,e2]
 simp only[AdY] at e3 hv ⊢
 omega
theorem ZG {done u d:List Nat} {i a s:Nat} (hi:done.length=i) (hs:s=u.getD i 0+d.getD i 0+a) (hv:val done+B^i*a=val (u.take i)+val (d.take i)) :
  val (done++[s % B])+B^(i+1)*(s / B)=val (u.take (i+1))+val (d.take (i+1)):=by
 rw[Ck,hi,BD d i,BD u i]
 simp only[val,Af4,AfU]
 have e2:B^(i+1)*(s / B)=B^i*(B*(s / B)):=by rw[Ad0,AdW]
 have e3:B^i*(s % B+B*(s / B))=B^i*(u.getD i 0+d.getD i 0+a):=by rw[Ae1,hs]
 rw[e2]
 simp only[AdY] at e3 ⊢
 omega
theorem AaY {U V g r P:Nat} (h1:U<(g+1)*V) (hv:r+g*V=U+P*0):U / V=g∧U % V=r:=by
 rw[Af4,AfU] at hv
 rw[AdZ,Af2] at h1
 have hr:r<V:=by omega
 subst hv
 refine ⟨?_,?_⟩
 ·rw[AdU g,AfY _ _ (by omega),AfO hr,Age]
 ·rw[AdU g,AfX,Ae3 hr]
theorem Zv {U V g r P r3 x3 dn a:Nat} (h2:g*V<U+V) (hV:V<P) (hr:r<P) (hv:r+g*V=U+P*1) (hb:dn+x3=r+V-0) (h3:r3=dn+x3∨r3+P=dn+x3) (hr3:r3<P) (ha:a=g):U / V=g-1∧U % V=r3:=by
 subst ha
 rw[Agt] at hv
 rcases Agr a with h0 | h0
 ·subst h0;omega
 obtain ⟨m,rfl⟩:∃ m,a=m+1:=⟨a-1,by omega⟩
 rw[AdZ,Af2] at hv h2
 have e:r3+m*V=U:=by omega
 have hlt:r3<V:=by omega
 rw[AgD]
 subst e
 refine ⟨?_,?_⟩
 ·rw[AdU m,AfY _ _ (by omega),AfO hlt,Age]
 ·rw[AdU m,AfX,Ae3 hlt]
theorem AaN {a c sh:Nat} (ha:a<2^sh):a ||| c*2^sh=a+c*2^sh:=by
 have:=Agm (i:=sh) (a:=c) (b:=a) ha
 rw[AgM] at this
 rw[Nat.or_comm,←this,AgY]
theorem Y9 {x sh:Nat} (h:sh<32):x*2^sh % 4294967296=x % 2^(32-sh)*2^sh:=by
 have:(4294967296:Nat)=2^(32-sh)*2^sh:=by rw[←Aga,show 32-sh+sh=32 by omega]
 rw[this,Nat.mul_mod_mul_right]
theorem XY {q l:List Nat} {k c x sh:Nat} (hq:q.length=k) (hx:l.getD k 0=x) (hv:val q+B^k*c=val (l.take k)*2^sh) :
  val (q++[c+x*2^sh % B])+B^(k+1)*(x*2^sh / B)=val (l.take (k+1))*2^sh:=by
 rw[Ck,hq,BD l k,hx]
 simp only[val,Af4,AfU]
 have h1:=Ae1 (x*2^sh) B
 have e1:B^(k+1)*(x*2^sh / B)=B^k*(B*(x*2^sh / B)):=by rw[Ad0,AdW]
 have e2:(val (l.take k)+B^k*x)*2^sh=val (l.take k)*2^sh+B^k*(x*2^sh):=by rw[AdZ,AdW]
 rw[e1,e2,←hv]
 have e3:B^k*(x*2^sh % B+B*(x*2^sh / B))=B^k*(x*2^sh):=by rw[h1]
 simp only[AdY] at e3 ⊢
 omega
end Go.Proofs.YtmidaophnbdcdaaGreatDoor.Num
namespace Go.Proofs.YtmidaophnbdcdaaGreatDoor.Num
open Go Go.Proofs Go.Abs
variable {G:Ad}
theorem Ml {pre u post:List Nat} {i j:Nat} (hj:pre.length=j) (hi:i<u.length):(pre++(u++post)).getD (j+i) 0=u.getD i 0:=by
 subst hj
 simp only[AcB]
 rw[Afv (by omega),Agc (by omega),Af0]
def win (pre done u post:List Nat):List Nat:=pre++(done++(u.drop done.length++post))
theorem XJ {pre u post:List Nat}:win pre [] u post=pre++(u++post):=rfl
theorem Fu {pre done u post:List Nat} (h:done.length≤u.length):(win pre done u post).length=pre.length+u.length+post.length:=by simp[win];omega
theorem Ig {pre done u post:List Nat} (h:done.length<u.length):(win pre done u post).getD (pre.length+done.length) 0=u.getD done.length 0:=by
 unfold win
 simp only[AcB]
 rw[Afv (by omega),Af0,Afv (by omega),Agg,Agc (by simp;omega),Ags,AfU]
theorem Kx {pre done u post:List Nat} {v:Nat} (h:done.length<u.length):(win pre done u post).set (pre.length+done.length) v=win pre (done++[v]) u post:=by
 unfold win
 rw[AfW _ _ (by omega),Af0,AfW _ _ (by omega),Agg,AfR h,Agj,AfS,List.length_append,List.length_singleton,Af9]
 rfl
theorem SQ (pre u post d ex:List Nat) (n:Nat) (hd:d.length=n+2) (hu:u.length=n+3) (dd:Dig d) (du:Dig u) (hUV:val u<val d*B) (hn:2147483648≤d.getD (n+1) 0) (hl:pre.length+u.length+post.length<2^40) :
  Ctr TP G 206 [.lsl 0 1 pre.length (n+3),.lsl 1 1 0 (n+2)] [.row false (AK .u32 (pre++(u++post))),.row false (AK .u32 (d++ex))] (.d (.int .u32 (val u / val d:Nat)))
   [.row false (AK .u32 (pre++(Bo (n+3) (val u % val d)++post))),.row false (AK .u32 (d++ex))]:=by
 refine Ctr.body (M:=M0) Am Tryz.func206 rfl Ad9 ?_
 have de:∀ i,i<n+2→(d++ex).getD i 0=d.getD i 0:=fun i hi=>by simp only[AcB];rw[Agc (by omega)]
 have dl:(d++ex).length=n+2+ex.length:=by simp;omega
 generalize hrow:d++ex=dr at *
 have g1:(pre++(u++post)).getD (pre.length+(n+2)) 0=u.getD (n+2) 0:=Ml rfl (by omega)
 have g2:(pre++(u++post)).getD (pre.length+(n+1)) 0=u.getD (n+1) 0:=Ml rfl (by omega)
 have g3:(pre++(u++post)).getD (pre.length+n) 0=u.getD n 0:=Ml rfl (by omega)
 have p1:u.getD (n+2) 0<4294967296:=du.getD _
 have p2:u.getD (n+1) 0<4294967296:=du.getD _
 have p3:u.getD n 0<4294967296:=du.getD _
 have q1:d.getD (n+1) 0<4294967296:=dd.getD _
 have q2:d.getD n 0<4294967296:=dd.getD _
 have hpl:(pre++(u++post)).length=pre.length+u.length+post.length:=by simp;omega
 generalize ho:pre++(u++post)=o at *
 have hU:=VC hu
 have hV:=VD hd
 have hlu:=Od du n
 have hlv:=Od dd n
 rw[show n+3=(n+2)+1 from rfl]
 generalize ht:u.getD (n+2) 0*B+u.getD (n+1) 0=top at hU
 have ht':u.getD (n+2) 0*4294967296+u.getD (n+1) 0=top:=by simpa only[B] using ht
 have htl:top<18446744073709551616:=by omega
 have hqt:=AgS top (d.getD (n+1) 0)
 have eg:(if (4294967295:Int)<((top / d.getD (n+1) 0:Nat):Int) then (4294967295:Int) else ((top / d.getD (n+1) 0:Nat):Int))=((min (top / d.getD (n+1) 0) 4294967295:Nat):Int):=by
  split<;>omega
 have hg0:min (top / d.getD (n+1) 0) 4294967295*d.getD (n+1) 0≤top:=AgK (AdX _ (Nat.min_le_left _ _)) (Nat.div_mul_le_self _ _)
 have hg1:top<(min (top / d.getD (n+1) 0) 4294967295+1)*d.getD (n+1) 0∨min (top / d.getD (n+1) 0) 4294967295+1=B:=by
  by_cases h:top / d.getD (n+1) 0≤4294967295
  ·rw[Af5 h];left
   rw[AdU];exact Nat.lt_mul_div_succ top (by omega)
  ·right;rw[Nat.min_eq_right (by omega)];rfl
 have hg2:min (top / d.getD (n+1) 0) 4294967295<B:=by simp only[B];omega
 have hK:=WI (g:=min (top / d.getD (n+1) 0) 4294967295) hU hlu hV p3 hUV hg1
 generalize hg:min (top / d.getD (n+1) 0) 4294967295=g0 at *
 have hr0:((top:Nat):Int)-((g0*d.getD (n+1) 0:Nat):Int)=((top-g0*d.getD (n+1) 0:Nat):Int):=by omega
 simp(maxSteps:=1000000)(disch:=(try simp only[awL]);omega)only[Tryz.f206,hd,dl,de,Wl,g1,g2,g3,ht',←AgW,eg,hr0,↓awU,awY,↓reduceIte,↓reduceDIte,↓Qe,Qu,Qv,Qw,Qx,Qy,Qz,QA,QB,QC,QD,QE,QF,QG,QH,QI,QK]
 refine ⟨by rfl,?_⟩
 refine Au.fx 35 (α:=Nat × Nat) (β:=Nat) (fun x=>x.1) (fun x=>[(7,.d (.int .u64 x.1)),(8,.d (.int .u64 x.2))])
  (fun _=>[.row false (AK .u32 o),.row false (AK .u32 dr)]) (fun x=>x.1<B∧val u<(x.1+1)*val d∧x.1*d.getD (n+1) 0+x.2=top)
  35 (fun g=>[(7,.d (.int .u64 g))]) (fun _=>[.row false (AK .u32 o),.row false (AK .u32 dr)]) (fun g=>g<B∧val u<(g+1)*val d∧g*val d<val u+val d) (g0,top-g0*d.getD (n+1) 0) ⟨hg2,hK,by simp only;omega⟩ ?_ ?_ ?_
 ·exact ⟨[some 0,some 1],rfl,by simp,by simp[sA,kA,SW,AW],by simp[HW,BW,SW,AW]⟩
 ·rintro ⟨g,r⟩ ⟨hgB,hgU,hgr⟩
  simp only at hgB hgU hgr
  simp only[awK,Afw,AfI,reduceIte]
  have hE:∀ {g r},g<B→g*d.getD (n+1) 0+r=top→(B≤r∨g*d.getD n 0≤r*B+u.getD n 0)→g*val d<val u+val d :=
   fun a b c=>Zg hU hV hlv (by omega) q2 a b c
  have hD:∀ {g r},g*d.getD (n+1) 0+r=top→r*B+u.getD n 0<g*d.getD n 0→val u<g*val d:=fun a b=>Zh hU hlu hV a b
  clear hU hV hlu hlv hUV hK hg1 eg hr0 hg0 hg2 hqt hg
  replace hgU:=Hid.mk hgU
  rcases g with _ | g
  ·simp(maxSteps:=1000000)(disch:=(try simp only[awL]);omega)only[dl,de,Wl,g1,g2,g3,ht',Int.zero_mul,↓awU,awY,↓reduceIte,↓reduceDIte,↓Qe,Qu,Qv,Qw,Qx,Qy,Qz,QA,QB,QC,QD,QE,QF,QG,QH,QI,QK]
   have e0:0*val d<val u+val d:=hE hgB hgr (.inr (by simp))
   exact ⟨fun h=>⟨by rfl,0,⟨by decide,hgU.out,e0⟩,⟨[some 0,some 1],rfl,by simp,by simp[sA,kA,SW,AW],by simp[HW,BW,SW,AW]⟩⟩,fun h=>⟨by rfl,0,⟨by decide,hgU.out,e0⟩,⟨[some 0,some 1],rfl,by simp,by simp[sA,kA,SW,AW],by simp[HW,BW,SW,AW]⟩⟩⟩
  ·have hgd:(g+1)*d.getD n 0≤18446744065119617025:=Jr hgB (dd.getD n)
   have hgB':g+1<4294967296:=by simpa only[B] using hgB
   simp(maxSteps:=1000000)(disch:=(try simp only[awL]);omega)only[dl,de,Wl,g1,g2,g3,ht',↓awU,awY,↓reduceIte,↓reduceDIte,↓Qe,Qu,Qv,Qw,Qx,Qy,Qz,QA,QB,QC,QD,QE,QF,QG,QH,QI,QK]
   refine ⟨fun h=>⟨by rfl,fun h2=>⟨(g,r+d.getD (n+1) 0),⟨?_,hD hgr (by simp only[B];omega),?_⟩,by simp only;omega,⟨[some 0,some 1],rfl,by simp,by simp[sA,kA,SW,AW],by simp[HW,BW,SW,AW]⟩⟩,
    fun h2=>⟨g+1,⟨hgB,hgU.out,hE hgB hgr (.inr (by simp only[B];omega))⟩,⟨[some 0,some 1],rfl,by simp,by simp[sA,kA,SW,AW],by simp[HW,BW,SW,AW]⟩⟩⟩,fun h=>⟨by rfl,g+1,⟨hgB,hgU.out,hE hgB hgr (.inl (by simp only[B];omega))⟩,⟨[some 0,some 1],rfl,by simp,by simp[sA,kA,SW,AW],by simp[HW,BW,SW,AW]⟩⟩⟩
   ·simp only;omega
   ·simp only
    rw[AdZ,Af2] at hgr
    omega
 ·rintro g ⟨hgB,hgU,hgV⟩
  simp only[awK,Afw,AfI,reduceIte]
  clear eg hr0 hg0 hg2 hqt hg hK hg1
  replace hU:=Hid.mk hU
  replace hV:=Hid.mk hV
  replace hlu:=Hid.mk hlu
  replace hlv:=Hid.mk hlv
  replace hgU:=Hid.mk hgU
  replace hgV:=Hid.mk hgV
  replace hUV:=Hid.mk hUV
  replace ht:=Hid.mk ht
  have hgB':g<4294967296:=by simpa only[B] using hgB
  simp(maxSteps:=1000000)(disch:=(try simp only[awL]);omega)only[dl,de,↓awU,awY,↓reduceIte,↓reduceDIte,↓Qe,Qu,Qv,Qw,Qx,Qy,Qz,QA,QB,QC,QD,QE,QF,QG,QH,QI,QK]
  refine Au.fx 14507109835375550096474275 (α:=List Nat × Nat × Nat) (β:=List Nat × Nat × Nat) (fun x=>n+2-x.1.length) (fun x=>[(9,.d (.int .u32 x.2.1)),(10,.d (.int .u64 x.2.2)),(84,.d (.int .i64 x.1.length))])
   (fun x=>[.row false (AK .u32 (win pre x.1 u post)),.row false (AK .u32 dr)]) (fun x=>x.1.length≤n+2∧Dig x.1∧x.2.1≤1∧x.2.2<B∧val x.1+g*val (d.take x.1.length)=val (u.take x.1.length)+B^x.1.length*(x.2.2+x.2.1))
   163 (fun x=>[(9,.d (.int .u32 x.2.1)),(10,.d (.int .u64 x.2.2))]) (fun x=>[.row false (AK .u32 (win pre x.1 u post)),.row false (AK .u32 dr)]) (fun x=>x.1.length=n+2∧Dig x.1∧x.2.1≤1∧x.2.2<B∧val x.1+g*val d=val (u.take (n+2))+B^(n+2)*(x.2.2+x.2.1))
   ([],0,0) ⟨by simp,by simp[Dig],by simp,by simp[B],by simp[val]⟩ ?_ ?_ ?_
  ·exact ⟨[some 0,some 1],rfl,by simp,by simp[sA,kA,SW,AW],by simp[HW,BW,XJ,ho]⟩
  ·rintro ⟨done,b,c⟩ ⟨hi,hdd,hb,hc,hv⟩
   simp only at hi hdd hb hc hv
   simp only[awK,Afw,AfI,reduceIte]
   replace hv:=Hid.mk hv
   have w1:(win pre done u post).getD (pre.length+done.length) 0=u.getD done.length 0:=Ig (by omega)
   have w3:(win pre done u post).length=pre.length+u.length+post.length:=Fu (by omega)
   have hcB:c<4294967296:=by simpa only[B] using hc
   have m1:g*d.getD done.length 0≤18446744065119617025:=Jr hgB (dd.getD _)
   have m2:u.getD done.length 0<4294967296:=du.getD _
   have m3:d.getD done.length 0<4294967296:=dd.getD _
   simp(maxSteps:=1000000)(disch:=(try simp only[awL]);omega)only[w1,w3,hd,dl,de,Ih,↓awU,awY,↓reduceIte,↓reduceDIte,↓Qe,Qu,Qv,Qw,Qx,Qy,Qz,QA,QB,QC,QD,QE,QF,QG,QH,QI,QK]
   refine ⟨fun h=>?_,fun h=>?_⟩
   ·refine Ab.pure (ZO _ _ _ (du.getD _) (Ae2 _ (by decide)) hb) ?_
    have w2:∀ v,(win pre done u post).set (pre.length+done.length) v=win pre (done++[v]) u post:=fun v=>Kx (by omega)
    simp(maxSteps:=1000000)(disch:=(try simp only[awL]);omega)only[w1,w2,w3,hd,dl,de,↓awU,awY,↓reduceIte,↓reduceDIte,↓Qe,Qu,Qv,Qw,Qx,Qy,Qz,QA,QB,QC,QD,QE,QF,QG,QH,QI,QK]
    have hsl:c+g*d.getD done.length 0<B*B:=by simp only[B];omega
    rw[show (4294967296:Nat)=B from rfl]
    refine ⟨(done++[(u.getD done.length 0+B-(c+g*d.getD done.length 0) % B-b) % B],if u.getD done.length 0<(c+g*d.getD done.length 0) % B+b then 1 else 0,(c+g*d.getD done.length 0) / B),
     ⟨by simp;omega,hdd.append ?_,by simp only;split<;>omega,(Ad1 (by decide)).2 hsl,?_⟩,by simp;omega,[some 0,some 1],rfl,by simp,by simp[SW,AW,B],by simp[HW,BW]⟩
    ·intro x hx;simp at hx;subst hx;exact Ae2 _ (by decide)
    ·have:=ON (d:=d) (g:=g) rfl (Jf (du.getD done.length) (Ae2 (c+g*d.getD done.length 0) (show 0<B by decide)) hb) (Ae1 (c+g*d.getD done.length 0) B) hv.out
     simpa using this
   ·have hi':done.length=n+2:=by omega
    have hv:=hv.out
    rw[hi',AdT (l:=d) (by omega)] at hv
    exact ⟨(done,b,c),⟨hi',hdd,hb,hc,hv⟩,⟨[some 0,some 1],rfl,by simp,by simp[sA,kA,SW,AW],by simp[HW,BW,SW,AW]⟩⟩
  ·rintro ⟨done,b,c⟩ ⟨hi,hdd,hb,hc,hv⟩
   simp only at hi hdd hb hc hv
   simp only[awK,Afw,AfI,reduceIte]
   replace hv:=Hid.mk hv
   have w1:(win pre done u post).getD (pre.length+(n+2)) 0=u.getD (n+2) 0:=by rw[←hi];exact Ig (by omega)
   have w3:(win pre done u post).length=pre.length+u.length+post.length:=Fu (by omega)
   have w2:∀ v,(win pre done u post).set (pre.length+(n+2)) v=win pre (done++[v]) u post:=fun v=>by rw[←hi];exact Kx (by omega)
   have hcB:c<4294967296:=by simpa only[B] using hc
   simp(maxSteps:=1000000)(disch:=(try simp only[awL]);omega)only[w1,w2,w3,hd,dl,de,↓awU,awY,↓reduceIte,↓reduceDIte,↓Qe,Qu,Qv,Qw,Qx,Qy,Qz,QA,QB,QC,QD,QE,QF,QG,QH,QI,QK]
   refine Ab.pure (ZO _ _ _ (du.getD _) hc hb) ?_
   by_cases hbb:u.getD (n+2) 0<c+b
   ·rw[if_pos hbb]
    simp(maxSteps:=1000000)(disch:=(try simp only[awL]);omega)only[w1,w2,w3,hd,dl,de,↓awU,awY,↓reduceIte,↓reduceDIte,↓Qe,Qu,Qv,Qw,Qx,Qy,Qz,QA,QB,QC,QD,QE,QF,QG,QH,QI,QK]
    have h1:=Jf (du.getD (n+2)) hc hb
    rw[if_pos hbb] at h1
    have dz:d.getD (n+2) 0=0:=by rw[AcB,Af8 (by omega)];rfl
    have h2:=ON (d:=d) (g:=g) (c:=c) (c':=0) hi h1 (by rw[dz];simp) (by rw[AdT (l:=d) (by omega)];exact hv.out)
    generalize hdig:(u.getD (n+2) 0+B-c-b) % B=dig at h1 h2 ⊢
    have hdB:dig<B:=by rw[←hdig];exact Ae2 _ (by decide)
    rw[AdT (l:=d) (by omega),AdT (l:=u) (by omega),Age] at h2
    generalize hu':done++[dig]=u' at h2 ⊢
    have lu':u'.length=n+3:=by rw[←hu'];simp;omega
    have du':Dig u':=by rw[←hu'];exact hdd.append (by intro x hx;simp at hx;omega)
    have vu':=Gh du'
    rw[lu'] at vu'
    obtain ⟨m,rfl⟩:∃ m,g=m+1:=by
     rcases g with _ | m
     ·rw[AgZ,Agt] at h2
      have:B^(n+2+1)=B^(n+3):=rfl
      omega
     ·exact ⟨m,rfl⟩
    have ew:win pre u' u post=win pre [] u' post:=by
     simp[win,lu',Agh (l:=u) (i:=n+3) (by omega)]
    rw[ew]
    clear w1 w2 w3 hv hb hc hcB hbb h1
    replace h2:=Hid.mk h2
    replace vu':=Hid.mk vu'
    refine Au.fx 4083388403051261561560495289181218537633 (α:=List Nat × Nat) (β:=List Nat × Nat) (fun x=>n+2-x.1.length) (fun x=>[(13,.d (.int .u32 x.2)),(132,.d (.int .i64 x.1.length))])
     (fun x=>[.row false (AK .u32 (win pre x.1 u' post)),.row false (AK .u32 dr)]) (fun x=>x.1.length≤n+2∧Dig x.1∧x.2≤1∧val x.1+B^x.1.length*x.2=val (u'.take x.1.length)+val (d.take x.1.length))
     161 (fun x=>[(13,.d (.int .u32 x.2))]) (fun x=>[.row false (AK .u32 (win pre x.1 u' post)),.row false (AK .u32 dr)]) (fun x=>x.1.length=n+2∧Dig x.1∧x.2≤1∧val x.1+B^(n+2)*x.2=val (u'.take (n+2))+val d)
     ([],0) ⟨by simp,by simp[Dig],by simp,by simp[val]⟩ ?_ ?_ ?_
    ·exact ⟨[some 0,some 1],rfl,by simp,by simp[sA,kA,SW,AW],by simp[HW,BW,SW,AW]⟩
    ·rintro ⟨done2,a⟩ ⟨hi2,hd2,ha,hv2⟩
     simp only at hi2 hd2 ha hv2
     simp only[awK,Afw,AfI,reduceIte]
     replace hv2:=Hid.mk hv2
     have w1:(win pre done2 u' post).getD (pre.length+done2.length) 0=u'.getD done2.length 0:=Ig (by omega)
     have w3:(win pre done2 u' post).length=pre.length+u'.length+post.length:=Fu (by omega)
     simp(maxSteps:=1000000)(disch:=(try simp only[awL]);omega)only[w1,w3,hd,dl,de,↓awU,awY,↓reduceIte,↓reduceDIte,↓Qe,Qu,Qv,Qw,Qx,Qy,Qz,QA,QB,QC,QD,QE,QF,QG,QH,QI,QK]
     refine ⟨fun h=>?_,fun h=>?_⟩
     ·refine Ab.pure (Z5 _ _ _ (du'.getD _) (dd.getD _) ha) ?_
      have w2:∀ v,(win pre done2 u' post).set (pre.length+done2.length) v=win pre (done2++[v]) u' post:=fun v=>Kx (by omega)
      have a1:=du'.getD done2.length
      have a2:=dd.getD done2.length
      simp(maxSteps:=1000000)(disch:=(try simp only[awL]);omega)only[w1,w2,w3,hd,dl,de,↓awU,awY,↓reduceIte,↓reduceDIte,↓Qe,Qu,Qv,Qw,Qx,Qy,Qz,QA,QB,QC,QD,QE,QF,QG,QH,QI,QK]
      refine ⟨(done2++[(u'.getD done2.length 0+d.getD done2.length 0+a) % B],(u'.getD done2.length 0+d.getD done2.length 0+a) / B),
       ⟨by simp;omega,hd2.append ?_,by simp only[B] at *;omega,?_⟩,by simp;omega,[some 0,some 1],rfl,by simp,by simp[SW,AW],by simp[HW,BW]⟩
      ·intro x hx;simp at hx;subst hx;exact Ae2 _ (by decide)
      ·have:=ZG (u:=u') (d:=d) rfl rfl hv2.out
       simpa using this
     ·have hi':done2.length=n+2:=by omega
      have hv2:=hv2.out
      rw[hi',AdT (l:=d) (by omega)] at hv2
      exact ⟨(done2,a),⟨hi',hd2,ha,hv2⟩,⟨[some 0,some 1],rfl,by simp,by simp[sA,kA,SW,AW],by simp[HW,BW,SW,AW]⟩⟩
    ·rintro ⟨done2,a⟩ ⟨hi2,hd2,ha,hv2⟩
     simp only at hi2 hd2 ha hv2
     simp only[awK,Afw,AfI,reduceIte]
     replace hv2:=Hid.mk hv2
     have w1:(win pre done2 u' post).getD (pre.length+(n+2)) 0=u'.getD (n+2) 0:=by rw[←hi2];exact Ig (by omega)
     have w3:(win pre done2 u' post).length=pre.length+u'.length+post.length:=Fu (by omega)
     have w2:∀ v,(win pre done2 u' post).set (pre.length+(n+2)) v=win pre (done2++[v]) u' post:=fun v=>by rw[←hi2];exact Kx (by omega)
     have a1:=du'.getD (n+2)
     simp(maxSteps:=1000000)(disch:=(try simp only[awL]);omega)only[w1,w2,w3,hd,dl,de,Ih,cast_add,nats_set,↓awU,awY,↓reduceIte,↓reduceDIte,↓Qe,Qu,Qv,Qw,Qx,Qy,Qz,QA,QB,QC,QD,QE,QF,QG,QH,QI,QK]
     rw[show (4294967296:Nat)=B from rfl]
     have hB0:0<B:=by decide
     have h3:=Ae1 (u'.getD (n+2) 0+a) B
     have hq:(u'.getD (n+2) 0+a) / B=0∨(u'.getD (n+2) 0+a) / B=1:=by simp only[B] at *;omega
     have du3:Dig (done2++[(u'.getD (n+2) 0+a) % B]):=hd2.append (by intro x hx;simp at hx;subst hx;exact Ae2 _ hB0)
     have l3:(done2++[(u'.getD (n+2) 0+a) % B]).length=n+3:=by simp;omega
     have v3:=Gh du3
     rw[l3] at v3
     have hu3:val u'=val (u'.take (n+2))+B^(n+2)*u'.getD (n+2) 0:=by
      have:=BD u' (n+2)
      rwa[AdT (l:=u') (by omega)] at this
     have e3:val (done2++[(u'.getD (n+2) 0+a) % B])+B^(n+3)*((u'.getD (n+2) 0+a) / B)=val u'+val d:=by
      rw[Ck,hi2,hu3]
      simp only[val,Af4,AfU]
      have e4:B^(n+3)*((u'.getD (n+2) 0+a) / B)=B^(n+2)*(B*((u'.getD (n+2) 0+a) / B)):=by rw[Ad0,AdW]
      have e5:B^(n+2)*((u'.getD (n+2) 0+a) % B)+B^(n+2)*(B*((u'.getD (n+2) 0+a) / B))=B^(n+2)*u'.getD (n+2) 0+B^(n+2)*a:=by rw[←AdY,h3,AdY]
      have e6:=hv2.out
      omega
     generalize hr3:done2++[(u'.getD (n+2) 0+a) % B]=r3 at *
     generalize (u'.getD (n+2) 0+a) / B=z at *
     have hV:=Gh dd
     have hVP:val d<B^(n+3):=AfN hV (Afs hB0 (by omega))
     have hb:=Zv (U:=val u) (V:=val d) (g:=m+1) (r:=val u') (P:=B^(n+3)) (r3:=val r3) (x3:=0) (dn:=val u'+val d) hgV.out hVP vu'.out h2.out (by omega)
      (by rcases hq with rfl | rfl
          ·left;rw[Af4] at e3;omega
          ·right;rw[Agt] at e3;omega) v3 rfl
     rw[hb.1,hb.2,AgD,←KN du3 l3 rfl]
     have ew3:win pre r3 u' post=pre++(r3++post):=by simp[win,l3,Agh (l:=u') (i:=n+3) (by omega)]
     rw[ew3]
     exact ⟨[some 0,some 1],rfl,by simp,by simp[HW,BW,SW,AW],.inl (by simp[AW,SW])⟩
   ·rw[if_neg hbb]
    simp(maxSteps:=1000000)(disch:=(try simp only[awL]);omega)only[w1,w2,w3,hd,dl,de,↓awU,awY,↓reduceIte,↓reduceDIte,↓Qe,Qu,Qv,Qw,Qx,Qy,Qz,QA,QB,QC,QD,QE,QF,QG,QH,QI,QK]
    have h1:=Jf (du.getD (n+2)) hc hb
    rw[if_neg hbb] at h1
    have dz:d.getD (n+2) 0=0:=by rw[AcB,Af8 (by omega)];rfl
    have h2:=ON (d:=d) (g:=g) (c:=c) (c':=0) hi h1 (by rw[dz];simp) (by rw[AdT (l:=d) (by omega)];exact hv.out)
    generalize hdig:(u.getD (n+2) 0+B-c-b) % B=dig at h1 h2 ⊢
    have hdB:dig<B:=by rw[←hdig];exact Ae2 _ (by decide)
    rw[AdT (l:=d) (by omega),AdT (l:=u) (by omega),Age] at h2
    generalize hu':done++[dig]=u' at h2 ⊢
    have lu':u'.length=n+3:=by rw[←hu'];simp;omega
    have du':Dig u':=by rw[←hu'];exact hdd.append (by intro x hx;simp at hx;omega)
    have hb:=AaY hgU.out h2
    rw[hb.1,hb.2,←KN du' lu' rfl]
    have ew3:win pre u' u post=pre++(u'++post):=by simp[win,lu',Agh (l:=u) (i:=n+3) (by omega)]
    rw[ew3]
    exact ⟨[some 0,some 1],rfl,by simp,by simp[HW,BW,SW,AW],.inl (by simp[AW,SW])⟩
theorem WD {q r:List Nat} {c k:Nat} (h:q.length=k):(q++c::r).getD k 0=c:=by subst h;simp[AcB]
theorem Y7 {q r:List Nat} {c k v:Nat} (h:q.length=k):(q++c::r).set k v=q++v::r:=by subst h;simp
theorem WC {q r:List Nat} {c d k v:Nat} (h:q.length=k):(q++c::d::r).set (k+1) v=q++c::v::r:=by
 subst h;rw[AfW _ _ (by omega),Af0];rfl
theorem Iw (l:List Nat) (sh:Nat) (hl:Dig l) (hs:sh<32) (hll:l.length<2^40) :
  Ctr TP G 205 [.d (W l),.d (.int .i64 sh)] [] (.lsl 0 1 0 (l.length+1)) [.row false (AK .u32 (Bo (l.length+1) (val l*2^sh)))]:=by
 refine Ctr.body (M:=M0) Am Tryz.func205 rfl Aea ?_
 simp(maxSteps:=1000000)(disch:=(try simp only[awL]);omega)only[Tryz.f205,↓awU,awY,↓reduceIte,↓reduceDIte,↓Qe,Qu,Qv,Qw,Qx,Qy,Qz,QA,QB,QC,QD,QE,QF,QG,QH,QI,QK]
 have hm:(2:Int)^sh=((2^sh:Nat):Int):=by simp
 have hmb:2^sh≤2147483648:=Afs (by decide) (show sh≤31 by omega)
 have hmp:0<2^sh:=Af7 sh
 refine Au.fr 24610 (α:=Nat × List Nat × Nat) (fun x=>l.length-x.1) (fun x=>[(15,.d (.int .i64 x.1))])
  (fun x=>[.row false (AK .u32 (x.2.1++x.2.2::AdV (l.length-x.1) 0))]) (fun x=>x.1≤l.length∧x.2.1.length=x.1∧Dig x.2.1∧x.2.2<2^sh∧val x.2.1+B^x.1*x.2.2=val (l.take x.1)*2^sh) (0,[],0) ⟨Ag0 _,rfl,(fun x hx=>by cases hx),hmp,(AgZ _).symm▸rfl⟩ ?_ ?_
 ·exact ⟨[some 0],rfl,by simp,by simp[sA,kA,SW,AW],by simp[HW,BW,AfV]⟩
 ·rintro ⟨k,q,c⟩ ⟨hk,hq,hd,hc,hv⟩
  simp only at hk hq hd hc hv
  simp only[awK,Afw,AfI,reduceIte]
  replace hv:=Hid.mk hv
  have hx:l.getD k 0<4294967296:=hl.getD k
  have hxm:l.getD k 0*2^sh≤4294967295*2147483648:=AgB (by omega) hmb
  have c1:∀ r,(q++c::r).getD k 0=c:=fun r=>WD hq
  have c2:∀ r v,(q++c::r).set k v=q++v::r:=fun r v=>Y7 hq
  have c3:∀ a d r v,(q++a::d::r).set (k+1) v=q++a::v::r:=fun a d r v=>WC hq
  have hor:c ||| (l.getD k 0*2^sh % 4294967296)=c+l.getD k 0*2^sh % 4294967296:=by rw[Y9 hs,AaN hc]
  have hlow:l.getD k 0*2^sh % 4294967296<4294967296:=Ae2 _ (by decide)
  have hmin:min sh 64=sh:=by omega
  simp(maxSteps:=1000000)(disch:=(try simp only[awL]);omega)only[hm,hmin,c1,c2,hor,Ht,Ih,Nat.zero_lt_succ,↓awU,awY,↓reduceIte,↓reduceDIte,↓Qe,Qu,Qv,Qw,Qx,Qy,Qz,QA,QB,QC,QD,QE,QF,QG,QH,QI,QK]
  refine ⟨fun h=>?_,fun h=>?_⟩
  ·have er:AdV (l.length-k) 0=0::AdV (l.length-(k+1)) 0:=by rw[←AfV];congr 1;omega
   rw[er]
   have ei:((l.getD k 0*2^sh:Nat):Int) / 4294967296=((l.getD k 0*2^sh / B:Nat):Int):=by simp only[B];omega
   rw[ei,nats_set,c3]
   refine ⟨(k+1,q++[c+l.getD k 0*2^sh % B],l.getD k 0*2^sh / B),⟨by simp only;omega,by simp[hq],hd.append ?_,?_,XY hq rfl hv.out⟩,by simp only;omega,[some 0],rfl,by simp,by simp[SW,AW],?_⟩
   ·intro x hx
    simp only[AfZ,Agv,or_false] at hx
    subst hx
    show c+l.getD k 0*2^sh % 4294967296<2^32
    rw[←hor]
    exact AgG (by omega) hlow
   ·simp only
    rw[Ad1 (by decide),AdU (2^sh)]
    exact Agp hx hmp
   ·have e2:(q++[c+l.getD k 0*2^sh % B])++l.getD k 0*2^sh / B::AdV (l.length-(k+1)) 0=q++(c+l.getD k 0*2^sh % 4294967296)::l.getD k 0*2^sh / B::AdV (l.length-(k+1)) 0:=by
     rw[Af9];rfl
    simp only[e2]
    simp[HW,BW]
  ·have ek:k=l.length:=by omega
   have hv:=hv.out
   subst ek
   rw[AdT (AfP _)] at hv
   have hcB:c<B:=AfN hc (by simp only[B];omega)
   rw[Agg,List.replicate_zero,←KN (l:=q++[c]) (hd.append (by intro x hx;simp only[AfZ,Agv,or_false] at hx;subst hx;exact hcB)) (by simp[hq]) (by rw[Ck,hq];simpa[val] using hv)]
   exact ⟨[some 0],rfl,by simp,by simp[HW,BW,SW,AW],.inl (by simp[AW,SW])⟩
theorem EB (l:List Nat) (hl:l.length<2^40):Ctr TP G 135 [.d (W l)] [] (.d (W l)) []:=by
 refine Ctr.of_body Tryz.func135 rfl AeJ rfl ?_
 refine Tri.seq (Tri.of_awp (M:=M0) Am _ _ _ _ ?_)
 simp(maxSteps:=1000000)(disch:=(try simp only[awL]);omega)only[D1,Tryz.f135,↓awU,awY,↓reduceIte,↓reduceDIte,↓Qe,Qu,Qv,Qw,Qx,Qy,Qz,QA,QB,QC,QD,QE,QF,QG,QH,QI,QK]
 refine Tri.seq (Tri.seq (Tri.nilRegion (e:=187) (by kernel_rfl) rfl ?_ ?_))
 ·simp
 intro b hb
 simp only[D1]
 refine Tri.of_awp (M:=M0) Am _ _ _ _ ?_
 cases b
 ·simp(maxSteps:=1000000)(disch:=(try simp only[awL]);omega)only[D1,Tryz.f135,Mg,↓awU,awY,↓reduceIte,↓reduceDIte,↓Qe,Qu,Qv,Qw,Qx,Qy,Qz,QA,QB,QC,QD,QE,QF,QG,QH,QI,QK]
  refine Tri.of_awp (M:=M0) Am _ _ _ _ ?_
  simp(maxSteps:=1000000)(disch:=(try simp only[awL]);omega)only[D1,Tryz.f135,Mg,↓awU,awY,↓reduceIte,↓reduceDIte,↓Qe,Qu,Qv,Qw,Qx,Qy,Qz,QA,QB,QC,QD,QE,QF,QG,QH,QI,QK]
  refine ⟨[],rfl,AgX,trivial,.inr ⟨W l,?_,by simp[W,unf_sl],rfl⟩⟩
  simp[sealA,W,cut_nats]
 ·simp(maxSteps:=1000000)(disch:=(try simp only[awL]);omega)only[D1,Tryz.f135,Mg,↓awU,awY,↓reduceIte,↓reduceDIte,↓Qe,Qu,Qv,Qw,Qx,Qy,Qz,QA,QB,QC,QD,QE,QF,QG,QH,QI,QK]
  have h0:l=[]:=Af1.1 (hb rfl)
  subst h0
  exact ⟨[],rfl,AgX,trivial,.inr ⟨.sl 0 true [],rfl,rfl,rfl⟩⟩
theorem VK {o:List Nat} (hd:Dig o) {k:Nat} (hk:k≤o.length) (h:k=0∨o.getD (k-1) 0≠0):toW (val (o.take k))=o.take k:=by
 refine VL (hd.take k) ?_
 rcases h with rfl | h
 ·left;simp
 ·rcases Agr k with rfl | hp
  ·left;simp
  ·right
   have e:(o.take k).length-1=k-1:=by simp;omega
   rw[e,AcB,Agq,if_pos (by omega),←AcB]
   exact h
theorem EH (o:List Nat) (n:Nat) (hd:Dig o) (hn:n≤o.length) (hl:o.length<2^60) :
  Ctr TP G 171 [.lsl 0 1 0 n] [.row false (AK .u32 o)] (.lsl 0 1 0 (toW (val (o.take n))).length) [.row false (AK .u32 o)]:=by
 refine Ctr.body (M:=M0) Am Tryz.func171 rfl ZY ?_
 simp(maxSteps:=1000000)(disch:=(try simp only[awL]);omega)only[Tryz.f171,↓awU,awY,↓reduceIte,↓reduceDIte,↓Qe,Qu,Qv,Qw,Qx,Qy,Qz,QA,QB,QC,QD,QE,QF,QG,QH,QI,QK]
 refine Au.fr 0 (α:=Nat) (fun k=>k) (fun k=>[(0,.lsl 0 1 0 k)]) (fun _=>[.row false (AK .u32 o)]) (fun k=>k≤n∧val (o.take k)=val (o.take n)) n ⟨AfP _,rfl⟩ ?_ ?_
 ·exact ⟨[some 0],rfl,by simp,by simp[sA,kA,SW,AW],by simp[HW,BW,SW,AW]⟩
 ·rintro k ⟨hk,hv⟩
  simp only[awK,Afw,AfI,reduceIte]
  rcases k with _ | k
  ·simp(maxSteps:=1000000)(disch:=(try simp only[awL]);omega)only[↓awU,awY,↓reduceIte,↓reduceDIte,↓Qe,Qu,Qv,Qw,Qx,Qy,Qz,QA,QB,QC,QD,QE,QF,QG,QH,QI,QK]
   have:toW (val (o.take n))=[]:=by rw[←hv];exact Bq
   rw[this]
   exact ⟨[some 0],rfl,by simp,by simp[HW,BW,SW,AW],.inl (by simp[AW,SW])⟩
  ·simp(maxSteps:=1000000)(disch:=(try simp only[awL]);omega)only[↓awU,awY,↓reduceIte,↓reduceDIte,↓Qe,Qu,Qv,Qw,Qx,Qy,Qz,QA,QB,QC,QD,QE,QF,QG,QH,QI,QK]
   refine ⟨fun h=>⟨k,⟨by omega,?_⟩,AgL _,⟨[some 0],rfl,by simp,by simp[sA,kA,SW,AW],by simp[HW,BW,SW,AW]⟩⟩,fun h=>?_⟩
   ·rw[←hv,BD o k,show o.getD k 0=0 by omega];simp
   ·have:=VK hd (k:=k+1) (by omega) (.inr (by simpa using h))
    rw[hv] at this
    rw[this]
    have e:(o.take (k+1)).length=k+1:=by simp;omega
    rw[e]
    exact ⟨[some 0],rfl,by simp,by simp[HW,BW,SW,AW],.inl (by simp[AW,SW])⟩
end Go.Proofs.YtmidaophnbdcdaaGreatDoor.Num
namespace Go.Proofs.YtmidaophnbdcdaaGreatDoor.Num
open Go Go.Proofs Go.Abs
theorem Ey (i k n:Nat):Bo (i+k) n=Bo i n++Bo k (n / B^i):=by
 induction i generalizing n with
 | zero=>simp[Bo]
 | succ i ih =>
  rw[Nat.add_right_comm i 1 k]
  simp only[Bo,Agj]
  rw[ih,AfQ,Ad0,AdU B]
theorem U8 (k:Nat):Bo k 0=AdV k 0:=by
 induction k with
 | zero=>rfl
 | succ k ih=>simp[Bo,AfV,ih]
theorem HU {k z n:Nat} (h:n<B^k):Bo (k+z) n=Bo k n++AdV z 0:=by
 rw[Ey,AfO h,U8]
theorem NB {i k n:Nat} (h:i≤k):(Bo k n).take i=Bo i n:=by
 obtain ⟨z,rfl⟩:∃ z,k=i+z:=⟨k-i,by omega⟩
 rw[Ey,AgT (A3 i n)]
theorem G8 {i k n:Nat} (h:i<k):(Bo k n).getD i 0=n / B^i % B:=by
 obtain ⟨z,rfl⟩:∃ z,k=i+(z+1):=⟨k-i-1,by omega⟩
 rw[Ey,Bo]
 have:=A3 i n
 rw[AcB,Afv (by omega),this,Agg]
 rfl
theorem NC (i n:Nat):Bo (i+1) n=Bo i n++[n / B^i % B]:=by rw[Ey];rfl
theorem VN (n:Nat):toW n=Bo (toW n).length n:=KN (Dt n) rfl (C7 n)
theorem Sn {m:List Nat} {k s:Nat} (hm:Dig m) (hl:m.length=k+2) (ht:m.getD (k+1) 0≠0) (hs:s=31-(m.getD (k+1) 0).log2) :
  s<32∧val m*2^s<B^(k+2)∧2147483648≤(Bo (k+2) (val m*2^s)).getD (k+1) 0:=by
 have htB:=hm.getD (k+1)
 have hv:val m=val (m.take (k+1))+B^(k+1)*m.getD (k+1) 0:=by
  have:=BD m (k+1)
  rwa[AdT (by omega)] at this
 have hlo:=Od hm (k+1)
 generalize m.getD (k+1) 0=t at *
 have he:=(AgA ht).1 rfl
 have he32:=(Agn (k:=32) ht).2 htB
 have hp:2^(t.log2+1)*2^s=B:=by
  rw[←Aga,hs,show t.log2+1+(31-t.log2)=32 by omega];rfl
 have hp':2^t.log2*2^s=2147483648:=by
  rw[←Aga,hs,show t.log2+(31-t.log2)=31 by omega]
 have h1:2147483648≤t*2^s:=by rw[←hp'];exact AdX _ he.1
 have h2:(t+1)*2^s≤B:=by rw[←hp];exact AdX _ he.2
 have h3:val m*2^s<B^(k+2):=by
  have e1:val m+1≤B^(k+1)*(t+1):=by have:=AdY (B^(k+1)) t 1;omega
  have e2:(val m+1)*2^s≤B^(k+1)*(t+1)*2^s:=AdX _ e1
  have e3:B^(k+1)*(t+1)*2^s≤B^(k+1)*B:=by rw[AdW];exact AfJ _ h2
  rw[AdZ,Af2] at e2
  have:0<2^s:=Af7 s
  rw[Ad0]
  omega
 refine ⟨by omega,h3,?_⟩
 rw[G8 (by omega)]
 have hB:0<B^(k+1):=Ag1 (by decide)
 have e4:val m*2^s / B^(k+1)<B:=by
  rw[Ad1 hB,AdU B,←Ad0];exact h3
 rw[Ae3 e4]
 refine AgK h1 ((Agi hB).2 ?_)
 rw[AgE]
 refine AdX _ ?_
 rw[hv,AdU];omega
theorem Y4 {U V j Q r:Nat} (h:U / B^(j+1)=Q*V+r) (hr:r<V) :
  U / B^j % B+B*r<V*B∧U / B^j=(B*Q+(U / B^j % B+B*r) / V)*V+(U / B^j % B+B*r) % V:=by
 have hx:U / B^j % B<B:=Ae2 _ (by decide)
 refine ⟨?_,?_⟩
 ·have:B*(r+1)≤B*V:=AfJ _ hr
  rw[AdY,Agt] at this
  rw[AdU V]
  omega
 ·have h1:=Ae1 (U / B^j) B
  rw[AfQ,←Ad0,h,AdY] at h1
  have h2:=Ae1 (U / B^j % B+B*r) V
  rw[AdZ,AdW]
  rw[AdU V] at h2
  omega
theorem XK {r s i:Nat} (hs:s<32):((r / B^(i+1) % B)*B+r / B^i % B) / 2^s % B=r / 2^s / B^i % B:=by
 have hB:B=2^(32-s)*2^s:=by rw[←Aga,show 32-s+s=32 by omega];rfl
 have e1:r / 2^s / B^i=r / B^i / 2^s:=by rw[AfQ,AdU,←AfQ]
 have e2:r / B^(i+1)=r / B^i / B:=by rw[AfQ,Ad0]
 rw[e1,e2]
 generalize r / B^i=y
 have h1:=Ae1 y B
 have h2:=Ae1 (y / B) B
 generalize hc:y / B / B=c at *
 generalize hh:y / B % B=h at *
 generalize hl:y % B=l at *
 have hp:0<2^s:=Af7 s
 have e3:y=(h*B+l)+2^s*(c*B*2^(32-s)):=by
  have:2^s*(c*B*2^(32-s))=B*(B*c):=by
   conv=>rhs;arg 1;rw[hB]
   ac_rfl
  rw[this,←h1,←h2,AdY,AdU B h]
  omega
 rw[e3,AfY _ _ hp,AgE,Nat.add_mul_mod_self_right]
theorem KV {l:List Nat} (h:Dig l):(toW (val l)).length≤l.length:=DN (Gh h)
theorem Je {l:List Nat} (h:Dig l):l.take (toW (val l)).length=toW (val l):=by
 conv=>lhs;arg 2;rw[←Re h]
 rw[NB (KV h),←VN]
def BP (N s r i:Nat):List Nat:=Bo i (r / 2^s)++(Bo N r).drop i
theorem Dv {N s r i:Nat} (h:i≤N):(BP N s r i).length=N:=by simp[BP,A3];omega
theorem O4 {N s r:Nat}:BP N s r 0=Bo N r:=rfl
theorem O6 {N s r i:Nat} (h:i<N):(BP N s r i).getD i 0=r / B^i % B:=by
 have hl:=A3 i (r / 2^s)
 rw[BP,AcB,Afv (by omega),hl,Agg,Ags,AfU,←AcB,G8 h]
theorem O5 {N s r i kk:Nat} (hk:kk≤N) (hr:r<B^kk):((BP N s r i).take kk).getD (i+1) 0=r / B^(i+1) % B:=by
 have hl:=A3 i (r / 2^s)
 rw[AcB,Agq]
 split
 ·rename_i h
  rw[BP,Afv (by omega),hl,Ags,show i+(i+1-i)=i+1 by omega,←AcB,G8 (by omega)]
 ·rename_i h
  have:r<B^(i+1):=AfN hr (Afs (by decide) (by omega))
  rw[AfO this];rfl
theorem Ru {N s r i:Nat} (h:i<N):(BP N s r i).set i (r / 2^s / B^i % B)=BP N s r (i+1):=by
 have hl:=A3 i (r / 2^s)
 have hl2:=A3 N r
 rw[BP,AfW _ _ (by omega),hl,Agg,AfR (by omega),AfS,BP,NC,Af9]
 rfl
theorem Rf {N s r i:Nat}:Dig (BP N s r i):=(Ez _ _).append ((Ez _ _).drop _)
theorem I6 {N s r i:Nat}:(BP N s r i).take i=Bo i (r / 2^s):=by
 rw[BP,AgT (A3 _ _)]
theorem XL {a b p q r:Nat} (hp:0<p) (h:a*p=q*(b*p)+r) (hr:r<b*p):a / b=q∧a % b=r / p∧r / p≤r:=by
 have h1:r % p=0:=by
  have:=congrArg (· % p) h
  simp only[Nat.mul_mod_left] at this
  rw[←AdW,Nat.mul_add_mod_self_right] at this
  exact this.symm
 obtain ⟨c,rfl⟩:=Nat.dvd_of_mod_eq_zero h1
 rw[AdU p c] at h hr
 have hc:c<b:=Nat.lt_of_mul_lt_mul_right hr
 have ha:a=q*b+c:=by
  rw[←AdW,←AdZ] at h
  exact Nat.eq_of_mul_eq_mul_right hp h
 rw[Nat.mul_div_cancel_left _ hp]
 refine ⟨?_,?_,Nat.le_mul_of_pos_left _ hp⟩
 ·rw[ha,AdU q,AgR (by omega),AfO hc,AfU]
 ·rw[ha,AdU q,Nat.mul_add_mod_self_left,Ae3 hc]
theorem Wk {l:List Nat} {k z s V:Nat} (hl:Dig l) (hz:l.length=k+2+z) (hs:s<32) (n3:2147483648≤(Bo (k+2) V).getD (k+1) 0):val l*2^s / B^(z+1)<V:=by
 have hB:∀ i,0<B^i:=fun i=>Ag1 (by decide)
 rw[G8 (by omega)] at n3
 have h1:2147483648≤V / B^(k+1):=AgK n3 (Nat.mod_le _ _)
 have h2:2147483648*B^(k+1)≤V:=(Agi (hB _)).1 h1
 have h3:=Gh hl
 rw[hz] at h3
 have h4:2^s≤2147483648:=Afs (by decide) (show s≤31 by omega)
 rw[Ad1 (hB _)]
 have h5:val l*2^s<B^(k+2+z)*2^s:=Agp h3 (Af7 s)
 have h6:B^(k+2+z)*2^s≤B^(k+2+z)*2147483648:=AfJ _ h4
 have h7:B^(k+2+z)*2147483648=2147483648*B^(k+1)*B^(z+1):=by rw[AdU,AdW,←Aga];congr 2;omega
 have h8:2147483648*B^(k+1)*B^(z+1)≤V*B^(z+1):=AdX _ h2
 omega
end Go.Proofs.YtmidaophnbdcdaaGreatDoor.Num
namespace Go.Proofs.YtmidaophnbdcdaaGreatDoor.Num
open Go Go.Proofs Go.Abs
variable {G:Ad}
def M1:BZ:=fun f=>f == 206 || f == 171
theorem Gc:M1 202=false:=rfl
theorem Gb:M1 135=false:=rfl
theorem Ga:M1 203=false:=rfl
theorem F9:M1 204=false:=rfl
theorem F8:M1 205=false:=rfl
theorem F7:M1 173=false:=rfl
theorem F6:M1 206=true:=rfl
theorem F5:M1 171=true:=rfl
theorem Jo (a b:Nat) (hb:b≠0) (ha:(toW a).length<2^38) (hb':(toW b).length<2^38) :
  Ctr TP G 175 [.d (W (toW a)),.d (W (toW b))] [] (.d (.tup [W (toW (a / b)),W (toW (a % b))])) []:=by
 have da:=Dt a
 have db:=Dt b
 have va:=C7 a
 have vb:=C7 b
 have tb:=VM hb
 have hcmp:cmpI (a:Int) b<0↔a<b:=by
  unfold cmpI;split
  ·omega
  ·split<;>omega
 refine Ctr.pure (M:=M1) Am Tryz.func175 rfl Aem ?_
 simp(maxSteps:=1000000)(disch:=(try simp only[awL]);omega)only[Tryz.f175,Gc,Gb,Ga,F9,F8,F7,F6,F5,↓awU,awY,↓reduceIte,↓reduceDIte,↓Qe,Qu,Qv,Qw,Qx,Qy,Qz,QA,QB,QC,QD,QE,QF,QG,QH,QI,QK]
 refine Ab.pure (compare_spec a b (by omega) (by omega)) ?_
 simp(maxSteps:=1000000)(disch:=(try simp only[awL]);omega)only[Gc,Gb,Ga,F9,F8,F7,F6,F5,hcmp,↓awU,awY,↓reduceIte,↓reduceDIte,↓Qe,Qu,Qv,Qw,Qx,Qy,Qz,QA,QB,QC,QD,QE,QF,QG,QH,QI,QK]
 refine ⟨fun h=>?_,fun h=>⟨fun h1=>?_,fun h1=>?_⟩⟩
 ·rw[AfO h,Ae3 h,Bq]
  refine Ab.pure (EB (toW a) (by omega)) ?_
  simp(maxSteps:=1000000)(disch:=(try simp only[awL]);omega)only[↓awU,awY,↓reduceIte,↓reduceDIte,↓Qe,Qu,Qv,Qw,Qx,Qy,Qz,QA,QB,QC,QD,QE,QF,QG,QH,QI,QK]
  rfl
 ·have h1:(toW b).length=1:=by omega
  have hb1:(toW b).getD 0 0=b:=by
   have:=BD (toW b) 0
   rw[AdT (by omega),vb] at this
   simpa[val] using this.symm
  have hbB:b<B:=by rw[←hb1];exact db.getD 0
  rw[hb1]
  refine Ab.pure (R9 a b (by omega) hbB (by omega)) ?_
  simp(maxSteps:=1000000)(disch:=(try simp only[awL]);omega)only[Gc,Gb,Ga,F9,F8,F7,F6,F5,↓awU,awY,↓reduceIte,↓reduceDIte,↓Qe,Qu,Qv,Qw,Qx,Qy,Qz,QA,QB,QC,QD,QE,QF,QG,QH,QI,QK]
  have dr:Dig [a % b]:=by intro x hx;simp at hx;subst hx;exact Agx (Ae2 _ (by omega)) hbB
  refine Ab.by (EH [a % b] 1 dr (by simp) (by simp)) rfl rfl (AfP _) ?_
  simp(maxSteps:=1000000)(disch:=(try simp only[awL]);omega)only[Gc,Gb,Ga,F9,F8,F7,F6,F5,↓awU,awY,↓reduceIte,↓reduceDIte,↓Qe,Qu,Qv,Qw,Qx,Qy,Qz,QA,QB,QC,QD,QE,QF,QG,QH,QI,QK]
  have vr:val [a % b]=a % b:=by simp[val]
  have tr:=Je dr
  rw[vr] at tr
  rw[vr,tr]
 ·generalize hl:toW a=l at *
  generalize hm:toW b=m at *
  obtain ⟨k,hk⟩:∃ k,m.length=k+2:=⟨m.length-2,by
   have:m.length≠0:=by
    intro h0
    have:=Af1.1 h0
    subst this
    exact hb vb.symm
   omega⟩
  rw[hk,show k+2-1=k+1 from rfl] at tb
  have mB:=db.getD (k+1)
  obtain ⟨z,hz⟩:∃ z,l.length=k+2+z:=⟨l.length-(k+2),by
   have h2:¬l.length<m.length:=by
    intro h3;rw[←hl,←hm] at h3
    exact h (Fw h3)
   omega⟩
  have e1:(l.length:Int)-((k+2:Nat):Int)+1=((z+1:Nat):Int):=by omega
  simp(maxSteps:=1000000)(disch:=(try simp only[awL]);omega)only[Gc,Gb,Ga,F9,F8,F7,F6,F5,hk,↓awU,awY,↓reduceIte,↓reduceDIte,↓Qe,Qu,Qv,Qw,Qx,Qy,Qz,QA,QB,QC,QD,QE,QF,QG,QH,QI,QK]
  refine Ab.pure (lz32 _ tb mB) ?_
  obtain ⟨n1,n2,n3⟩:=Sn db hk tb rfl
  generalize hs:31-(m.getD (k+1) 0).log2=s at *
  simp(maxSteps:=1000000)(disch:=(try simp only[awL]);omega)only[Gc,Gb,Ga,F9,F8,F7,F6,F5,hk,↓awU,awY,↓reduceIte,↓reduceDIte,↓Qe,Qu,Qv,Qw,Qx,Qy,Qz,QA,QB,QC,QD,QE,QF,QG,QH,QI,QK]
  refine Ab.by (Iw l s da n1 (by omega)) rfl rfl (by simp) ?_
  simp(maxSteps:=1000000)(disch:=(try simp only[awL]);omega)only[Gc,Gb,Ga,F9,F8,F7,F6,F5,hk,↓awU,awY,↓reduceIte,↓reduceDIte,↓Qe,Qu,Qv,Qw,Qx,Qy,Qz,QA,QB,QC,QD,QE,QF,QG,QH,QI,QK]
  refine Ab.by (Iw m s db n1 (by omega)) (by rw[W,hk]) rfl (by simp) ?_
  simp(maxSteps:=1000000)(disch:=(try simp only[awL]);omega)only[e1,Gc,Gb,Ga,F9,F8,F7,F6,F5,hk,↓awU,awY,↓reduceIte,↓reduceDIte,↓Qe,Qu,Qv,Qw,Qx,Qy,Qz,QA,QB,QC,QD,QE,QF,QG,QH,QI,QK]
  refine ⟨by rfl,?_⟩
  have hVz:val m*2^s<B^(k+2+1):=AfN n2 (Afs (by decide) (by omega))
  generalize hU:val l*2^s=U at *
  generalize hV:val m*2^s=V at *
  refine Au.fx 7936 (α:=Nat × Nat × List Nat) (β:=Nat × List Nat) (fun x=>x.1) (fun x=>[(13,.d (.int .i64 ((x.1:Int)-1)))])
   (fun x=>[.row false (AK .u32 (Bo x.1 U++Bo (l.length+1-x.1) x.2.1)),.row false (AK .u32 (Bo (k+2+1) V)),.row false (AK .u32 (AdV x.1 0++x.2.2))])
   (fun x=>x.1≤z+1∧x.2.2.length+x.1=z+1∧Dig x.2.2∧x.2.1<V∧U / B^x.1=val x.2.2*V+x.2.1)
   5888 (fun _=>[]) (fun x=>[.row false (AK .u32 (Bo (l.length+1) x.1)),.row false (AK .u32 (Bo (k+2+1) V)),.row false (AK .u32 x.2)])
   (fun x=>x.2.length=z+1∧Dig x.2∧x.1<V∧U=val x.2*V+x.1) (z+1,U / B^(z+1),[]) ⟨AfP _,by simp,(fun x hx=>by cases hx),?_,by simp[val]⟩ ?_ ?_ ?_
  ·rw[←hU];exact Wk da hz n1 n3
  ·refine ⟨[some 0,some 1,some 2],rfl,by simp,by simp[sA,kA,SW,AW],?_⟩
   have:Bo (l.length+1) U=Bo (z+1) U++Bo (l.length+1-(z+1)) (U / B^(z+1)):=by rw[←Ey];congr 1;omega
   simp[HW,BW,this,AfV]
  ·rintro ⟨i,r,qd⟩ ⟨hi,hq,hdq,hr,hv⟩
   simp only at hi hq hdq hr hv
   simp only[awK,Afw,AfI,reduceIte]
   rcases i with _ | j
   ·simp(maxSteps:=1000000)(disch:=(try simp only[awL]);omega)only[Gc,Gb,Ga,F9,F8,F7,F6,F5,hk,↓awU,awY,↓reduceIte,↓reduceDIte,↓Qe,Qu,Qv,Qw,Qx,Qy,Qz,QA,QB,QC,QD,QE,QF,QG,QH,QI,QK]
    rw[Nat.pow_zero,Nat.div_one] at hv
    exact ⟨(r,qd),⟨by simpa using hq,hdq,hr,hv⟩,[some 0,some 1,some 2],rfl,by simp,by simp[SW,AW],by simp[HW,BW,Bo]⟩
   ·have e2:j+(k+2)+1-j=k+3:=by omega
    simp(maxSteps:=1000000)(disch:=(try simp only[awL]);omega)only[Gc,Gb,Ga,F9,F8,F7,F6,F5,hk,e2,↓awU,awY,↓reduceIte,↓reduceDIte,↓Qe,Qu,Qv,Qw,Qx,Qy,Qz,QA,QB,QC,QD,QE,QF,QG,QH,QI,QK]
    obtain ⟨hw,hq2⟩:=Y4 hv hr
    have hrB:r<B^(k+2):=Agx hr n2
    have eu:Bo (j+1) U++Bo (l.length+1-(j+1)) r=Bo j U++((U / B^j % B::Bo (k+2) r)++AdV (z-j) 0):=by
     rw[NC,Af9,show l.length+1-(j+1)=(k+2)+(z-j) by omega,HU hrB];rfl
    have ed:Bo (k+2+1) V=Bo (k+2) V++[0]:=HU (z:=1) n2
    have du:Dig (U / B^j % B::Bo (k+2) r):=fun x hx=>by
     rcases AfZ.1 hx with rfl | hx
     ·exact Ae2 _ (by decide)
     ·exact Ez _ _ x hx
    have vu:val (U / B^j % B::Bo (k+2) r)=U / B^j % B+B*r:=by rw[val,Gi hrB]
    have vd:val (Bo (k+2) V)=V:=Gi n2
    have hds:=SQ (G:=G) (Bo j U) (U / B^j % B::Bo (k+2) r) (AdV (z-j) 0) (Bo (k+2) V) [0] k (A3 _ _) (by simp[A3]) (Ez _ _) du (by rw[vu,vd];exact hw) n3 (by simp[A3];omega)
    rw[A3,vu,vd] at hds
    refine Ab.by hds rfl (by rw[eu,ed]) (AfP _) ?_
    have hr':(U / B^j % B+B*r) % V<V:=Ae2 _ (by omega)
    have hqB:(U / B^j % B+B*r) / V<B:=(Ad1 (by omega)).2 (by have:=hw;rw[AdU V] at this;exact this)
    generalize hgq:(U / B^j % B+B*r) / V=q1 at *
    generalize hgr:(U / B^j % B+B*r) % V=r1 at *
    have er:Bo (l.length+1-j) r1=Bo (k+3) r1++AdV (z-j) 0:=by
     rw[show l.length+1-j=(k+3)+(z-j) by omega,HU]
     exact AfN (Agx hr' n2) (Afs (by decide) (by omega))
    simp(maxSteps:=1000000)(disch:=(try simp only[awL]);omega)only[Gc,Gb,Ga,F9,F8,F7,F6,F5,hk,e2,↓awU,awY,↓reduceIte,↓reduceDIte,↓Qe,Qu,Qv,Qw,Qx,Qy,Qz,QA,QB,QC,QD,QE,QF,QG,QH,QI,QK]
    refine ⟨(j,r1,q1::qd),⟨by simp only;omega,by simp;omega,?_,hr',by rw[val];rw[AgY q1];exact hq2⟩,by simp,[some 0,some 1,some 2],rfl,by simp,by simp[SW,AW],?_⟩
    ·intro x hx
     rcases AfZ.1 hx with rfl | hx
     ·exact hqB
     ·exact hdq x hx
    ·simp[HW,BW,er,ed,Ty]
  ·rintro ⟨r,qd⟩ ⟨hq,hdq,hr,hv⟩
   simp only at hq hdq hr hv
   simp only[awK,Afw,AfI,reduceIte]
   simp(maxSteps:=1000000)(disch:=(try simp only[awL]);omega)only[Gc,Gb,Ga,F9,F8,F7,F6,F5,hk,↓awU,awY,↓reduceIte,↓reduceDIte,↓Qe,Qu,Qv,Qw,Qx,Qy,Qz,QA,QB,QC,QD,QE,QF,QG,QH,QI,QK]
   have hrB:r<B^(k+2):=Agx hr n2
   have vt:val ((Bo (l.length+1) r).take (k+2))=r:=by rw[NB (by omega),Gi hrB]
   have ht:=EH (G:=G) (Bo (l.length+1) r) (k+2) (Ez _ _) (by rw[A3];omega) (by rw[A3];omega)
   rw[vt] at ht
   refine Ab.by ht rfl rfl (AfP _) ?_
   have hkk:(toW r).length≤k+2:=DN hrB
   have hrk:=Nn r
   generalize (toW r).length=kk at *
   simp(maxSteps:=1000000)(disch:=(try simp only[awL]);omega)only[Gc,Gb,Ga,F9,F8,F7,F6,F5,hk,↓awU,awY,↓reduceIte,↓reduceDIte,↓Qe,Qu,Qv,Qw,Qx,Qy,Qz,QA,QB,QC,QD,QE,QF,QG,QH,QI,QK]
   have hm2:(2:Int)^s=((2^s:Nat):Int):=by simp
   have hmin:min s 64=s:=by omega
   refine Au.fx 77371252455336267181216256 (α:=Nat) (β:=Unit) (fun i=>kk-i) (fun i=>[(87,.d (.int .i64 i))])
    (fun i=>[.row false (AK .u32 (BP (l.length+1) s r i)),.row false (AK .u32 (Bo (k+2+1) V)),.row false (AK .u32 qd)]) (fun i=>i≤kk)
    20480 (fun _=>[]) (fun _=>[.row false (AK .u32 (BP (l.length+1) s r kk)),.row false (AK .u32 (Bo (k+2+1) V)),.row false (AK .u32 qd)]) (fun _=>True) 0 (Ag0 _) ?_ ?_ ?_
   ·exact ⟨[some 0,some 1,some 2],rfl,by simp,by simp[sA,kA,SW,AW],by simp[HW,BW,O4]⟩
   ·intro i hi
    simp only[awK,Afw,AfI,reduceIte]
    have b1:=Dv (s:=s) (r:=r) (show i≤l.length+1 by omega)
    simp(maxSteps:=1000000)(disch:=(try simp only[awL]);omega)only[Gc,Gb,Ga,F9,F8,F7,F6,F5,hk,b1,↓awU,awY,↓reduceIte,↓reduceDIte,↓Qe,Qu,Qv,Qw,Qx,Qy,Qz,QA,QB,QC,QD,QE,QF,QG,QH,QI,QK]
    refine ⟨fun h5=>?_,fun h5=>?_⟩
    ·refine Ab.frozenE (O7 ((BP (l.length+1) s r i).take kk) (i+1)) (by simp[W,b1];omega) ?_
     rw[O5 (by omega) hrk]
     have b3:=O6 (N:=l.length+1) (s:=s) (r:=r) (i:=i) (by omega)
     have hun:=XK (r:=r) (i:=i) n1
     have bs:=Ru (N:=l.length+1) (s:=s) (r:=r) (i:=i) (by omega)
     have g1:r / B^(i+1) % B<4294967296:=Ae2 _ (by decide)
     have g2:r / B^i % B<4294967296:=Ae2 _ (by decide)
     generalize r / B^(i+1) % B=hi' at *
     generalize r / B^i % B=lo at *
     simp(maxSteps:=1000000)(disch:=(try simp only[awL]);omega)only[Gc,Gb,Ga,F9,F8,F7,F6,F5,hk,b1,b3,Wl,hmin,hm2,WZ,Ih,↓awU,awY,↓reduceIte,↓reduceDIte,↓Qe,Qu,Qv,Qw,Qx,Qy,Qz,QA,QB,QC,QD,QE,QF,QG,QH,QI,QK]
     have hun':(hi'*4294967296+lo) / 2^s % 4294967296=r / 2^s / B^i % B:=hun
     rw[hun',bs]
     exact ⟨i+1,by omega,by simp only;omega,[some 0,some 1,some 2],rfl,by simp,by simp[SW,AW],by simp[HW,BW]⟩
    ·have:i=kk:=by omega
     subst this
     exact ⟨(),trivial,[some 0,some 1,some 2],rfl,by simp,by simp[SW,AW],by simp[HW,BW]⟩
   ·rintro ⟨⟩ -
    simp only[awK,Afw,AfI,reduceIte]
    simp(maxSteps:=1000000)(disch:=(try simp only[awL]);omega)only[Gc,Gb,Ga,F9,F8,F7,F6,F5,hk,↓awU,awY,↓reduceIte,↓reduceDIte,↓Qe,Qu,Qv,Qw,Qx,Qy,Qz,QA,QB,QC,QD,QE,QF,QG,QH,QI,QK]
    have hq1:=EH (G:=G) qd (z+1) hdq (by omega) (by omega)
    rw[AdT (by omega)] at hq1
    refine Ab.by hq1 rfl rfl (AfP _) ?_
    simp(maxSteps:=1000000)(disch:=(try simp only[awL]);omega)only[Gc,Gb,Ga,F9,F8,F7,F6,F5,hk,↓awU,awY,↓reduceIte,↓reduceDIte,↓Qe,Qu,Qv,Qw,Qx,Qy,Qz,QA,QB,QC,QD,QE,QF,QG,QH,QI,QK]
    have hus:=XL (a:=a) (b:=b) (Af7 s) (by rw[←va,←vb,hU,hV];exact hv) (by rw[←vb,hV];exact hr)
    have vt2:val ((BP (l.length+1) s r kk).take kk)=r / 2^s:=by rw[I6,Gi (AgF hus.2.2 hrk)]
    have hr1:=EH (G:=G) (BP (l.length+1) s r kk) kk Rf (by rw[Dv (by omega)];omega) (by rw[Dv (by omega)];omega)
    have htr:=Je (Ez kk (r / 2^s))
    have htl:=KV (Ez kk (r / 2^s))
    rw[Gi (AgF hus.2.2 hrk)] at htr htl
    rw[A3] at htl
    rw[vt2] at hr1
    refine Ab.by hr1 rfl rfl (AfP _) ?_
    have htq:=Je hdq
    have b1:=Dv (s:=s) (r:=r) (show kk≤l.length+1 by omega)
    have hlq:=KV hdq
    simp(maxSteps:=1000000)(disch:=(try simp only[awL]);omega)only[Gc,Gb,Ga,F9,F8,F7,F6,F5,hk,b1,↓awU,awY,↓reduceIte,↓reduceDIte,↓Qe,Qu,Qv,Qw,Qx,Qy,Qz,QA,QB,QC,QD,QE,QF,QG,QH,QI,QK]
    have e5:(BP (l.length+1) s r kk).take (toW (r / 2^s)).length=toW (r / 2^s):=by
     have:=congrArg (List.take (toW (r / 2^s)).length) (I6 (N:=l.length+1) (s:=s) (r:=r) (i:=kk))
     rw[AgU,Af5 htl,htr] at this
     exact this
    rw[e5,htq,hus.1,hus.2.1]
theorem Fv {a b:Nat} (h:a≤b):(toW a).length≤(toW b).length:=by
 by_cases h2:(toW b).length<(toW a).length
 ·have:=Fw h2;omega
 ·omega
theorem Rr (a b:Nat) (ha:(toW a).length<2^38) (hb:(toW b).length<2^38) :
  Ctr TP G 174 [.d (W (toW a)),.d (W (toW b))] [] (.d (W (toW (Agl a b)))) []:=by
 refine Ctr.pure (M:=M0) Am Tryz.func174 rfl Aen ?_
 simp(maxSteps:=1000000)(disch:=(try simp only[awL]);omega)only[Tryz.f174,↓awU,awY,↓reduceIte,↓reduceDIte,↓Qe,Qu,Qv,Qw,Qx,Qy,Qz,QA,QB,QC,QD,QE,QF,QG,QH,QI,QK]
 refine Au.fr 0 (α:=Nat × Nat) (fun x=>x.2) (fun x=>[(0,.d (W (toW x.1))),(1,.d (W (toW x.2)))]) (fun _=>[]) (fun x=>Agl x.1 x.2=Agl a b∧(toW x.1).length<2^38∧(toW x.2).length<2^38) (a,b) ⟨rfl,ha,hb⟩ ?_ ?_
 ·exact ⟨[],rfl,by simp,by simp[sA,kA,SW,AW],by simp[HW,BW,SW,AW]⟩
 ·rintro ⟨x,y⟩ ⟨hg,hx,hy⟩
  simp only at hg hx hy
  simp only[awK,Afw,AfI,reduceIte]
  by_cases h0:y=0
  ·subst h0
   rw[Nat.gcd_zero_right] at hg
   subst hg
   have e:toW 0=[]:=Bq
   rw[e]
   simp(maxSteps:=1000000)(disch:=(try simp only[awL]);omega)only[↓awU,awY,↓reduceIte,↓reduceDIte,↓Qe,Qu,Qv,Qw,Qx,Qy,Qz,QA,QB,QC,QD,QE,QF,QG,QH,QI,QK]
  ·have hp:0<(toW y).length:=by
    rcases Agr (toW y).length with h | h
    ·exact absurd (Tk.1 (Af1.1 h)) h0
    ·exact h
   simp(maxSteps:=1000000)(disch:=(try simp only[awL]);omega)only[↓awU,awY,↓reduceIte,↓reduceDIte,↓Qe,Qu,Qv,Qw,Qx,Qy,Qz,QA,QB,QC,QD,QE,QF,QG,QH,QI,QK]
   refine Ab.pure (Jo x y h0 hx hy) ?_
   simp(maxSteps:=1000000)(disch:=(try simp only[awL]);omega)only[↓awU,awY,↓reduceIte,↓reduceDIte,↓Qe,Qu,Qv,Qw,Qx,Qy,Qz,QA,QB,QC,QD,QE,QF,QG,QH,QI,QK]
   have hlt:=Ae2 x (Nat.pos_of_ne_zero h0)
   refine ⟨(y,x % y),⟨by rw[←hg,Agy x y];rw[Agy y (x % y)];exact (Nat.gcd_rec y x).symm,hy,?_⟩,hlt,⟨[],rfl,by simp,by simp[sA,kA,SW,AW],by simp[HW,BW,SW,AW]⟩⟩
   have:=Fv (Agb hlt)
   simp only;omega
abbrev Aa2 (n:Int):List D:=[.bool (decide (n<0)),W (toW n.natAbs)]
abbrev Big (n:Int):D:=.agg (Aa2 n)
abbrev Frac (x:Rat):D:=.agg [.bool (decide (x.num<0)),W (toW x.num.natAbs),.bool false,W (toW x.den)]
abbrev sz (n:Int):Nat:=(toW n.natAbs).length
theorem Aae {n:Nat}:0<(toW n).length↔n≠0:=by
 rw[Nat.pos_iff_ne_zero,ne_eq,Af1,Tk]
theorem B0 (neg:Bool) (n:Nat) (hn:(toW n).length<2^38):Ctr TP G 140 [.d (.bool neg),.d (W (toW n))] [] (.d (Big (if neg then -(n:Int) else n))) []:=by
 refine Ctr.pure (M:=M0) Am Tryz.func140 rfl AeE ?_
 cases neg
 ·simp(maxSteps:=1000000)(disch:=(try simp only[awL]);omega)only[Tryz.f140,↓awU,awY,↓reduceIte,↓reduceDIte,↓Qe,Qu,Qv,Qw,Qx,Qy,Qz,QA,QB,QC,QD,QE,QF,QG,QH,QI,QK]
  simp[Big,Aa2,W]
 ·simp(maxSteps:=1000000)(disch:=(try simp only[awL]);omega)only[Tryz.f140,↓awU,awY,↓reduceIte,↓reduceDIte,↓Qe,Qu,Qv,Qw,Qx,Qy,Qz,QA,QB,QC,QD,QE,QF,QG,QH,QI,QK]
  have:=@Aae n
  simp[Big,Aa2,W]
  omega
theorem VX {n d:Int} (hd:d≠0):d.sign*n=if ¬decide (n<0)=decide (d<0) then -((n.natAbs:Nat):Int) else ((n.natAbs:Nat):Int):=by
 rcases Int.lt_or_gt_of_ne hd with h | h
 ·rw[Int.sign_eq_neg_one_of_neg h]
  by_cases hn:n<0<;>simp[hn,h]<;>omega
 ·rw[Int.sign_eq_one_of_pos h]
  by_cases hn:n<0<;>simp[hn,show ¬d<0 by omega]<;>omega
theorem Y6 {m g:Nat} (h:g ∣ m):(-((m:Nat):Int)) / (g:Int)=-((m / g:Nat):Int):=by
 rw[Int.neg_ediv_of_dvd (Int.natCast_dvd_natCast.2 h)];rfl
theorem T4 {a b:Nat}:(toW (a / b)).length≤(toW a).length:=Fv (AgS _ _)
theorem Ed (n d:Int) (hd:d≠0) (hn:sz n<2^36) (hds:sz d<2^36):Ctr TP G 139 [.d (Big n),.d (Big d)] [] (.d (Frac (Rat.divInt n d))) []:=by
 simp only[sz] at hn hds
 have hg0:Agl n.natAbs d.natAbs≠0:=by
  intro h;exact hd (Int.natAbs_eq_zero.1 (Nat.gcd_eq_zero_iff.1 h).2)
 have hgl:(toW (Agl n.natAbs d.natAbs)).length≤(toW d.natAbs).length:=Fv (Nat.gcd_le_right _ (by omega))
 have hx:=@T4 n.natAbs (Agl n.natAbs d.natAbs)
 have hy:=@T4 d.natAbs (Agl n.natAbs d.natAbs)
 have e1:(Rat.divInt n d).num=if ¬decide (n<0)=decide (d<0) then -((n.natAbs / Agl n.natAbs d.natAbs:Nat):Int) else ((n.natAbs / Agl n.natAbs d.natAbs:Nat):Int):=by
  rw[Rat.num_divInt,VX hd,Int.gcd,Agy d.natAbs]
  split
  ·exact Y6 (Nat.gcd_dvd_left _ _)
  ·rfl
 have e2:(Rat.divInt n d).den=d.natAbs / Agl n.natAbs d.natAbs:=by
  rw[Rat.den_divInt,if_neg hd,Int.gcd,Agy d.natAbs]
 refine Ctr.pure (M:=M0) Am Tryz.func139 rfl AeF ?_
 simp(maxSteps:=1000000)(disch:=(try simp only[awL]);omega)only[Tryz.f139,↓awU,awY,↓reduceIte,↓reduceDIte,↓Qe,Qu,Qv,Qw,Qx,Qy,Qz,QA,QB,QC,QD,QE,QF,QG,QH,QI,QK]
 refine Ab.pure (Rr _ _ (by omega) (by omega)) ?_
 generalize Agl n.natAbs d.natAbs=g at *
 simp(maxSteps:=1000000)(disch:=(try simp only[awL]);omega)only[↓awU,awY,↓reduceIte,↓reduceDIte,↓Qe,Qu,Qv,Qw,Qx,Qy,Qz,QA,QB,QC,QD,QE,QF,QG,QH,QI,QK]
 refine Ab.pure (Jo _ g hg0 (by omega) (by omega)) ?_
 simp(maxSteps:=1000000)(disch:=(try simp only[awL]);omega)only[↓awU,awY,↓reduceIte,↓reduceDIte,↓Qe,Qu,Qv,Qw,Qx,Qy,Qz,QA,QB,QC,QD,QE,QF,QG,QH,QI,QK]
 refine Ab.pure (Jo _ g hg0 (by omega) (by omega)) ?_
 simp(maxSteps:=1000000)(disch:=(try simp only[awL]);omega)only[↓awU,awY,↓reduceIte,↓reduceDIte,↓Qe,Qu,Qv,Qw,Qx,Qy,Qz,QA,QB,QC,QD,QE,QF,QG,QH,QI,QK]
 refine Ab.pure (B0 _ _ (by omega)) ?_
 simp(maxSteps:=1000000)(disch:=(try simp only[awL]);omega)only[↓awU,awY,↓reduceIte,↓reduceDIte,↓Qe,Qu,Qv,Qw,Qx,Qy,Qz,QA,QB,QC,QD,QE,QF,QG,QH,QI,QK]
 refine Ab.pure (B0 false _ (by omega)) ?_
 simp only[Frac]
 rw[e1,e2]
 simp(maxSteps:=1000000)(disch:=(try simp only[awL]);omega)only[↓awU,awY,↓reduceIte,↓reduceDIte,↓Qe,Qu,Qv,Qw,Qx,Qy,Qz,QA,QB,QC,QD,QE,QF,QG,QH,QI,QK]
def FV (x:Rat):Prop:=sz x.num≤256∧(toW x.den).length≤256
instance (x:Rat):Decidable (FV x):=inferInstanceAs (Decidable (_∧_))
def HG (G:Ad):Prop:=G 2=some [W [1]]
theorem Kz:toW 1=[1]:=by rw[EI (by decide),show 1 / B=0 from rfl,Bq];rfl
abbrev Zf:D:=.agg [.bool false,.sl 0 false [],.bool false,.sl 0 false []]
end Go.Proofs.YtmidaophnbdcdaaGreatDoor.Num
namespace Go.Proofs.YtmidaophnbdcdaaGreatDoor
open Go Go.Proofs Go.Abs Go.RowKit Go.ChangeShapes Go.WideShapes Go.ChangeAt Go.Shelf Go.Joins Go.Deep
theorem gOne:Tryz.prog.globalNamed "tablefinder/fraction.one" = some 2:=by kernel_rfl
theorem tOne:(Tryz.prog.globals[2]?).map (·.type)=some 205:=by kernel_rfl
theorem cU32:Tryz.prog.cellsOf 187=1:=by kernel_rfl
def G2 (b:Bool):Ad:=fun g=>if g=2 then some [Num.W [1]] else G1 b g
theorem hT2 {b:Bool}:HT (G2 b):=⟨rfl,rfl⟩
theorem hP2 {b:Bool}:HP (G2 b):=rfl
theorem hI2 {b:Bool}:HI (G2 b):=AdS hP2
theorem hG2 {b:Bool}:Num.HG (G2 b):=by simp[Num.HG,G2]
theorem Zm {X:World} {b:Bool} (h0:Pd (G1 b) X) (h:Lib.VarReads TP X "tablefinder/fraction.one" Rows.laid_tablefinder_fraction_one):Pd (G2 b) X:=by
 obtain ⟨g,t,cs,fuel,p,hg,ht,hv,hd⟩:=h
 obtain rfl:=Option.some.inj (gOne.symm.trans hg)
 obtain rfl:=Option.some.inj (tOne.symm.trans ht)
 rcases open_ints Tryz.underlying205 Tryz.underlying187 cU32 hd with ⟨_,hx⟩ | ⟨a,len,cap,zs,hcs,_,hl,hm,hz,hx,hcell,_⟩
 ·simp[Rows.laid_tablefinder_fraction_one] at hx
 ·have hz:zs.length=cap:=by simpa using hz
  simp only[Rows.laid_tablefinder_fraction_one,Prod.mk.injEq,DataW.slice.injEq] at hx
  obtain ⟨⟨h1,h2⟩,_⟩:=hx
  have e1:(zs.take len).length=1:=by
   have:=congrArg List.length h1;simpa[lits] using this.symm
  have e2:(zs.drop len).length=0:=by
   have:=congrArg List.length h2;simpa[lits] using this.symm
  have e3:len=1∧cap=1:=by simp at e1 e2;omega
  obtain ⟨rfl,rfl⟩:=e3
  obtain ⟨z,rfl⟩:∃ z,zs=[z]:=by
   match zs,hz with
   | [z],_=>exact ⟨z,rfl⟩
  have ez:z=1:=by
   have:=h1;simp[lits] at this;exact this.symm
  subst ez
  have hz0:=World.var?_cell hg hv 0
  have e4:cs[0]?=some (.slice (some a) 1 1):=by
   have:cs=#[.slice (some a) 1 1]:=by rw[←Array.toArray_toList (xs:=cs),hcs]
   rw[this];rfl
  rw[e4] at hz0
  rcases Ug (W:=X) (k:=.u32) hl (by simp) hcell with hr | hr
  ·intro g ds hgd
   simp only[G2] at hgd
   split at hgd
   ·rename_i hgg
    subst hgg
    cases hgd
    refine ⟨fun _=>.slice (some a) 1 1,fun i x hx=>?_,fun i x hx=>?_⟩
    ·rcases i with _ | i
     ·exact hz0
     ·simp at hx
    ·rcases i with _ | i
     ·simp at hx;subst hx;exact hr
     ·simp at hx
   ·exact h0 g ds hgd
  ·cases hr
end Go.Proofs.YtmidaophnbdcdaaGreatDoor
