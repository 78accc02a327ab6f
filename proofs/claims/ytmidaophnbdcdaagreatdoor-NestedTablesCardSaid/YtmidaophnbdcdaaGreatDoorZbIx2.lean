/-
  Contracts of the functions, one after another.
-/
import Derived.Test.YtmidaophnbdcdaaGreatDoorZbIx1
import Derived.Shelf.SortM.Plain
import Derived.Shelf.SortM.SortNone
import Derived.Ground.SlgmProg
set_option linter.all false
open Go.Abs renaming Bm->HW,DN->BW,CK->SW,Aw->AW,B5->sA,Ap->kZ
open Go.Proofs.Tryz renaming prog->TP
set_option maxHeartbeats 16000000
set_option maxRecDepth 100000
open Go.Abs renaming Ed->Qe
open Nat renaming reduceAdd->Qu,reduceSub->Qv,reduceMul->Qw,reducePow->Qx,reduceDiv->Qy,reduceMod->Qz,reduceEqDiff->QI,reduceBEq->QK
open Int renaming reduceAdd->QA,reduceSub->QB,reduceMul->QC,reducePow->QD,reduceNeg->QE,reduceToNat->QF,reduceLT->QG,reduceLE->QH
open List renaming getElem?_eq_getElem->AaZ,getD_eq_getElem?_getD->Aa0,mem_cons->Ada,length_append->Adi,length_cons->Adl,pairwise_cons->Adn,length_take->Adp,take_length->Adq,take_add_one->AeK,drop_of_length_le->AeL,drop_eq_nil_of_le->AeQ,map_cons->AeR,map_nil->AeT,mem_of_mem_take->Ae6,mem_cons_of_mem->Ae7,length_nil->Ae8,getElem_modify->Afd,range->Afh,drop_eq_getElem_cons->Afi,flatMap_cons->Afk,length_erase_of_mem->Afl,cons_append->Afm,take_of_length_le->Afn,length_pos_of_mem->Afo,length_set->Afq,length_map->Afr,nodup_cons->Afs,length_mergeSort->Aft,mem_erase_of_ne->Afw,any_cons->Afx,append_assoc->AfB,getElem?_map->AfC,take_append->AfG,drop_append->AfH,nil_append->AfK,mem_append->AfL,append_nil->AfM,replicate->AfO
open Nat renaming lt_of_lt_of_le->Ac7,lt_or_ge->Adf,reduceMod->Adj,reduceDiv->Adk,le_refl->Adm,zero_le->Aet,add_assoc->AeU,not_lt_zero->Afc,le_trans->Afe,pow_le_pow_right->Afv,le_succ_of_le->AfD,ne_of_gt->AfE,zero_add->AfR
open Bool renaming false_and->Ado,true_and->AeI,not_false->Afg,and_false->AfN,and_true->AfP,not_true->AfQ
open Int renaming natAbs_natCast->AeJ,emod_lt_of_pos->Aff,emod_nonneg->Afp,lt_tmod_of_pos->Afy,tmod_lt_of_pos->Afz,tmod_eq_emod->AfF,le_refl->AfJ
open Array renaming getElem?_eq_getElem->Afj,getElem?_modify->Afu
open Or renaming inr->AfA
open Option renaming getD_some->AfI
namespace Go.Proofs.YtmidaophnbdcdaaGreatDoor
namespace Num
open Go Go.Proofs Go.Abs
variable {G:Ah}
def WV {l:List UInt8} (h:∀ b∈l,isD b) {i:Nat} (hi:i<l.length):48<=(l.getD i 0).toNat/\(l.getD i 0).toNat<=57:=h _ (mem_getDU hi)
def rdecimal_spec (s:List UInt8) (hs:s.length<=9223372036854775807):Ctr TP G 78 [.d (S s)] [] (.d (.tup [if decOk s=true then Frac (decVal s) else Zf,.bool (decOk s)])) []:=by
 refine Ctr.pure (M:=M0) Am Tryz.func78 rfl go78 ?_;simp only[Tryz.f78,↓Aa,Ac,↓reduceIte,Qv];refine Ad.pure (rparts_spec s hs) ?_;have hok:decOk s=okB (decBody s):=rfl;have f1:cutL 46 (decBody s)=decF s:=rfl;have f2:cutR 46 (decBody s)=decB s:=rfl;have hdv:decVal s=Rat.divInt (if FM s then -(Ar (decF s++decB s):Int) else (Ar (decF s++decB s):Int)) ((10^(decB s).length:Nat):Int):=rfl;unfold Bz;rw[f1,f2,<-hok];cases ho:decOk s
 ·simp(disch:=(try simp only[Ab]);omega)only[↓Aa,Ac,↓reduceIte,↓Qe,Qu];first | done | rfl
 obtain ⟨hall,hlen,hlb⟩:=E2 ho;have hsm:∀ i,i<=(decF s++decB s).length->(toW (Ar ((decF s++decB s).take i))).length<=30:=fun i hi=>by have h:=Db (l:=(decF s++decB s).take i) fun b hb=>hall b (Ae6 hb);exact BI (Ac7 h (Afv (by decide) (by rw[Adp];omega)))
 have hlt:∀ i,i<=(decF s++decB s).length->Ar ((decF s++decB s).take i)*10<10^30:=fun i hi=>by have h:=Db (l:=(decF s++decB s).take i) fun b hb=>hall b (Ae6 hb);have h2:10^((decF s++decB s).take i).length<=10^29:=Afv (by decide) (by rw[Adp];omega);have h3:(10:Nat)^30=10^29*10:=rfl;omega
 have hpl:∀ b∈decB s,isD b:=fun b hb=>M4.1 (hall b (List.mem_append_right _ hb));have hfl:(decF s).length<=24:=by rw[Adi] at hlen;omega
 have hall':∀ b∈decF s++decB s,isD b:=fun b hb=>M4.1 (hall b hb);generalize FM s=neg at *;generalize hL:decF s++decB s=L at *;generalize decB s=Bk at *;simp(disch:=(try simp only[Ab]);omega)only[↓Aa,Ac,↓reduceIte,Qu];first
 | refine Ad.of (Cb 1 (by decide) (by decide)) (by rfl) ?_
 | refine ⟨by rfl,Ad.of (Cb 1 (by decide) (by decide)) (by rfl) ?_⟩
 simp(disch:=(try simp only[Ab]);omega)only[Af,hL,SP,cells_nums,↓Aa,Ac,↓reduceIte,Qu];refine Ak.fr 402654036 (α:=Nat) (fun i=>L.length-i) (fun i=>[(29,.d (.int .i64 i))])
  (fun i=>[.box [.d (.bool false),.d (.sl 0 true []),.d (.bool false),.d (.sl 0 true [])],.box [.d (.bool false),.d (W (toW (Ar (L.take i))))],.box [.d (.bool false),.d (W (toW 1))],.row false (AF .u8 (BO L))]) (fun i=>i<=L.length) 0 (Aet _) ?_ ?_
 ·exact ⟨[some 0,some 1,some 2,some 3],rfl,by simp,by simp[sA,kZ,SW,AW],by simp[HW,BW,SW,AW,Ar,Bb,A1]⟩
 intro i hi;have lt:=hsm i hi;have nl:=@BX L;simp only[Bi,Adj,Adk];rcases Adf i L.length with h1 | h1
 ·obtain ⟨hb1,hb2⟩:=WV hall' h1;have hp:=E3 h1;have ls:=BI (n:=(L.getD i 0).toNat-48) (k:=2) (by omega);have e48:((L.getD i 0).toNat:Int)-48=(((L.getD i 0).toNat-48:Nat):Int):=by omega
  have lm:(toW (Ar (L.take i)*10)).length<=40:=BI (Ac7 (hlt i hi) (by decide));have sz1:sz (Ar (L.take i):Int)<=30:=by simp only[sz,AeJ];exact lt
  have sz2:sz ((Ar (L.take i):Int)*10)<=40:=by rw[show ((Ar (L.take i):Int)*10)=((Ar (L.take i)*10:Nat):Int) by omega];simp only[sz,AeJ];exact lm
  have sz3:sz ((((L.getD i 0).toNat-48:Nat):Int))<=2:=by simp only[sz,AeJ];exact ls
  have sz4:sz (10:Int)<=2:=Y7 (by decide) (by decide);have hsum:(Ar (L.take i):Int)*10+(((L.getD i 0).toNat-48:Nat):Int)=(Ar (L.take (i+1)):Int):=by rw[<-hp];omega
  simp(disch:=(try simp only[Ab]);omega)only[Af,nl,↓Aa,Ac,↓reduceIte,Qu];first
  | refine Ad.of (Cb 10 (by decide) (by decide)) (by rfl) ?_
  | refine ⟨by rfl,Ad.of (Cb 10 (by decide) (by decide)) (by rfl) ?_⟩
  simp(disch:=(try simp only[Ab]);omega)only[↓Aa,Ac,↓reduceIte,Qu];first
  | refine Ad.of (F4 (Ar (L.take i):Int) 10 (by omega) (by omega)) (by (try simp only[DR]);try rfl) ?_
  | refine ⟨by rfl,Ad.of (F4 (Ar (L.take i):Int) 10 (by omega) (by omega)) (by (try simp only[DR]);try rfl) ?_⟩
  simp(disch:=(try simp only[Ab]);omega)only[e48,↓Aa,Ac,↓reduceIte,Qu];first
  | refine Ad.of (Cb (((L.getD i 0).toNat-48:Nat):Int) (by omega) (by omega)) (by rfl) ?_
  | refine ⟨by rfl,Ad.of (Cb (((L.getD i 0).toNat-48:Nat):Int) (by omega) (by omega)) (by rfl) ?_⟩
  simp(disch:=(try simp only[Ab]);omega)only[↓Aa,Ac,↓reduceIte,Qu];first
  | refine Ad.of (NC ((Ar (L.take i):Int)*10) (((L.getD i 0).toNat-48:Nat):Int) (by omega) (by omega)) (by rfl) ?_
  | refine ⟨by rfl,Ad.of (NC ((Ar (L.take i):Int)*10) (((L.getD i 0).toNat-48:Nat):Int) (by omega) (by omega)) (by rfl) ?_⟩
  rw[hsum,DR];simp(disch:=(try simp only[Ab]);omega)only[↓Aa,Ac,↓reduceIte,Qu];exact ⟨by rfl,i+1,h1,by simp only;omega,⟨[some 0,some 1,some 2,some 3],rfl,by simp,by simp[SW,AW],by simp[HW,BW,SW,AW]⟩⟩
 obtain rfl:i=L.length:=by omega
 rw[Adq] at *;simp(disch:=(try simp only[Ab]);omega)only[↓Aa,Ac,↓reduceIte,Qu];refine Ak.fr 8796093022996 (α:=Nat) (fun j=>Bk.length-j) (fun j=>[])
  (fun j=>[.box [.d (.bool false),.d (.sl 0 true []),.d (.bool false),.d (.sl 0 true [])],.box [.d (.bool false),.d (W (toW (Ar L)))],.box [.d (.bool false),.d (W (toW (10^j)))],.row false (AF .u8 (BO L)),.iter (bs Bk) j]) (fun j=>j<=Bk.length) 0 (Aet _) ?_ ?_
 ·exact ⟨[some 0,some 1,some 2,some 3,some 4],rfl,by simp,by simp[sA,kZ,SW,AW],by simp[HW,BW,SW,AW]⟩
 intro j hj;have lj:(toW (10^j)).length<=10:=BI (Nat.pow_lt_pow_right (by decide) (by omega));have szj:sz ((10^j:Nat):Int)<=10:=by simp only[sz,AeJ];exact lj
 have sz4:sz (10:Int)<=2:=Y7 (by decide) (by decide);simp only[Bi,Adj,Adk];rcases Adf j Bk.length with h2 | h2
 ·obtain ⟨hb1,hb2⟩:=WV hpl h2;have hdec:=dec_ascii h2 (by omega);have hmul:((10^j:Nat):Int)*10=((10^(j+1):Nat):Int):=by rw[Nat.pow_succ];omega
  simp(disch:=(try simp only[Ab]);omega)only[Af,hdec,↓Aa,Ac,↓reduceIte,Qu];first
  | refine Ad.of (Cb 10 (by decide) (by decide)) (by rfl) ?_
  | refine ⟨by rfl,Ad.of (Cb 10 (by decide) (by decide)) (by rfl) ?_⟩
  simp(disch:=(try simp only[Ab]);omega)only[↓Aa,Ac,↓reduceIte,Qu];first
  | refine Ad.of (F4 ((10^j:Nat):Int) 10 (by omega) (by omega)) (by (try simp only[DR]);try rfl) ?_
  | refine ⟨by rfl,Ad.of (F4 ((10^j:Nat):Int) 10 (by omega) (by omega)) (by (try simp only[DR]);try rfl) ?_⟩
  rw[hmul,DR];simp(disch:=(try simp only[Ab]);omega)only[↓Aa,Ac,↓reduceIte,Qu];exact ⟨by rfl,j+1,h2,by simp only;omega,⟨[some 0,some 1,some 2,some 3,some 4],rfl,by simp,by simp[SW,AW],by simp[HW,BW,SW,AW]⟩⟩
 obtain rfl:j=Bk.length:=by omega
 have hd0:((10^Bk.length:Nat):Int)≠0:=by have:0<10^Bk.length:=Nat.pow_pos (by decide);omega
 have szv:sz (Ar L:Int)<=30:=by simp only[sz,AeJ];exact lt
 have szm:sz (-(Ar L:Int))<=30:=by simp only[sz,Int.natAbs_neg,AeJ];exact lt
 cases neg
 ·rw[if_neg Bool.false_ne_true] at hdv;simp(disch:=(try simp only[Ab]);omega)only[Af,↓Aa,Ac,↓reduceIte,Qu];first
  | refine Ad.of (Fl (Ar L:Int) ((10^Bk.length:Nat):Int) hd0 (by omega) (by omega)) (by (try simp only[DR]);try rfl) ?_
  | refine ⟨by rfl,Ad.of (Fl (Ar L:Int) ((10^Bk.length:Nat):Int) hd0 (by omega) (by omega)) (by (try simp only[DR]);try rfl) ?_⟩
  rw[<-hdv];simp(disch:=(try simp only[Ab]);omega)only[↓Aa,Ac,↓reduceIte,↓Qe,Qu];first | done | rfl
 rw[if_pos rfl] at hdv;simp(disch:=(try simp only[Ab]);omega)only[Af,↓Aa,Ac,↓reduceIte,Qu];first
 | refine Ad.of (L4 (Ar L:Int) (by omega)) (by (try simp only[DR]);try rfl) ?_
 | refine ⟨by rfl,Ad.of (L4 (Ar L:Int) (by omega)) (by (try simp only[DR]);try rfl) ?_⟩
 simp(disch:=(try simp only[Ab]);omega)only[↓Aa,Ac,↓reduceIte,Qu];first
 | refine Ad.of (Fl (-(Ar L:Int)) ((10^Bk.length:Nat):Int) hd0 (by omega) (by omega)) (by (try simp only[DR]);try rfl) ?_
 | refine ⟨by rfl,Ad.of (Fl (-(Ar L:Int)) ((10^Bk.length:Nat):Int) hd0 (by omega) (by omega)) (by (try simp only[DR]);try rfl) ?_⟩
 rw[<-hdv];simp(disch:=(try simp only[Ab]);omega)only[↓Aa,Ac,↓reduceIte,↓Qe,Qu];first | done | rfl
end Num
section
open Go Go.Proofs Go.Abs
variable {G:Ah}
end
section
open Go Go.Proofs Go.Abs
end
section
open Go Go.Proofs Go.Abs
variable {G:Ah}
end
section
open Go Go.Proofs Go.Abs
end
section
open Go Go.Proofs Go.Abs
variable {G:Ah}
def mmod_spec (n m:Int) (hn1:-9223372036854775808<=n) (hn2:n<=9223372036854775807) (h0:0<m) (h1:m<4611686018427387904) :
  Ctr TP G 12 [.d (.int .i64 n),.d (.int .i64 m)] [] (.d (.int .i64 (n % m))) []:=by
 have e:=AfF (a:=n) (b:=m);have p1:=Afp n (show m≠0 by omega);have p2:=Aff n h0;have c0:-m<n.tmod m/\n.tmod m<m:=⟨Afy n h0,Afz n h0⟩;have hh:(n.tmod m<0->n.tmod m+m=n % m)/\(¬n.tmod m<0->n.tmod m=n % m):=by
  rw[e];split;·exact ⟨fun h=>by omega,fun _=>by omega⟩
  exact ⟨fun h=>by omega,fun h=>by omega⟩
 clear e;refine Ctr.pure (M:=M0) Am Tryz.func12 rfl go12 ?_;simp(disch:=(try simp only[Ab]);omega)only[Tryz.f12,↓Aa,Ac,↓Qe,Qu,Qv]
def cmpI (x y:Int):Int:=if x<y then -1 else if y<x then 1 else 0
def Of (x:Int):Ctr TP G 246 [.d (.int .i64 x)] [] (.d (.bool false)) []:=by refine Ctr.pure (M:=M0) Am Tryz.func246 rfl Aca ?_;simp only[Tryz.f246,↓Aa,Ac,↓Qe,Qv];try rfl
def compare_spec (x y:Int):Ctr TP G 221 [.d (.int .i64 x),.d (.int .i64 y)] [] (.d (.int .i64 (cmpI x y))) []:=by
 refine Ctr.pure (M:=M0) Am Tryz.func221 rfl Acb ?_;obtain ⟨r,hr⟩:∃ r,r=cmpI x y:=⟨_,rfl⟩;rw[<-hr];unfold cmpI at hr;simp only[Tryz.f221,↓Aa,Ac,↓reduceIte,Qu,Qv,QE];refine Ad.pure (Of x) ?_;simp only[↓Aa,Ac,↓reduceIte,QE];refine Ad.pure (Of y) ?_;rcases (by omega:x<y\/y<x\/(¬x<y/\¬y<x)) with h | h | ⟨h1,h2⟩
 ·rw[if_pos h] at hr;simp(disch:=(try simp only[Ab]);omega)only[↓Aa,Ac,↓Qe,QE];all_goals rw[hr]
 ·rw[if_neg (by omega),if_pos h] at hr;simp(disch:=(try simp only[Ab]);omega)only[↓Aa,Ac,↓Qe,QE];all_goals rw[hr]
 rw[if_neg h1,if_neg h2] at hr;simp(disch:=(try simp only[Ab]);omega)only[↓Aa,Ac,↓Qe,QE];all_goals rw[hr]
structure Opt where
 txt:List UInt8
 fr:Nat
 ag:Nat
 wd:Nat
def cols (c:List Opt):List (D × D):=c.map fun o=>(S o.txt,.int .i64 o.wd)
def AcS {a b:List UInt8}:(bs a == bs b)=decide (a=b):=by
 have e:(bs a == bs b)=(a.toArray == b.toArray):=rfl;rw[e];by_cases h:a=b;·subst h;simp
 rw[decide_eq_false h];exact beq_eq_false_iff_ne.2 fun q=>h (by simpa using q)
def hs4:List Nat:=[1,0,2,3]
end
section
open Go Go.Proofs Go.Abs
end
section
open Go Go.Proofs Go.Abs
variable {G:Ah}
def strs_app (a b:Row):strs a++strs b=strs (a++b):=by simp[strs]
def AbI {α:Type} {l:List α} {i:Nat} {d:α} (h:i<l.length):l[i]?=some (l.getD i d):=by rw[Aa0,AaZ h];rfl
abbrev Cel:=List UInt8 × Bool
abbrev GY (c:Cel):List D:=[.bool c.2,S c.1]
def AE (l:List Cel):List D:=l.flatMap GY
abbrev KX (l:List Cel) (full:Bool):D:=.sl l.length full (AE l)
structure Col where
 name:List UInt8
 cells:List Cel
abbrev AaV (c:Col):List D:=[S c.name,KX c.cells false]
def AM (l:List Col):List D:=l.flatMap AaV
abbrev HY (l:List Col) (full:Bool):D:=.sl l.length full (AM l)
structure Tab where
 id:Int
 name:List UInt8
 cols:List Col
abbrev SY (t:Tab) (full:Bool):D:=.agg [.int .i64 t.id,S t.name,HY t.cols full]
def noC:Cel:=([],false)
def Gc:Col:=⟨[],[]⟩
def Az:∀ l:List Cel,(AE l).length=2*l.length
 | []=>rfl
 | o::l=>by have ih:=Az l;simp only[AE,Afk,Adi,Adl,Ae8] at ih ⊢;omega
def AX:∀ l:List Col,(AM l).length=2*l.length
 | []=>rfl
 | o::l=>by have ih:=AX l;simp only[AM,Afk,Adi,Adl,Ae8] at ih ⊢;omega
def Jf:∀ {l:List Cel} {k:Nat},k<l.length->((AE l).drop (k*2)).take 2=GY (l.getD k noC)
 | [],k,h=>absurd h (Afc _)
 | o::l,0,_=>by simp[AE]
 | o::l,k+1,h=>by have ih:=Jf (l:=l) (k:=k) (by simpa using h);have e2:AE (o::l)=.bool o.2::S o.1::AE l:=rfl;rw[show (k+1)*2=k*2+2 by omega,e2];simpa using ih
def Je:∀ {l:List Col} {k:Nat},k<l.length->((AM l).drop (k*2)).take 2=AaV (l.getD k Gc)
 | [],k,h=>absurd h (Afc _)
 | o::l,0,_=>by simp[AM]
 | o::l,k+1,h=>by have ih:=Je (l:=l) (k:=k) (by simpa using h);have e2:AM (o::l)=S o.name::KX o.cells false::AM l:=rfl;rw[show (k+1)*2=k*2+2 by omega,e2];simpa using ih
def CB (a b:List Cel):AE (a++b)=AE a++AE b:=by simp[AE]
def Fy (a b:List Col):AM (a++b)=AM a++AM b:=by simp[AM]
def FJ (s:List UInt8):Bool:=decide (s.length<=1024) && Lib.validD s
def Ee (c:Cel):Bool:=FJ c.1 && !(c.2 && !decide (c.1=[]))
def LB (hT:HT G) (s:List UInt8) (hs:s.length<=1000000000):Ctr TP G 122 [.d (S s)] [] (.d (.bool (FJ s))) []:=by
 refine Ctr.pure (M:=M0) Am Tryz.func122 rfl Aes ?_;unfold FJ;by_cases h:s.length<=1024;·rw[decide_eq_true h,AeI];simp(disch:=(try simp only[Ab]);omega)only[Af,Tryz.f122,↓Aa,Ac,↓reduceIte,Qv];refine Ad.pure (ES hT s (by omega)) ?_;simp only[↓Aa,Ac,↓reduceIte,↓Qe];first | done | rfl
 rw[decide_eq_false h,Ado];simp(disch:=(try simp only[Ab]);omega)only[Af,Tryz.f122,↓Aa,Ac,↓reduceIte,↓Qe,Qv];first | done | rfl
def ND (hT:HT G) (s:List UInt8) (hs:s.length<=1000000000):Ctr TP G 65 [.d (S s)] [] (.d (.bool (FJ s))) []:=by
 refine Ctr.pure (M:=M0) Am Tryz.func65 rfl go65 ?_;unfold FJ;simp only[Tryz.f65,↓Aa,Ac,↓reduceIte,Qv];refine Ad.pure (D9 hT s (by omega)) ?_;cases hv:Lib.validD s;·rw[AfN];simp only[↓Aa,Ac,↓reduceIte,↓Qe];first | done | rfl
 rw[AfP];by_cases h:s.length<=1024;·rw[decide_eq_true h];simp(disch:=(try simp only[Ab]);omega)only[Af,↓Aa,Ac,↓reduceIte,↓Qe];first | done | rfl
 rw[decide_eq_false h];simp(disch:=(try simp only[Ab]);omega)only[Af,↓Aa,Ac,↓reduceIte,↓Qe];first | done | rfl
def Ni (hT:HT G) (c:Cel) (hs:c.1.length<=1000000000):Ctr TP G 127 [.d (.agg (GY c))] [] (.d (.bool (Ee c))) []:=by
 obtain ⟨s,b⟩:=c;refine Ctr.pure (M:=M0) Am Tryz.func127 rfl Aen ?_;unfold Ee;simp only at hs ⊢;simp(disch:=(try simp only[Ab]);omega)only[Tryz.f127,↓Aa,Ac,↓reduceIte,Qu,Qv];refine Ad.pure (LB hT s hs) ?_;cases hv:FJ s;·rw[Ado];simp only[↓Aa,Ac,↓reduceIte,↓Qe];first | done | rfl | exact ⟨by rfl,by rfl⟩
 rw[AeI];cases b;·rw[Ado,Afg];simp(disch:=(try simp only[Ab]);omega)only[↓Aa,Ac,↓reduceIte,↓Qe,Qu];first | done | rfl | exact ⟨by rfl,by rfl⟩
 rw[AeI];by_cases h:s=[];·subst h;simp(disch:=(try simp only[Ab]);omega)only[Af,↓Aa,Ac,↓reduceIte,↓Qe,Qu];first | done | rfl | exact ⟨by rfl,by rfl⟩
 simp(disch:=(try simp only[Ab]);omega)only[Af,h,↓Aa,Ac,↓reduceIte,↓Qe,Qu];first | done | rfl | simp[h] | exact ⟨by rfl,by simp[h]⟩
def Mt (hT:HT G) (c:Cel) (hs:c.1.length<=1000000000):Ctr TP G 66 [.d (.agg (GY c))] [] (.d (.bool (Ee c))) []:=by
 obtain ⟨s,b⟩:=c;refine Ctr.pure (M:=M0) Am Tryz.func66 rfl go66 ?_;unfold Ee FJ;simp only at hs ⊢;simp(disch:=(try simp only[Ab]);omega)only[Tryz.f66,↓Aa,Ac,↓reduceIte,Qu,Qv];refine Ad.pure (D9 hT s (by omega)) ?_;cases hv:Lib.validD s;·rw[AfN,Ado];simp only[↓Aa,Ac,↓reduceIte,↓Qe];first | done | rfl | exact ⟨by rfl,by rfl⟩
 rw[AfP];by_cases hl:s.length<=1024
 ·rw[decide_eq_true hl,AeI];cases b;·rw[Ado,Afg];simp(disch:=(try simp only[Ab]);omega)only[Af,↓Aa,Ac,↓reduceIte,↓Qe,Qu];first | done | rfl | exact ⟨by rfl,by rfl⟩
  rw[AeI];by_cases h:s=[];·subst h;simp(disch:=(try simp only[Ab]);omega)only[Af,Ae8,↓Aa,Ac,↓reduceIte,↓Qe,Qu];first | done | rfl | exact ⟨by rfl,by rfl⟩
  simp(disch:=(try simp only[Ab]);omega)only[Af,h,↓Aa,Ac,↓reduceIte,↓Qe,Qu];first | done | rfl | simp[h] | exact ⟨by rfl,by simp[h]⟩
 rw[decide_eq_false hl,Ado];simp(disch:=(try simp only[Ab]);omega)only[Af,↓Aa,Ac,↓reduceIte,↓Qe,Qu];first | done | rfl | exact ⟨by rfl,by rfl⟩
def DE (t:Tab):Nat:=match t.cols with | []=>0 | c::_=>c.cells.length
def Px (t:Tab) (full:Bool) (hc:t.cols.length<=1000000000) (h2:∀ c∈t.cols,c.cells.length<=1000000000):Ctr TP G 123 [.d (SY t full)] [] (.d (.int .i64 (DE t))) []:=by
 obtain ⟨id,name,cols⟩:=t;simp only at hc h2;refine Ctr.pure (M:=M0) Am Tryz.func123 rfl Aer ?_;rcases cols with _ | ⟨c,r⟩
 ·simp(disch:=(try simp only[Ab]);omega)only[Tryz.f123,Ae8,↓Aa,Ac,↓reduceIte,↓Qe,Qu,Qv];first | done | rfl | exact ⟨by rfl,by rfl⟩
 have cl:=AX (c::r);have e1:(AM (c::r)).getD 1 .nilp=KX c.cells false:=rfl;have hcl:=Az c.cells;have h3:=h2 c (by simp);have ll:(c::r).length=r.length+1:=rfl;simp(disch:=(try simp only[Ab]);omega)only[Tryz.f123,e1,cl,ll,↓Aa,Ac,↓reduceIte,↓Qe,Qu,Qv];first | done | rfl | exact ⟨by rfl,by rfl⟩
def X2 (id:Int) (name:List UInt8):Bool:=decide (0<=id/\id<=1073741824) && FJ name
inductive Nd where
 | mk (kind:Int) (text:List UInt8) (keys:List (List UInt8)) (kids:List Nd)
def Nd.kind:Nd->Int | .mk k _ _ _=>k
def Nd.text:Nd->List UInt8 | .mk _ t _ _=>t
def Nd.keys:Nd->List (List UInt8) | .mk _ _ ks _=>ks
def Nd.kids:Nd->List Nd | .mk _ _ _ l=>l
mutual
def ndC:Nd->List D
 | .mk k t ks kids=>[.int .i64 k,S t,Ss ks false,.sl kids.length false (AA kids)]
def AA:List Nd->List D
 | []=>[]
 | n::r=>ndC n++AA r
end
abbrev NdD (n:Nd):D:=.agg (ndC n)
abbrev NdS (l:List Nd) (full:Bool):D:=.sl l.length full (AA l)
def noN:Nd:=.mk 0 [] [] []
def VA (n:Nd):ndC n=[.int .i64 n.kind,S n.text,Ss n.keys false,NdS n.kids false]:=by cases n;rfl
def EC (n:Nd):(ndC n).length=4:=by cases n;rfl
def GO (n:Nd) (r:List Nd):AA (n::r)=ndC n++AA r:=rfl
def Ay:∀ l:List Nd,(AA l).length=4*l.length
 | []=>rfl
 | o::l=>by have ih:=Ay l;rw[GO,Adi,EC,ih,Adl];omega
def EZ:∀ a b:List Nd,AA (a++b)=AA a++AA b
 | [],b=>rfl
 | o::l,b=>by rw[Afm,GO,EZ,GO,AfB]
def BM:∀ {l:List Nd} {k:Nat},k<l.length->((AA l).drop (k*4)).take 4=ndC (l.getD k noN)
 | [],k,h=>absurd h (Afc _)
 | o::l,0,_=>by have:=EC o;simp[GO,this];try rw[<-this,Adq]
 | o::l,k+1,h=>by have ih:=BM (l:=l) (k:=k) (by simpa using h);have e:=EC o;rw[GO,AfH,e,AeL (by omega),AfK,show (k+1)*4-4=k*4 by omega,ih];simp
def Sl (n:Nd):(ndC n).map unf0=ndC n:=by cases n;rfl
def My (f:FuncId) (p:Nd->Bool) (l:List Nd) (full:Bool) (hl:l.length<=1000000000) (hp:∀ s∈l,Ctr TP G f [.d (NdD s)] [] (.d (.bool (p s))) []) :
  Ctr TP G 54 [.d (NdS l full),.d (.fn (.func f) [] [])] [] (.d (.int .i64 (ixF p l 0))) []:=by
 refine Ctr.pure (M:=M0) Am Tryz.func54 rfl go54 ?_;have sl:=Ay l;simp only[Tryz.f54,↓Aa,Ac,Qu,Qv,QE];refine Ak.fr 131 (α:=Nat) (fun i=>l.length-i) (fun i=>[(8,.d (.int .i64 i))]) (fun _=>[]) (fun i=>i<=l.length/\ixF p l 0=ixF p (l.drop i) i) 0 ⟨Aet _,rfl⟩ ?_ ?_;·exact ⟨[],rfl,by simp,by simp[sA,kZ,SW,AW],by simp[HW]⟩
 rintro i ⟨h1,h2⟩;simp only[Bi,Adj,Adk];rw[h2];rcases Adf i l.length with h | h
 ·have g:=BM h;rw[Od (d:=noN) h];simp(disch:=(try simp only[Ab]);omega)only[sl,g,Sl,↓Aa,Ac,↓reduceIte,QE];refine Ad.pure (hp _ (Cs h)) ?_;cases hx:p (l.getD i noN);·simp(disch:=(try simp only[Ab]);omega)only[↓Aa,Ac,↓reduceIte,QE];exact ⟨i+1,⟨h,rfl⟩,by simp only;omega,⟨[],rfl,by simp,by simp[SW,AW],by simp[HW]⟩⟩
  simp only[↓Aa,Ac,↓reduceIte,↓Qe,QE]
 rw[AeQ h];simp(disch:=(try simp only[Ab]);omega)only[↓Aa,Ac,↓Qe,QE];rfl
def FO (f:FuncId) (p:Nd->Bool) (l:List Nd) (full:Bool) (hl:l.length<=1000000000) (hp:∀ s∈l,Ctr TP G f [.d (NdD s)] [] (.d (.bool (p s))) []) :
  Ctr TP G 28 [.d (NdS l full),.d (.fn (.func f) [] [])] [] (.d (.bool (l.any p))) []:=by
 refine Ctr.pure (M:=M0) Am Tryz.func28 rfl go28 ?_;simp only[Tryz.f28,↓Aa,Ac,↓reduceIte,Qu,Qv];refine Ad.of (My f p l false hl hp) (by rfl) ?_;have hi:=I9 (p:=p) l 0 (AfJ _);generalize ixF p l 0=z at *;rcases (by omega:0<=z\/z<0) with h | h
 ·rw[hi.1 h];simp(disch:=(try simp only[Ab]);omega)only[↓Aa,Ac,↓Qe]
 have:l.any p=false:=by cases hx:l.any p with
  | false=>rfl
  | true=>have:=hi.2 hx;omega
 rw[this];simp(disch:=(try simp only[Ab]);omega)only[↓Aa,Ac,↓Qe]
def Ca (n:Nd):Bool:=decide (¬n.kind=6)
def Oe (n:Nd):Ctr TP G 29 [.d (NdD n)] [] (.d (.bool (Ca n))) []:=by refine Ctr.pure (M:=M0) Am Tryz.func29 rfl go29 ?_;obtain ⟨k,t,ks,l⟩:=n;unfold Ca Nd.kind;simp(disch:=(try simp only[Ab]);omega)only[ndC,Tryz.f29,↓Aa,Ac,↓reduceIte,↓Qe,Qu,Qv];first | done | rfl
def AN (n:Nd):Cel:=if n.kind=2\/n.kind=3\/n.kind=4 then (n.text,false) else ([],true)
def M8 {k:Int} {t:List UInt8} {ks:List (List UInt8)} {l:List Nd} (h:k=2\/k=3\/k=4):AN (.mk k t ks l)=(t,false):=if_pos h
def Xe {k:Int} {t:List UInt8} {ks:List (List UInt8)} {l:List Nd} (h:¬(k=2\/k=3\/k=4)):AN (.mk k t ks l)=([],true):=if_neg h
def OC (n:Nd):Ctr TP G 98 [.d (NdD n)] [] (.d (.agg (GY (AN n)))) []:=by
 obtain ⟨r,hr⟩:∃ r,r=AN n:=⟨_,rfl⟩;rw[<-hr];refine Ctr.pure (M:=M0) Am Tryz.func98 rfl go98 ?_;obtain ⟨k,t,ks,l⟩:=n;rcases (by omega:k=2\/(¬k=2/\k=3)\/(¬k=2/\¬k=3/\k=4)\/(¬k=2/\¬k=3/\¬k=4)) with h | h | h | h
 ·subst h;rw[M8 (by omega)] at hr;subst hr;simp(disch:=(try simp only[Ab]);omega)only[ndC,Tryz.f98,↓Aa,Ac,↓reduceIte,↓Qe,Qu,Qv];first | done | rfl | simp
 ·obtain ⟨h1,rfl⟩:=h;rw[M8 (by omega)] at hr;subst hr;simp(disch:=(try simp only[Ab]);omega)only[ndC,Tryz.f98,↓Aa,Ac,↓reduceIte,↓Qe,Qu,Qv];first | done | rfl | simp
 ·obtain ⟨h1,h2,rfl⟩:=h;rw[M8 (by omega)] at hr;subst hr;simp(disch:=(try simp only[Ab]);omega)only[ndC,Tryz.f98,↓Aa,Ac,↓reduceIte,↓Qe,Qu,Qv];first | done | rfl | simp
 obtain ⟨h1,h2,h3⟩:=h;rw[Xe (by omega)] at hr;subst hr;simp(disch:=(try simp only[Ab]);omega)only[ndC,h1,h2,h3,Tryz.f98,↓Aa,Ac,↓reduceIte,↓Qe,Qu,Qv];first | done | rfl | simp
abbrev Elm:=Int × Nd
def EG (e:Elm):List D:=.int .i64 e.1::ndC e.2
def BQ (l:List Elm):List D:=l.flatMap EG
abbrev ElS (l:List Elm) (full:Bool):D:=.sl l.length full (BQ l)
def noE:Elm:=(0,noN)
def Iz (n:Elm):(EG n).length=5:=by simp[EG,EC]
def JP (n:Elm) (r:List Elm):BQ (n::r)=EG n++BQ r:=rfl
def BU:∀ l:List Elm,(BQ l).length=5*l.length
 | []=>rfl
 | o::l=>by have ih:=BU l;rw[JP,Adi,Iz,ih,Adl];omega
def Yn (a b:List Elm):BQ (a++b)=BQ a++BQ b:=by simp[BQ]
def LC:∀ {l:List Elm} {k:Nat},k<l.length->((BQ l).drop (k*5)).take 5=EG (l.getD k noE)
 | [],k,h=>absurd h (Afc _)
 | o::l,0,_=>by have:=Iz o;simp[JP,this];try rw[<-this,Adq]
 | o::l,k+1,h=>by have ih:=LC (l:=l) (k:=k) (by simpa using h);have e:=Iz o;rw[JP,AfH,e,AeL (by omega),AfK,show (k+1)*5-5=k*5 by omega,ih];simp
def Aao (n:Elm):(EG n).map unf0=EG n:=by rw[EG,AeR,Sl];rfl
def Mz (f:FuncId) (p:Elm->Bool) (l:List Elm) (full:Bool) (hl:l.length<=1000000000) (hp:∀ s∈l,Ctr TP G f [.d (.agg (EG s))] [] (.d (.bool (p s))) []) :
  Ctr TP G 96 [.d (ElS l full),.d (.fn (.func f) [] [])] [] (.d (.int .i64 (ixF p l 0))) []:=by
 refine Ctr.pure (M:=M0) Am Tryz.func96 rfl go96 ?_;have sl:=BU l;simp only[Tryz.f96,↓Aa,Ac,Qu,Qv,QE];refine Ak.fr 131 (α:=Nat) (fun i=>l.length-i) (fun i=>[(8,.d (.int .i64 i))]) (fun _=>[]) (fun i=>i<=l.length/\ixF p l 0=ixF p (l.drop i) i) 0 ⟨Aet _,rfl⟩ ?_ ?_;·exact ⟨[],rfl,by simp,by simp[sA,kZ,SW,AW],by simp[HW]⟩
 rintro i ⟨h1,h2⟩;simp only[Bi,Adj,Adk];rw[h2];rcases Adf i l.length with h | h
 ·have g:=LC h;rw[Od (d:=noE) h];simp(disch:=(try simp only[Ab]);omega)only[sl,g,Aao,↓Aa,Ac,↓reduceIte,QE];refine Ad.pure (hp _ (Cs h)) ?_;cases hx:p (l.getD i noE);·simp(disch:=(try simp only[Ab]);omega)only[↓Aa,Ac,↓reduceIte,QE];exact ⟨i+1,⟨h,rfl⟩,by simp only;omega,⟨[],rfl,by simp,by simp[SW,AW],by simp[HW]⟩⟩
  simp only[↓Aa,Ac,↓reduceIte,↓Qe,QE]
 rw[AeQ h];simp(disch:=(try simp only[Ab]);omega)only[↓Aa,Ac,↓Qe,QE];rfl
def JU (f:FuncId) (p:Elm->Bool) (l:List Elm) (full:Bool) (hl:l.length<=1000000000) (hp:∀ s∈l,Ctr TP G f [.d (.agg (EG s))] [] (.d (.bool (p s))) []) :
  Ctr TP G 57 [.d (ElS l full),.d (.fn (.func f) [] [])] [] (.d (.bool (l.any p))) []:=by
 refine Ctr.pure (M:=M0) Am Tryz.func57 rfl go57 ?_;simp only[Tryz.f57,↓Aa,Ac,↓reduceIte,Qu,Qv];refine Ad.of (Mz f p l false hl hp) (by rfl) ?_;have hi:=I9 (p:=p) l 0 (AfJ _);generalize ixF p l 0=z at *;rcases (by omega:0<=z\/z<0) with h | h
 ·rw[hi.1 h];simp(disch:=(try simp only[Ab]);omega)only[↓Aa,Ac,↓Qe]
 have:l.any p=false:=by cases hx:l.any p with
  | false=>rfl
  | true=>have:=hi.2 hx;omega
 rw[this];simp(disch:=(try simp only[Ab]);omega)only[↓Aa,Ac,↓Qe]
def A4 (e:Elm):Bool:=Ca e.2
def Ue (e:Elm):Ctr TP G 58 [.d (.agg (EG e))] [] (.d (.bool (A4 e))) []:=by refine Ctr.pure (M:=M0) Am Tryz.func58 rfl go58 ?_;obtain ⟨a,k,t,ks,l⟩:=e;unfold A4 Ca Nd.kind;simp(disch:=(try simp only[Ab]);omega)only[EG,ndC,Tryz.f58,↓Aa,Ac,↓reduceIte,↓Qe,Qu,Qv];first | done | rfl
end
section
open Go Go.Proofs Go.Abs
variable {G:Ah}
def SC (n:Nat):Bool:=decide (n<32/\n≠9/\n≠10/\n≠13)
def IC (b:UInt8):Bool:=SC b.toNat
def AP (s:List UInt8):Bool:=decide (s.length<=1024) && (Lib.validD s && !s.any IC)
def Fc (l:List UInt8) (p:Nat):Int:=if h:p<l.length then if IC (l.getD p 0)=true then p else Fc l (p+1) else -1
termination_by l.length-p
def Rh {l:List UInt8} {p:Nat} (h:p<l.length) (c:IC (l.getD p 0)=true):Fc l p=p:=by rw[Fc,dif_pos h,if_pos c]
def JS {l:List UInt8} {p:Nat} (h:p<l.length) (c:IC (l.getD p 0)=false):Fc l p=Fc l (p+1):=by rw[Fc,dif_pos h,if_neg (by rw[c];simp)]
def Ri {l:List UInt8} {p:Nat} (h:¬p<l.length):Fc l p=-1:=by rw[Fc,dif_neg h]
def Aas {b:UInt8} (h:128<=b.toNat):IC b=false:=by unfold IC SC;exact decide_eq_false (by omega)
def OA {l:List UInt8} {p:Nat}:∀ w,p+w<=l.length->(∀ i,i<w->128<=(l.getD (p+i) 0).toNat)->Fc l p=Fc l (p+w)
 | 0,_,_=>rfl
 | w+1,h,h2=>by rw[OA w (by omega) (fun i hi=>h2 i (by omega)),JS (by omega) (Aas (h2 w (by omega)))];rfl
def Rj:∀ (n:Nat) (l:List UInt8) (p:Nat),l.length-p=n->decide (0<=Fc l p)=(l.drop p).any IC
 | 0,l,p,hn=>by rw[Ri (by omega),AeQ (by omega)];rfl
 | n+1,l,p,hn=>by
   have hp:p<l.length:=(by omega);have ed:l.drop p=l.getD p 0::l.drop (p+1):=(by rw[Afi hp,Aa0,AaZ hp];rfl);rw[ed,Afx];cases h:IC (l.getD p 0) with
   | true =>rw[Rh hp h,Bool.true_or];exact decide_eq_true (by omega)
   | false=>rw[JS hp h,Rj n l (p+1) (by omega),Bool.false_or]
def Ot (c:Nat) (hc:c<=2147483647):Ctr TP G 142 [.d (.int .i32 c)] [] (.d (.bool (SC c))) []:=by
 obtain ⟨r,hr⟩:∃ r,r=SC c:=⟨_,rfl⟩;rw[<-hr];unfold SC at hr;refine Ctr.pure (M:=M0) Am Tryz.func142 rfl Aec ?_;rcases (by omega:32<=c\/c=9\/c=10\/c=13\/(c<32/\c≠9/\c≠10/\c≠13)) with h | h | h | h | ⟨h1,h2,h3,h4⟩
 ·rw[decide_eq_false (by omega)] at hr;subst hr;simp(disch:=(try simp only[Ab]);omega)only[Tryz.f142,↓Aa,Ac,↓reduceIte,↓Qe,Qv]
 ·subst h;rw[decide_eq_false (by omega)] at hr;subst hr;simp(disch:=(try simp only[Ab]);omega)only[Tryz.f142,↓Aa,Ac,↓reduceIte,↓Qe,Qv]
 ·subst h;rw[decide_eq_false (by omega)] at hr;subst hr;simp(disch:=(try simp only[Ab]);omega)only[Tryz.f142,↓Aa,Ac,↓reduceIte,↓Qe,Qv]
 ·subst h;rw[decide_eq_false (by omega)] at hr;subst hr;simp(disch:=(try simp only[Ab]);omega)only[Tryz.f142,↓Aa,Ac,↓reduceIte,↓Qe,Qv]
 rw[decide_eq_true ⟨h1,h2,h3,h4⟩] at hr;subst hr;simp(disch:=(try simp only[Ab]);omega)only[Tryz.f142,↓Aa,Ac,↓reduceIte,↓Qe,Qv]
def Mx (l:List UInt8) (hl:l.length<=1000000000):Ctr TP G 207 [.d (S l),.d (.fn (.func 142) [] []),.d (.bool true)] [] (.d (.int .i64 (Fc l 0))) []:=by
 refine Ctr.pure (M:=M0) Am Tryz.func207 rfl Adx ?_;simp only[Tryz.f207,↓Aa,Ac,↓reduceIte,Qu,Qv,QE];refine Ak.fr 1030 (α:=Nat) (fun p=>l.length-p) (fun _=>[]) (fun p=>[.iter (bs l) p]) (fun p=>p<=l.length/\Fc l 0=Fc l p) 0 ⟨Aet _,rfl⟩ ?_ ?_;·exact ⟨[some 0],rfl,by simp,by simp[sA,kZ,SW,AW],by simp[HW,BW]⟩
 rintro p ⟨h1,h2⟩;simp only[Bi,Adj,Adk];rw[h2];rcases Adf p l.length with h3 | h3
 ·rcases decw l p h3 with ⟨d1,d2⟩ | ⟨d1,d2,d3,d4⟩
  ·have sp:=Ot (G:=G) (l.getD p 0).toNat (by omega);simp(disch:=(try simp only[Ab]);omega)only[Af,d2,↓Aa,Ac,↓reduceIte,Qu,QE];refine Ad.of sp (by rfl) ?_;cases hc:IC (l.getD p 0);·rw[show SC (l.getD p 0).toNat=false from hc];simp only[↓Aa,Ac,QE];exact ⟨p+1,⟨h3,JS h3 hc⟩,by simp only;omega,⟨[some 0],rfl,by simp,by simp[SW,AW],by simp[HW,BW]⟩⟩
   rw[show SC (l.getD p 0).toNat=true from hc,Rh h3 hc];simp only[↓Aa,Ac,↓Qe,QE]
  have hb:=V3 l p;have sp:=Ot (G:=G) (dec l p).1 hb.2;simp(disch:=(try simp only[Ab]);omega)only[Af,↓Aa,Ac,↓reduceIte,Qu,QE];refine Ad.of sp (by rfl) ?_;rw[show SC (dec l p).1=false from decide_eq_false (by omega)];simp only[↓Aa,Ac,QE];exact ⟨p+(dec l p).2,⟨d3,OA _ d3 d4⟩,by simp only;omega,⟨[some 0],rfl,by simp,by simp[SW,AW],by simp[HW,BW]⟩⟩
 rw[Ri (by omega)];simp(disch:=(try simp only[Ab]);omega)only[Af,↓Aa,Ac,↓Qe,QE]
def JT (l:List UInt8) (hl:l.length<=1000000000):Ctr TP G 141 [.d (S l),.d (.fn (.func 142) [] [])] [] (.d (.bool (l.any IC))) []:=by
 have i1:Ctr TP G 176 [.d (S l),.d (.fn (.func 142) [] [])] [] (.d (.int .i64 (Fc l 0))) []:=by refine Ctr.pure (M:=M0) Am Tryz.func176 rfl AdO ?_;simp only[Tryz.f176,↓Aa,Ac,↓reduceIte,Qu,Qv];refine Ad.pure (Mx l hl) ?_;simp only[↓Aa,Ac,↓Qe]
 have ha:=Rj _ l 0 rfl;rw[List.drop_zero] at ha;refine Ctr.pure (M:=M0) Am Tryz.func141 rfl Aed ?_;simp only[Tryz.f141,↓Aa,Ac,↓reduceIte,Qu,Qv];refine Ad.pure i1 ?_;generalize Fc l 0=z at *;rcases (by omega:0<=z\/z<0) with h | h
 ·rw[decide_eq_true h] at ha;rw[<-ha];simp(disch:=(try simp only[Ab]);omega)only[↓Aa,Ac,↓Qe]
 rw[decide_eq_false (by omega)] at ha;rw[<-ha];simp(disch:=(try simp only[Ab]);omega)only[↓Aa,Ac,↓Qe]
def N3 (hT:HT G) (s:List UInt8) (hs:s.length<=1000000000):Ctr TP G 103 [.d (S s)] [] (.d (.bool (AP s))) []:=by
 obtain ⟨r,hr⟩:∃ r,r=AP s:=⟨_,rfl⟩;rw[<-hr];unfold AP at hr;refine Ctr.pure (M:=M0) Am Tryz.func103 rfl AeG ?_;by_cases h:s.length<=1024
 ·rw[decide_eq_true h,AeI] at hr;simp(disch:=(try simp only[Ab]);omega)only[Af,Tryz.f103,↓Aa,Ac,↓reduceIte,Qv];refine Ad.pure (ES hT s (by omega)) ?_;cases hv:Lib.validD s;·rw[hv,Ado] at hr;subst hr;simp only[↓Aa,Ac,↓reduceIte,↓Qe]
  rw[hv,AeI] at hr;simp only[↓Aa,Ac,↓reduceIte];refine Ad.of (JT s hs) (by rfl) ?_;subst hr;simp only[↓Aa,Ac,↓reduceIte,↓Qe]
 rw[decide_eq_false h,Ado] at hr;subst hr;simp(disch:=(try simp only[Ab]);omega)only[Af,Tryz.f103,↓Aa,Ac,↓reduceIte,↓Qe,Qv]
def VK (hT:HT G) (s:List UInt8) (hs:s.length<=1000000000):Ctr TP G 106 [.d (S s)] [] (.d (.bool (!AP s))) []:=by refine Ctr.pure (M:=M0) Am Tryz.func106 rfl AeD ?_;simp only[Tryz.f106,↓Aa,Ac,↓reduceIte,Qv];refine Ad.pure (N3 hT s hs) ?_;simp only[↓Aa,Ac,↓Qe]
def W6 (a b:List UInt8):CJ (S a) (S b)=decide (a=b):=AcS
def GB {β:Type} (m:List (D × β)) (k:D):Option β:=(B6 k m).map (·.2)
def IJ {β:Type} (m:List (D × β)):Prop:=∀ e∈m,∃ s,e.1=S s
def Xv {β:Type} (k:D) (d:β):List (D × β)->List (D × β)
 | []=>[(k,d)]
 | x::r=>if CJ k x.1=true then (k,d)::r else x::Xv k d r
def U5 {β:Type} (k:D) (d:β):∀ m:List (D × β),Cc m k d=Xv k d m
 | []=>rfl
 | x::r=>by
   have ih:=U5 k d r;unfold Cc at ih ⊢;rw[B6,Xv];by_cases h:CJ k x.1=true;·rw[if_pos h,if_pos h];rfl
   rw[if_neg h,if_neg h];cases hf:B6 k r with
   | none=>rw[hf] at ih;simp only[Option.map_none];rw[<-ih];rfl
   | some y=>rw[hf] at ih;simp only[Option.map_some];rw[<-ih];rfl
def IJ.nil {β:Type}:IJ ([]:List (D × β)):=fun _ h=>by cases h
def IJ.upd {β:Type} {m:List (D × β)} (h:IJ m) (t:List UInt8) (d:β):IJ (Cc m (S t) d):=by
 rw[U5];induction m with
 | nil=>intro e he;exact ⟨t,by simp[Xv] at he;rw[he]⟩
 | cons x r ih =>
  have i2:=ih fun e he=>h e (Ae7 _ he);intro e he;rw[Xv] at he;split at he
  ·rcases Ada.1 he with rfl | he
   ·exact ⟨t,rfl⟩
   exact h e (Ae7 _ he)
  rcases Ada.1 he with rfl | he
  ·exact h _ (by simp)
  exact i2 e he
def IJ.ok {β:Type} {m:List (D × β)} (h:IJ m):Eg TP 9 m=true:=by unfold Eg;refine List.all_eq_true.2 fun e he=>?_;obtain ⟨s,hs⟩:=h e he;rw[hs];unfold isKeyD;rw[ti9];rfl
def J8 {β:Type} (k:D):GB ([]:List (D × β)) k=none:=rfl
def GA {β:Type} (y:D × β) (l:List (D × β)) (s c:List UInt8) (hy:y.1=S c):GB (y::l) (S s)=if s=c then some y.2 else GB l (S s):=by
 unfold GB;rw[B6,hy,W6];by_cases e:s=c;·rw[if_pos e,if_pos (by simpa using e)];rfl
 rw[if_neg e,if_neg (by simpa using e)];cases B6 (S s) l<;>rfl
def J7 {β:Type} {m:List (D × β)} (h:IJ m) (d:β) (s t:List UInt8):GB (Cc m (S t) d) (S s)=if s=t then some d else GB m (S s):=by
 rw[U5];induction m with
 | nil=>exact GA _ _ _ _ rfl
 | cons x r ih =>
  have i2:=ih fun e he=>h e (Ae7 _ he);obtain ⟨c,hc⟩:=h x (by simp);rw[Xv,hc,W6];by_cases e:t=c
  ·rw[if_pos (by simpa using e),GA _ _ _ t rfl,GA _ _ _ c hc,<-e];by_cases e2:s=t;·rw[if_pos e2,if_pos e2]
   rw[if_neg e2,if_neg e2,if_neg e2]
  rw[if_neg (by simpa using e),GA _ _ _ c hc,GA _ _ _ c hc,i2];by_cases e2:s=c;·rw[if_pos e2,if_neg (by rw[e2];exact fun q=>e q.symm),if_pos e2]
  rw[if_neg e2,if_neg e2]
def Ls (z:D) (m:List (D × D)) (k:D):DI z m k false=(GB m k).getD z:=by unfold DI GB;cases B6 k m<;>rfl
def Dl (z:D) (m:List (D × D)) (k:D):DI z m k true=match GB m k with
  | some d=>.tup [d,.bool true]
  | none=>.tup [z,.bool false]:=by
 unfold DI GB;cases B6 k m<;>rfl
def ED (z:D) (m:List (D × AV)) (k:D):Hf z m k false=match GB m k with
  | some v=>v
  | none=>.d z:=by
 unfold Hf GB;cases B6 k m<;>rfl
inductive Pt where
 | c (p:List UInt8) (x:Cel)
 | l (p:List UInt8) (kids:List Nd)
mutual
def Dw:Nd->List UInt8->List Pt
 | .mk _ _ ks kids,front=>Gs kids front ks
def Gs:List Nd->List UInt8->List (List UInt8)->List Pt
 | [],_,_=>[]
 | n::r,front,ks=>(if n.kind=6 then Dw n (front++ks.headD []++[46]) else if n.kind=5 then [.l (front++ks.headD []) n.kids] else [.c (front++ks.headD []) (AN n)])++Gs r front ks.tail
end
def EY (n:Nd) (r:List Nd) (front:List UInt8) (ks:List (List UInt8)):Gs (n::r) front ks =
  (if n.kind=6 then Dw n (front++ks.headD []++[46]) else if n.kind=5 then [.l (front++ks.headD []) n.kids] else [.c (front++ks.headD []) (AN n)])++Gs r front ks.tail:=rfl
structure Ly where
 further:Bool
 above:List Int
 paths:List (List UInt8)
 rows:List (List UInt8->Option Cel)
 lists:List (List UInt8)
 sv:List UInt8->Nat
 it:List UInt8->List Elm
def J1 (r:List UInt8->Option Cel) (p:List UInt8) (x:Cel):List UInt8->Option Cel:=fun q=>if q=p then some ((r p).getD x) else r q
def CO {β:Type} (f:List UInt8->β) (p:List UInt8) (v:β):List UInt8->β:=fun q=>if q=p then v else f q
def Dc {β:Type} (f:List UInt8->β) (p:List UInt8) (v:β):CO f p v p=v:=by simp[CO]
def CN {β:Type} (f:List UInt8->β) {p q:List UInt8} (v:β) (h:¬q=p):CO f p v q=f q:=by simp[CO,h]
def Ly.single (s:Ly) (p:List UInt8) (x:Cel):Ly :=
 {s with paths:=if p∈s.paths then s.paths else s.paths++[p],rows:=s.rows.modify (s.rows.length-1) fun r=>J1 r p x}
def Ly.list (s:Ly) (p:List UInt8) (kids:List Nd):Ly :=
 if s.sv p=s.rows.length then s else
  {s with lists:=if s.sv p=0 then s.lists++[p] else s.lists,sv:=CO s.sv p s.rows.length,it:=CO s.it p (s.it p++kids.map fun k=>((s.rows.length:Int)-1,k))}
def Ly.part (s:Ly):Pt->Ly
 | .c p x=>s.single p x
 | .l p kids=>s.list p kids
def Ly.parts (s:Ly) (l:List Pt):Ly:=l.foldl Ly.part s
def Ly.parts_app (s:Ly) (a b:List Pt):s.parts (a++b)=(s.parts a).parts b:=by simp[Ly.parts]
def Ly.parts_one (s:Ly) (a:Pt):s.parts [a]=s.part a:=rfl
def ly0 (further:Bool):Ly:=⟨further,[],[],[],[],fun _=>0,fun _=>[]⟩
def Ly.row (s:Ly) (above:Int):Ly:={s with above:=s.above++[above],rows:=s.rows++[fun _=>none]}
def CY:List UInt8:=[118,97,108,117,101]
def Ly.elm (recs:Bool) (s:Ly) (e:Elm):Ly:=(s.row e.1).parts (if recs=true then Dw e.2 [] else [.c CY (AN e.2)])
def Av (further:Bool) (l:List Elm):Ly:=l.foldl (Ly.elm (!l.any A4)) (ly0 further)
def Ly.single_rows (s:Ly) (p:List UInt8) (x:Cel):(s.single p x).rows.length=s.rows.length:=by simp[Ly.single]
def Ly.list_rows (s:Ly) (p:List UInt8) (k:List Nd):(s.list p k).rows=s.rows:=by unfold Ly.list;split<;>rfl
def Ly.part_rows (s:Ly) (q:Pt):(s.part q).rows.length=s.rows.length:=by
 cases q with
 | c p x=>exact s.single_rows p x
 | l p k=>exact congrArg _ (s.list_rows p k)
def Ly.parts_rows (s:Ly):∀ l:List Pt,(s.parts l).rows.length=s.rows.length
 | []=>rfl
 | q::r=>(Ly.parts_rows (s.part q) r).trans (s.part_rows q)
inductive Rl where
 | n (k:Nat)
 | i (p:List UInt8)
def BN (s:Ly):Rl->Prop
 | .n k=>k<8+s.rows.length
 | .i p=>¬s.it p=[]
def Kq (L:Rl->Nat) (n:Nat):Ae:=if n=0 then .row false [] else .box ((Afh n).map fun i=>.mp (L (.n (8+i))))
structure B1 (L:Rl->Nat) (s:Ly) (H:List Ae):Prop where
 inj:∀ a b,BN s a->BN s b->L a=L b->a=b
 lt:∀ a,BN s a->L a<H.length
 box:H[L (.n 0)]?=some (.box [.d (.bool s.further),.lsl (L (.n 2)) 1 0 s.above.length,.lsl (L (.n 3)) 1 0 s.paths.length,.lsl (L (.n 4)) 1 0 s.rows.length,.lsl (L (.n 5)) 1 0 s.lists.length,.mp (L (.n 6)),.mp (L (.n 7))])
 seen:∃ m:List (D × D),H[L (.n 1)]?=some (.map m)/\IJ m/\∀ p,GB m (S p)=if p∈s.paths then some (.bool true) else none
 above:H[L (.n 2)]?=some (.row false (AF .i64 s.above))
 paths:H[L (.n 3)]?=some (.row false (strs s.paths))
 rows:H[L (.n 4)]?=some (Kq L s.rows.length)
 lists:H[L (.n 5)]?=some (.row false (strs s.lists))
 items:∃ m:List (D × AV),H[L (.n 6)]?=some (.amap m)/\IJ m/\∀ p,GB m (S p)=if s.it p=[] then none else some (.lsl (L (.i p)) 5 0 (s.it p).length)
 sev:∃ m:List (D × D),H[L (.n 7)]?=some (.map m)/\IJ m/\∀ p,GB m (S p)=if s.sv p=0 then none else some (.int .i64 (s.sv p:Nat))
 row:∀ i,(h:i<s.rows.length)->∃ m:List (D × D),H[L (.n (8+i))]?=some (.map m)/\IJ m/\∀ p,GB m (S p)=(s.rows[i] p).map fun c=>.agg (GY c)
 item:∀ p,¬s.it p=[]->H[L (.i p)]?=some (.row false (BQ (s.it p)))
def B1.ne {L:Rl->Nat} {s:Ly} {H:List Ae} (h:B1 L s H) {a b:Rl} (ha:BN s a) (hb:BN s b) (hab:a≠b):¬L a=L b:=fun e=>hab (h.inj a b ha hb e)
end
section
open Go Go.Proofs Go.Abs
variable {G:Ah}
def BJ (L:Rl->Nat) (k N:Nat):Rl->Nat
 | .n j=>if j=k then N else L (.n j)
 | .i p=>L (.i p)
def DD (L:Rl->Nat) (k N:Nat):BJ L k N (.n k)=N:=by simp[BJ]
def Bd (L:Rl->Nat) {k j:Nat} (N:Nat) (h:¬j=k):BJ L k N (.n j)=L (.n j):=by simp[BJ,h]
def WI (L:Rl->Nat) (k N:Nat) (p:List UInt8):BJ L k N (.i p)=L (.i p):=rfl
def Pq {L:Rl->Nat} {s s':Ly} {H:List Ae} (h:B1 L s H) {k N:Nat} (hN:H.length<=N) (hok:∀ a,BN s' a->a≠.n k->BN s a):∀ a b,BN s' a->BN s' b->BJ L k N a=BJ L k N b->a=b:=by
 have key:∀ a,BN s' a->(a=.n k/\BJ L k N a=N)\/(a≠.n k/\BN s a/\BJ L k N a=L a/\L a<N):=by
  intro a ha;by_cases e:a=.n k;·exact .inl ⟨e,by rw[e,DD]⟩
  have:=hok a ha e;have hl:=h.lt a this;refine .inr ⟨e,this,?_,by omega⟩;cases a with
  | n j=>exact Bd L N fun q=>e (by rw[q])
  | i p=>rfl
 intro a b ha hb e;rcases key a ha with ⟨a1,a2⟩ | ⟨a1,a2,a3,a4⟩<;>rcases key b hb with ⟨b1,b2⟩ | ⟨b1,b2,b3,b4⟩
 ·rw[a1,b1]
 ·omega
 ·omega
 exact h.inj a b a2 b2 (by rw[<-a3,<-b3];exact e)
def B1.put {L:Rl->Nat} {s:Ly} {H K:List Ae} (h:B1 L s H) (hl:H.length<=K.length) (hk:∀ a,BN s a->K[L a]?=H[L a]?):B1 L s K:=by
 have ok:∀ k,k<8+s.rows.length->BN s (.n k):=fun k hk=>hk;refine ⟨h.inj,fun a ha=>Ac7 (h.lt a ha) hl,?_,?_,?_,?_,?_,?_,?_,?_,?_,?_⟩;·rw[hk _ (ok 0 (by omega))];exact h.box
 ·rw[hk _ (ok 1 (by omega))];exact h.seen
 ·rw[hk _ (ok 2 (by omega))];exact h.above
 ·rw[hk _ (ok 3 (by omega))];exact h.paths
 ·rw[hk _ (ok 4 (by omega))];exact h.rows
 ·rw[hk _ (ok 5 (by omega))];exact h.lists
 ·rw[hk _ (ok 6 (by omega))];exact h.items
 ·rw[hk _ (ok 7 (by omega))];exact h.sev
 ·intro i hi;rw[hk _ (ok (8+i) (by omega))];exact h.row i hi
 intro p hp;rw[hk (.i p) hp];exact h.item p hp
def B1.app {L:Rl->Nat} {s:Ly} {H:List Ae} (h:B1 L s H) (E:List Ae):B1 L s (H++E) :=
 h.put (by simp) fun a ha=>AJ (h.lt a ha)
def B1.path {L:Rl->Nat} {s:Ly} {H K:List Ae} (h:B1 L s H) {N:Nat} {p:List UInt8} (hp:¬p∈s.paths) (hN:H.length<=N) (hK:N<K.length) (hl:H.length<=K.length)
  (k0:K[L (.n 0)]?=some (.box [.d (.bool s.further),.lsl (L (.n 2)) 1 0 s.above.length,.lsl N 1 0 (s.paths.length+1),.lsl (L (.n 4)) 1 0 s.rows.length,.lsl (L (.n 5)) 1 0 s.lists.length,.mp (L (.n 6)),.mp (L (.n 7))]))
  (k1:∃ m:List (D × D),H[L (.n 1)]?=some (.map m)/\K[L (.n 1)]?=some (.map (Cc m (S p) (.bool true)))) (k3:K[N]?=some (.row false (strs (s.paths++[p]))))
  (kr:∀ a,BN s a->a≠.n 0->a≠.n 1->a≠.n 3->K[L a]?=H[L a]?):B1 (BJ L 3 N) {s with paths:=s.paths++[p]} K:=by
 have ok:∀ k,k<8+s.rows.length->BN s (.n k):=fun k hk=>hk;have ne:∀ {k j:Nat},k≠j->Rl.n k≠Rl.n j:=fun h e=>h (by cases e;rfl);have get:∀ k,k<8+s.rows.length->k≠0->k≠1->k≠3->K[BJ L 3 N (.n k)]?=H[L (.n k)]?:=fun k hk h0 h1 h3=>by rw[Bd L N h3];exact kr _ (ok k hk) (ne h0) (ne h1) (ne h3)
 have s3:=DD L 3 N;have sk:∀ k,k≠3->BJ L 3 N (.n k)=L (.n k):=fun k hk=>Bd L N hk;have hg:∀ a,BN s a->BJ L 3 N a<K.length:=fun a ha=>by
  cases a with
  | n j =>
   by_cases e:j=3;·subst e;rw[s3];exact hK
   rw[sk j e];exact Ac7 (h.lt _ ha) hl
  | i q=>exact Ac7 (h.lt _ ha) hl
 refine ⟨Pq (s':={s with paths:=s.paths++[p]}) h hN fun a ha _=>ha,hg,?_,?_,?_,?_,?_,?_,?_,?_,?_,?_⟩;·rw[sk 0 (by decide),sk 2 (by decide),s3,sk 4 (by decide),sk 5 (by decide),sk 6 (by decide),sk 7 (by decide),k0];simp
 ·obtain ⟨m,m1,m2⟩:=k1;obtain ⟨m',q1,q2,q3⟩:=h.seen;have:m=m':=by rw[m1] at q1;cases q1;rfl
  subst this;refine ⟨_,by rw[sk 1 (by decide)];exact m2,q2.upd _ _,fun q=>?_⟩;rw[J7 q2,q3];by_cases e:q=p;·simp[e]
  simp[e]
 ·rw[get 2 (by omega) (by decide) (by decide) (by decide)];exact h.above
 ·rw[s3];exact k3
 ·rw[get 4 (by omega) (by decide) (by decide) (by decide),h.rows];unfold Kq;have:∀ i,BJ L 3 N (.n (8+i))=L (.n (8+i)):=fun i=>sk _ (by omega);simp only[this]
 ·rw[get 5 (by omega) (by decide) (by decide) (by decide)];exact h.lists
 ·rw[get 6 (by omega) (by decide) (by decide) (by decide)];exact h.items
 ·rw[get 7 (by omega) (by decide) (by decide) (by decide)];exact h.sev
 ·intro i hi;rw[get (8+i) (by simp at hi;omega) (by omega) (by omega) (by omega)];exact h.row i hi
 intro q hq;have e:K[L (.i q)]?=H[L (.i q)]?:=kr (.i q) hq (by simp) (by simp) (by simp);rw[WI,e];exact h.item q hq
def B1.cell {L:Rl->Nat} {s:Ly} {H K:List Ae} (h:B1 L s H) {p:List UInt8} {x:Cel} (hr:0<s.rows.length) (hl:H.length<=K.length)
  (k1:∃ m:List (D × D),H[L (.n (8+(s.rows.length-1)))]?=some (.map m)/\K[L (.n (8+(s.rows.length-1)))]?=some (.map (Cc m (S p) (.agg (GY x))))) (hno:(s.rows.getD (s.rows.length-1) fun _=>none) p=none)
  (kr:∀ a,BN s a->a≠.n (8+(s.rows.length-1))->K[L a]?=H[L a]?):B1 L {s with rows:=s.rows.modify (s.rows.length-1) fun r=>J1 r p x} K:=by
 have ok:∀ k,k<8+s.rows.length->BN s (.n k):=fun k hk=>hk;have ne:∀ {k j:Nat},k≠j->Rl.n k≠Rl.n j:=fun h e=>h (by cases e;rfl);have get:∀ k,k<8->K[L (.n k)]?=H[L (.n k)]?:=fun k hk=>kr _ (ok k (by omega)) (ne (by omega));have lr:(s.rows.modify (s.rows.length-1) fun r=>J1 r p x).length=s.rows.length:=by simp
 have okk:∀ a,BN {s with rows:=s.rows.modify (s.rows.length-1) fun r=>J1 r p x} a->BN s a:=fun a ha=>by
  cases a with
  | n j=>have:j<8+(s.rows.modify (s.rows.length-1) fun r=>J1 r p x).length:=ha;rw[lr] at this;exact this
  | i q=>exact ha
 refine ⟨fun a b ha hb=>h.inj a b (okk a ha) (okk b hb),fun a ha=>Ac7 (h.lt a (okk a ha)) hl,?_,?_,?_,?_,?_,?_,?_,?_,?_,?_⟩;·rw[get 0 (by omega),h.box,lr]
 ·rw[get 1 (by omega)];exact h.seen
 ·rw[get 2 (by omega)];exact h.above
 ·rw[get 3 (by omega)];exact h.paths
 ·rw[get 4 (by omega),lr];exact h.rows
 ·rw[get 5 (by omega)];exact h.lists
 ·rw[get 6 (by omega)];exact h.items
 ·rw[get 7 (by omega)];exact h.sev
 ·intro i hi;simp only[lr] at hi;by_cases e:i=s.rows.length-1
  ·subst e;obtain ⟨m,m1,m2⟩:=k1;obtain ⟨m',q1,q2,q3⟩:=h.row _ hi;have:m=m':=by rw[m1] at q1;cases q1;rfl
   subst this;refine ⟨_,m2,q2.upd _ _,fun q=>?_⟩;rw[J7 q2,q3];simp only[Afd,if_true,J1];have hno':s.rows[s.rows.length-1] p=none:=(by rw[Aa0,AaZ hi] at hno;exact hno)
   by_cases e:q=p;·subst e;simp[hno']
   simp[e]
  rw[kr _ (ok (8+i) (by omega)) (ne (by omega))];simp only[Afd,if_neg (Ne.symm e)];exact h.row i hi
 intro q hq;rw[kr (.i q) hq (by simp)];exact h.item q hq
def Ly.same_cell {s:Ly} {p:List UInt8} {x c:Cel} (h:(s.rows.getD (s.rows.length-1) fun _=>none) p=some c):(s.rows.modify (s.rows.length-1) fun r=>J1 r p x)=s.rows:=by
 refine List.ext_getElem (by simp) fun i h1 h2=>?_;rw[Afd];split
 ·rename_i e;subst e;rw[Aa0,AaZ h2] at h;simp only[AfI] at h;funext q;unfold J1;by_cases e:q=p;·subst e;simp[h]
  simp[e]
 rfl
structure Df (L:Rl->Nat) (s:Ly) (H:List Ae) (L':Rl->Nat) (s':Ly) (H':List Ae):Prop where
 n0:L' (.n 0)=L (.n 0)
 n1:L' (.n 1)=L (.n 1)
 len:H.length<=H'.length
 keep:∀ i,i<H.length->(∀ a,BN s a->L a≠i)->H'[i]?=H[i]?
 old:∀ a,BN s' a->(∃ b,BN s b/\L b=L' a)\/H.length<=L' a
def Df.refl (L:Rl->Nat) (s:Ly) (H:List Ae):Df L s H L s H:=⟨rfl,rfl,Adm _,fun _ _ _=>rfl,fun a ha=>.inl ⟨a,ha,rfl⟩⟩
def Df.trans {L1 L2 L3:Rl->Nat} {s1 s2 s3:Ly} {H1 H2 H3:List Ae} (a:Df L1 s1 H1 L2 s2 H2) (b:Df L2 s2 H2 L3 s3 H3):Df L1 s1 H1 L3 s3 H3:=by
 refine ⟨b.n0.trans a.n0,b.n1.trans a.n1,Afe a.len b.len,fun i hi hr=>?_,fun x hx=>?_⟩
 ·rw[b.keep i (Ac7 hi a.len) fun x hx e=>?_,a.keep i hi hr];rcases a.old x hx with ⟨y,h1,h2⟩ | h1
  ·exact hr y h1 (h2.trans e)
  omega
 rcases b.old x hx with ⟨y,h1,h2⟩ | h1
 ·rcases a.old y h1 with ⟨z,h3,h4⟩ | h3
  ·exact .inl ⟨z,h3,h4.trans h2⟩
  exact .inr (h2▸h3)
 exact .inr (Afe a.len h1)
def Df.app (L:Rl->Nat) (s:Ly) (H E:List Ae):Df L s H L s (H++E):=⟨rfl,rfl,by simp,fun i hi _=>AJ hi,fun a ha=>.inl ⟨a,ha,rfl⟩⟩
def Ln {s s':Ly} (h1:s'.rows.length=s.rows.length) (h2:s'.it=s.it) {a:Rl} (h:BN s' a):BN s a:=by
 cases a with
 | n k=>show k<8+s.rows.length;rw[<-h1];exact h
 | i p=>show ¬s.it p=[];rw[<-h2];exact h
def Ld {L:Rl->Nat} {s:Ly} {H:List Ae} {k N:Nat} (hN:H.length<=N) {a:Rl} (ha:BN s a):(∃ b,BN s b/\L b=BJ L k N a)\/H.length<=BJ L k N a:=by
 cases a with
 | n j =>
  by_cases e:j=k;·subst e;rw[DD];exact .inr hN
  rw[Bd L N e];exact .inl ⟨_,ha,rfl⟩
 | i p=>exact .inl ⟨_,ha,rfl⟩
def Ih {s:Ly} {p:List UInt8} {x:Cel} {a:Rl} (h:BN (s.single p x) a):BN s a:=Ln (s.single_rows p x) rfl h
def ZH {H:List Ae} (h:∀ b,H[0]?=some b->∀ J t,b≠.ext J t):DH H=true:=by
 cases H with
 | nil=>rfl
 | cons x r =>
  cases x with
  | ext J t=>exact absurd rfl (h _ rfl J t)
  | _=>rfl
def NoX (H:List Ae):Prop:=∀ b∈H,∀ J t,b≠.ext J t
def NoX.ok {H:List Ae} (h:NoX H):DH H=true:=ZH fun b hb=>h b (List.mem_of_getElem? hb)
def NoX.set {H:List Ae} (h:NoX H) (i:Nat) {b:Ae} (hb:∀ J t,b≠.ext J t):NoX (H.set i b):=fun c hc=>by
 rcases List.mem_or_eq_of_mem_set hc with hc | rfl
 ·exact h c hc
 exact hb
def NoX.app {H E:List Ae} (h:NoX H) (he:NoX E):NoX (H++E):=fun c hc=>by
 rcases AfL.1 hc with hc | hc
 ·exact h c hc
 exact he c hc
def Nu {L:Rl->Nat} {s:Ly} {H:List Ae} (h:B1 L s H) (hr:0<s.rows.length) (h0:NoX H) (p:List UInt8) (n:Nd) (hs:s.paths.length<=1000000000/\s.rows.length<=1000000000) (hp:p.length<=1000000000) :
  ∃ L' H',Ctr TP G 60 [.ptr (L (.n 0)) 0,.mp (L (.n 1)),.d (S p),.d (NdD n)] H (.d (.tup [])) H'/\B1 L' (s.single p (AN n)) H'/\Df L s H L' (s.single p (AN n)) H'/\NoX H':=by
 obtain ⟨sl1,sl2⟩:=hs;obtain ⟨nk,nt,nks,nl⟩:=n;obtain ⟨m,hm⟩:∃ m,s.rows.length=m+1:=⟨s.rows.length-1,by omega⟩;have hm1:s.rows.length-1=m:=by omega
 have ok:∀ k,k<9+m->BN s (.n k):=fun k hk=>by show k<8+s.rows.length;omega
 obtain ⟨ms,ms1,ms2,ms3⟩:=h.seen;obtain ⟨mr,mr1,mr2,mr3⟩:=h.row m (by omega);have q0:=h.box;have q3:=h.paths;have q4:=h.rows;unfold Kq at q4;rw[if_neg (by omega),hm] at q4;have l0:=h.lt _ (ok 0 (by omega));have l1:=h.lt _ (ok 1 (by omega));have l3:=h.lt _ (ok 3 (by omega));have l4:=h.lt _ (ok 4 (by omega));have lr:=h.lt _ (ok (8+m) (by omega));have n01:=h.ne (ok 0 (by omega)) (ok 1 (by omega)) (by simp);have n03:=h.ne (ok 0 (by omega)) (ok 3 (by omega)) (by simp);have n04:=h.ne (ok 0 (by omega)) (ok 4 (by omega)) (by simp);have n13:=h.ne (ok 1 (by omega)) (ok 3 (by omega)) (by simp);have n14:=h.ne (ok 1 (by omega)) (ok 4 (by omega)) (by simp);have n34:=h.ne (ok 3 (by omega)) (ok 4 (by omega)) (by simp);have n0r:=h.ne (ok 0 (by omega)) (ok (8+m) (by omega)) (by simp;omega);have n1r:=h.ne (ok 1 (by omega)) (ok (8+m) (by omega)) (by simp;omega);have n3r:=h.ne (ok 3 (by omega)) (ok (8+m) (by omega)) (by simp;omega);have n4r:=h.ne (ok 4 (by omega)) (ok (8+m) (by omega)) (by simp;omega);have ks:=ms2.ok;have kr:=mr2.ok;have rl:((Afh (m+1)).map fun i=>AV.mp (L (.n (8+i)))).length=m+1:=by simp
 have rg:((Afh (m+1)).map fun i=>AV.mp (L (.n (8+i)))).getD m .undef=.mp (L (.n (8+m))):=by rw[Aa0,AfC,List.getElem?_range (by omega)];rfl
 generalize ((Afh (m+1)).map fun i=>AV.mp (L (.n (8+i))))=rb at *;have sl:=@strs_length s.paths;have gD:s.rows.getD m (fun _=>none)=s.rows[m]:=by rw[Aa0,AaZ (by omega)];rfl
 by_cases hpp:p∈s.paths
 ·have v1:DI (.bool false) ms (S p) false=.bool true:=by rw[Ls,ms3,if_pos hpp];rfl
  cases hc:s.rows[m] p with
  | none =>
   have hcD:(s.rows.getD m fun _=>none) p=none:=(by rw[gD];exact hc);have v2:DI (.agg [.bool false,.str ByteArray.empty]) mr (S p) true=.tup [.agg [.bool false,.str ByteArray.empty],.bool false]:=(by rw[Dl,mr3,hc];rfl);have hX:NoX (H.set (L (.n (8+m))) (.map (Cc mr (S p) (.agg (GY (AN (.mk nk nt nks nl))))))++[.box [.d (.int .i64 nk),.d (S nt),.d (Ss nks false),.d (.sl nl.length false (AA nl))],.box [.d (.bool false),.d (.str ByteArray.empty)]]):=(h0.set _ (by simp)).app (by simp[NoX]);refine ⟨L,H.set (L (.n (8+m))) (.map (Cc mr (S p) (.agg (GY (AN (.mk nk nt nks nl))))))++[.box [.d (.int .i64 nk),.d (S nt),.d (Ss nks false),.d (.sl nl.length false (AA nl))],.box [.d (.bool false),.d (.str ByteArray.empty)]],Ctr.bodyI (M:=M0) Am Tryz.func60 rfl AbF ?h1 ?h2,?h3⟩;case h2 =>
    simp(disch:=(try simp only[Ab]);omega)only[Tryz.f60,hm,q0,q4,ms1,mr1,ks,kr,v1,v2,rl,rg,ndC,Be,↓Aa,Ac,↓reduceIte,Qu,Qv];refine ⟨by rfl,?_⟩;refine Ad.of (OC (.mk nk nt nks nl)) (by rfl) ?_;simp(disch:=(try simp only[Ab]);omega)only[mr1,kr,Be,↓Aa,Ac,↓reduceIte,Qu];first
    | exact Or.inr ⟨rfl,Or.inr ⟨_,rfl,rfl,rfl⟩⟩
   case h1=>exact hX.ok
   case h3 =>have e1:s.single p (AN (.mk nk nt nks nl))={s with rows:=s.rows.modify (s.rows.length-1) fun r=>J1 r p (AN (.mk nk nt nks nl))}:=(by simp[Ly.single,hpp]);rw[e1];refine ⟨B1.app (h.cell (K:=H.set (L (.n (8+m))) (.map (Cc mr (S p) (.agg (GY (AN (.mk nk nt nks nl))))))) (by omega) (by simp) ⟨mr,by rw[hm1];exact mr1,by rw[hm1];exact BS lr⟩ (by rw[hm1];exact hcD) fun a ha hn=>As (h.ne (ok _ (by omega)) ha (by rw[hm1] at hn;exact hn.symm))) _,⟨rfl,rfl,by simp,fun i hi hr=>?_,fun a ha=>.inl ⟨a,Ih (by rw[e1];exact ha),rfl⟩⟩,hX⟩;rw[AJ (by simpa using hi),As (hr _ (ok _ (by omega)))]
  | some c =>
   have hcD:(s.rows.getD m fun _=>none) p=some c:=(by rw[gD];exact hc);have v2:DI (.agg [.bool false,.str ByteArray.empty]) mr (S p) true=.tup [.agg (GY c),.bool true]:=(by rw[Dl,mr3,hc];rfl);have hX:NoX (H++[.box [.d (.int .i64 nk),.d (S nt),.d (Ss nks false),.d (.sl nl.length false (AA nl))],.box [.d (.bool c.2),.d (S c.1)]]):=h0.app (by simp[NoX]);refine ⟨L,H++[.box [.d (.int .i64 nk),.d (S nt),.d (Ss nks false),.d (.sl nl.length false (AA nl))],.box [.d (.bool c.2),.d (S c.1)]],Ctr.bodyI (M:=M0) Am Tryz.func60 rfl AbF ?h1 ?h2,?h3⟩;case h2 =>
    simp(disch:=(try simp only[Ab]);omega)only[Tryz.f60,hm,q0,q4,ms1,mr1,ks,kr,v1,v2,rl,rg,ndC,Be,↓Aa,Ac,↓reduceIte,Qu,Qv];refine ⟨by rfl,?_⟩;first
    | exact Or.inr ⟨rfl,Or.inr ⟨_,rfl,rfl,rfl⟩⟩
   case h1=>exact hX.ok
   case h3 =>have e1:s.single p (AN (.mk nk nt nks nl))=s:=(by unfold Ly.single;rw[if_pos hpp,Ly.same_cell (c:=c) (by rw[hm1];exact hcD)]);rw[e1];exact ⟨h.app _,Df.app _ _ _ _,hX⟩
 have v1:DI (.bool false) ms (S p) false=.bool false:=by rw[Ls,ms3,if_neg hpp];rfl
 cases hc:s.rows[m] p with
 | none =>
  have hcD:(s.rows.getD m fun _=>none) p=none:=by rw[gD];exact hc
  have v2:DI (.agg [.bool false,.str ByteArray.empty]) mr (S p) true=.tup [.agg [.bool false,.str ByteArray.empty],.bool false]:=by rw[Dl,mr3,hc];rfl
  have hX:NoX ((((H.set (L (.n 1)) (.map (Cc ms (S p) (.bool true)))).set (L (.n 3)) .dead).set (L (.n 0)) (.box [.d (.bool s.further),.lsl (L (.n 2)) 1 0 s.above.length,.lsl (H.length+2) 1 0 (s.paths.length+1),.lsl (L (.n 4)) 1 0 (m+1),.lsl (L (.n 5)) 1 0 s.lists.length,.mp (L (.n 6)),.mp (L (.n 7))])).set (L (.n (8+m))) (.map (Cc mr (S p) (.agg (GY (AN (.mk nk nt nks nl))))))++[.box [.d (.int .i64 nk),.d (S nt),.d (Ss nks false),.d (.sl nl.length false (AA nl))],.row false [S p],.row false (strs s.paths++[S p]),.box [.d (.bool false),.d (.str ByteArray.empty)]]):=((((h0.set _ (by simp)).set _ (by simp)).set _ (by simp)).set _ (by simp)).app (by simp[NoX]);refine ⟨BJ L 3 (H.length+2),(((H.set (L (.n 1)) (.map (Cc ms (S p) (.bool true)))).set (L (.n 3)) .dead).set (L (.n 0)) (.box [.d (.bool s.further),.lsl (L (.n 2)) 1 0 s.above.length,.lsl (H.length+2) 1 0 (s.paths.length+1),.lsl (L (.n 4)) 1 0 (m+1),.lsl (L (.n 5)) 1 0 s.lists.length,.mp (L (.n 6)),.mp (L (.n 7))])).set (L (.n (8+m))) (.map (Cc mr (S p) (.agg (GY (AN (.mk nk nt nks nl))))))++[.box [.d (.int .i64 nk),.d (S nt),.d (Ss nks false),.d (.sl nl.length false (AA nl))],.row false [S p],.row false (strs s.paths++[S p]),.box [.d (.bool false),.d (.str ByteArray.empty)]],Ctr.bodyI (M:=M0) Am Tryz.func60 rfl AbF ?h1 ?h2,?h3⟩;case h2 =>
   simp(disch:=(try simp only[Ab]);omega)only[Tryz.f60,hm,q0,q3,q4,ms1,mr1,ks,kr,v1,v2,rl,rg,sl,ndC,Be,↓Aa,Ac,↓reduceIte,Qu,Qv];refine ⟨by rfl,?_⟩;refine Ad.of (OC (.mk nk nt nks nl)) (by rfl) ?_;simp(disch:=(try simp only[Ab]);omega)only[mr1,kr,Be,↓Aa,Ac,↓reduceIte,Qu];first
   | exact Or.inr ⟨rfl,Or.inr ⟨_,rfl,rfl,rfl⟩⟩
  case h1=>exact hX.ok
  case h3 =>
   have hp1:B1 (BJ L 3 (H.length+2)) {s with paths:=s.paths++[p]} (((H.set (L (.n 1)) (.map (Cc ms (S p) (.bool true)))).set (L (.n 3)) .dead).set (L (.n 0)) (.box [.d (.bool s.further),.lsl (L (.n 2)) 1 0 s.above.length,.lsl (H.length+2) 1 0 (s.paths.length+1),.lsl (L (.n 4)) 1 0 (m+1),.lsl (L (.n 5)) 1 0 s.lists.length,.mp (L (.n 6)),.mp (L (.n 7))])++[.box [.d (.int .i64 nk),.d (S nt),.d (Ss nks false),.d (.sl nl.length false (AA nl))],.row false [S p],.row false (strs s.paths++[S p]),.box [.d (.bool false),.d (.str ByteArray.empty)]]):=by
    refine h.path hpp (by omega) (by simp) (by simp) ?_ ⟨ms,ms1,?_⟩ ?_ fun a ha a0 a1 a3=>?_;·rw[AJ (by simpa using l0),BS (by simpa using l0),hm]
    ·rw[AJ (by simpa using l1),As n01,As (Ne.symm n13),BS l1]
    ·rw[Bc (by simp)];simp[strs]
    have la:=h.lt a ha;rw[AJ (by simpa using la),As (h.ne (ok 0 (by omega)) ha (Ne.symm a0)),As (h.ne (ok 3 (by omega)) ha (Ne.symm a3)),As (h.ne (ok 1 (by omega)) ha (Ne.symm a1))]
   have e1:s.single p (AN (.mk nk nt nks nl))={({s with paths:=s.paths++[p]}:Ly) with rows:=s.rows.modify (s.rows.length-1) fun r=>J1 r p (AN (.mk nk nt nks nl))}:=(by simp[Ly.single,hpp]);rw[e1];have er:BJ L 3 (H.length+2) (.n (8+m))=L (.n (8+m)):=Bd _ _ (by omega);have hx:BN {s with paths:=s.paths++[p]} (.n (8+m)):=ok _ (by omega);refine ⟨hp1.cell (K:=(((H.set (L (.n 1)) (.map (Cc ms (S p) (.bool true)))).set (L (.n 3)) .dead).set (L (.n 0)) (.box [.d (.bool s.further),.lsl (L (.n 2)) 1 0 s.above.length,.lsl (H.length+2) 1 0 (s.paths.length+1),.lsl (L (.n 4)) 1 0 (m+1),.lsl (L (.n 5)) 1 0 s.lists.length,.mp (L (.n 6)),.mp (L (.n 7))])).set (L (.n (8+m))) (.map (Cc mr (S p) (.agg (GY (AN (.mk nk nt nks nl))))))++[.box [.d (.int .i64 nk),.d (S nt),.d (Ss nks false),.d (.sl nl.length false (AA nl))],.row false [S p],.row false (strs s.paths++[S p]),.box [.d (.bool false),.d (.str ByteArray.empty)]]) (by show 0<s.rows.length;omega) (by simp) ⟨mr,?_,?_⟩ (by show (s.rows.getD (s.rows.length-1) fun _=>none) p=none;rw[hm1];exact hcD) fun a ha hn=>?_,⟨Bd _ _ (by decide),Bd _ _ (by decide),by simp,fun i hi hr=>?_,fun a ha=>Ld (by omega) (Ih (by rw[e1];exact ha))⟩,hX⟩
   ·show (((H.set (L (.n 1)) (.map (Cc ms (S p) (.bool true)))).set (L (.n 3)) .dead).set (L (.n 0)) (.box [.d (.bool s.further),.lsl (L (.n 2)) 1 0 s.above.length,.lsl (H.length+2) 1 0 (s.paths.length+1),.lsl (L (.n 4)) 1 0 (m+1),.lsl (L (.n 5)) 1 0 s.lists.length,.mp (L (.n 6)),.mp (L (.n 7))])++[.box [.d (.int .i64 nk),.d (S nt),.d (Ss nks false),.d (.sl nl.length false (AA nl))],.row false [S p],.row false (strs s.paths++[S p]),.box [.d (.bool false),.d (.str ByteArray.empty)]])[BJ L 3 (H.length+2) (.n (8+(s.rows.length-1)))]?=_
    rw[hm1,er,AJ (by simpa using lr),As n0r,As n3r,As n1r];exact mr1
   ·show ((((H.set (L (.n 1)) (.map (Cc ms (S p) (.bool true)))).set (L (.n 3)) .dead).set (L (.n 0)) (.box [.d (.bool s.further),.lsl (L (.n 2)) 1 0 s.above.length,.lsl (H.length+2) 1 0 (s.paths.length+1),.lsl (L (.n 4)) 1 0 (m+1),.lsl (L (.n 5)) 1 0 s.lists.length,.mp (L (.n 6)),.mp (L (.n 7))])).set (L (.n (8+m))) (.map (Cc mr (S p) (.agg (GY (AN (.mk nk nt nks nl))))))++[.box [.d (.int .i64 nk),.d (S nt),.d (Ss nks false),.d (.sl nl.length false (AA nl))],.row false [S p],.row false (strs s.paths++[S p]),.box [.d (.bool false),.d (.str ByteArray.empty)]])[BJ L 3 (H.length+2) (.n (8+(s.rows.length-1)))]?=_
    rw[hm1,er,AJ (by simpa using lr),BS (by simpa using lr)]
   ·have hn':¬BJ L 3 (H.length+2) (.n (8+m))=BJ L 3 (H.length+2) a:=hp1.ne hx ha (by
     have:a≠.n (8+(s.rows.length-1)):=hn;rw[hm1] at this;exact this.symm)
    rw[er] at hn';rcases Adf (BJ L 3 (H.length+2) a) H.length with q | q
    ·rw[AJ (by simpa using q),AJ (by simpa using q),As hn']
    rw[Bc (by simpa using q),Bc (by simpa using q)];simp only[Afq]
   rw[AJ (by simpa using hi),As (hr _ (ok _ (by omega))),As (hr _ (ok _ (by omega))),As (hr _ (ok _ (by omega))),As (hr _ (ok _ (by omega)))]
 | some c =>
  have hcD:(s.rows.getD m fun _=>none) p=some c:=by rw[gD];exact hc
  have v2:DI (.agg [.bool false,.str ByteArray.empty]) mr (S p) true=.tup [.agg (GY c),.bool true]:=by rw[Dl,mr3,hc];rfl
  have hX:NoX (((H.set (L (.n 1)) (.map (Cc ms (S p) (.bool true)))).set (L (.n 3)) .dead).set (L (.n 0)) (.box [.d (.bool s.further),.lsl (L (.n 2)) 1 0 s.above.length,.lsl (H.length+2) 1 0 (s.paths.length+1),.lsl (L (.n 4)) 1 0 (m+1),.lsl (L (.n 5)) 1 0 s.lists.length,.mp (L (.n 6)),.mp (L (.n 7))])++[.box [.d (.int .i64 nk),.d (S nt),.d (Ss nks false),.d (.sl nl.length false (AA nl))],.row false [S p],.row false (strs s.paths++[S p]),.box [.d (.bool c.2),.d (S c.1)]]):=(((h0.set _ (by simp)).set _ (by simp)).set _ (by simp)).app (by simp[NoX]);refine ⟨BJ L 3 (H.length+2),((H.set (L (.n 1)) (.map (Cc ms (S p) (.bool true)))).set (L (.n 3)) .dead).set (L (.n 0)) (.box [.d (.bool s.further),.lsl (L (.n 2)) 1 0 s.above.length,.lsl (H.length+2) 1 0 (s.paths.length+1),.lsl (L (.n 4)) 1 0 (m+1),.lsl (L (.n 5)) 1 0 s.lists.length,.mp (L (.n 6)),.mp (L (.n 7))])++[.box [.d (.int .i64 nk),.d (S nt),.d (Ss nks false),.d (.sl nl.length false (AA nl))],.row false [S p],.row false (strs s.paths++[S p]),.box [.d (.bool c.2),.d (S c.1)]],Ctr.bodyI (M:=M0) Am Tryz.func60 rfl AbF ?h1 ?h2,?h3⟩;case h2 =>
   simp(disch:=(try simp only[Ab]);omega)only[Tryz.f60,hm,q0,q3,q4,ms1,mr1,ks,kr,v1,v2,rl,rg,sl,ndC,Be,↓Aa,Ac,↓reduceIte,Qu,Qv];refine ⟨by rfl,?_⟩;first
   | exact Or.inr ⟨rfl,Or.inr ⟨_,rfl,rfl,rfl⟩⟩
  case h1=>exact hX.ok
  case h3 =>
   have hp1:B1 (BJ L 3 (H.length+2)) {s with paths:=s.paths++[p]} (((H.set (L (.n 1)) (.map (Cc ms (S p) (.bool true)))).set (L (.n 3)) .dead).set (L (.n 0)) (.box [.d (.bool s.further),.lsl (L (.n 2)) 1 0 s.above.length,.lsl (H.length+2) 1 0 (s.paths.length+1),.lsl (L (.n 4)) 1 0 (m+1),.lsl (L (.n 5)) 1 0 s.lists.length,.mp (L (.n 6)),.mp (L (.n 7))])++[.box [.d (.int .i64 nk),.d (S nt),.d (Ss nks false),.d (.sl nl.length false (AA nl))],.row false [S p],.row false (strs s.paths++[S p]),.box [.d (.bool c.2),.d (S c.1)]]):=by
    refine h.path hpp (by omega) (by simp) (by simp) ?_ ⟨ms,ms1,?_⟩ ?_ fun a ha a0 a1 a3=>?_;·rw[AJ (by simpa using l0),BS (by simpa using l0),hm]
    ·rw[AJ (by simpa using l1),As n01,As (Ne.symm n13),BS l1]
    ·rw[Bc (by simp)];simp[strs]
    have la:=h.lt a ha;rw[AJ (by simpa using la),As (h.ne (ok 0 (by omega)) ha (Ne.symm a0)),As (h.ne (ok 3 (by omega)) ha (Ne.symm a3)),As (h.ne (ok 1 (by omega)) ha (Ne.symm a1))]
   have e1:s.single p (AN (.mk nk nt nks nl))={s with paths:=s.paths++[p]}:=(by unfold Ly.single;rw[if_neg hpp,Ly.same_cell (c:=c) (by rw[hm1];exact hcD)]);rw[e1];refine ⟨hp1,⟨Bd _ _ (by decide),Bd _ _ (by decide),by simp,fun i hi hr=>?_,fun a ha=>Ld (by omega) (Ih (by rw[e1];exact ha))⟩,hX⟩;rw[AJ (by simpa using hi),As (hr _ (ok _ (by omega))),As (hr _ (ok _ (by omega))),As (hr _ (ok _ (by omega)))]
def B1.sev' {L:Rl->Nat} {s:Ly} {H K:List Ae} (h:B1 L s H) {p:List UInt8} {n:Nat} (hn:0<n) (hl:H.length<=K.length)
  (k7:∃ m:List (D × D),H[L (.n 7)]?=some (.map m)/\K[L (.n 7)]?=some (.map (Cc m (S p) (.int .i64 (n:Nat)))))
  (kr:∀ a,BN s a->a≠.n 7->K[L a]?=H[L a]?):B1 L {s with sv:=CO s.sv p n} K:=by
 have ok:∀ k,k<8+s.rows.length->BN s (.n k):=fun k hk=>hk;have ne:∀ {k j:Nat},k≠j->Rl.n k≠Rl.n j:=fun h e=>h (by cases e;rfl);have get:∀ k,k<8+s.rows.length->k≠7->K[L (.n k)]?=H[L (.n k)]?:=fun k hk h7=>kr _ (ok k hk) (ne h7);refine ⟨h.inj,fun a ha=>Ac7 (h.lt a ha) hl,?_,?_,?_,?_,?_,?_,?_,?_,?_,?_⟩;·rw[get 0 (by omega) (by decide)];exact h.box
 ·rw[get 1 (by omega) (by decide)];exact h.seen
 ·rw[get 2 (by omega) (by decide)];exact h.above
 ·rw[get 3 (by omega) (by decide)];exact h.paths
 ·rw[get 4 (by omega) (by decide)];exact h.rows
 ·rw[get 5 (by omega) (by decide)];exact h.lists
 ·rw[get 6 (by omega) (by decide)];exact h.items
 ·obtain ⟨m,m1,m2⟩:=k7;obtain ⟨m',q1,q2,q3⟩:=h.sev;have:m=m':=by rw[m1] at q1;cases q1;rfl
  subst this;refine ⟨_,m2,q2.upd _ _,fun q=>?_⟩;show _=if CO s.sv p n q=0 then none else some (D.int .i64 (CO s.sv p n q:Nat))
  rw[J7 q2,q3];by_cases e:q=p;·subst e;rw[if_pos rfl,Dc,if_neg (by omega)]
  rw[if_neg e,CN _ _ e]
 ·intro i hi;rw[get (8+i) (by simp at hi;omega) (by omega)];exact h.row i hi
 intro q hq;rw[kr (.i q) hq (by simp)];exact h.item q hq
def B1.lst {L:Rl->Nat} {s:Ly} {H K:List Ae} (h:B1 L s H) {N:Nat} {p:List UInt8} (hN:H.length<=N) (hK:N<K.length) (hl:H.length<=K.length)
  (k0:K[L (.n 0)]?=some (.box [.d (.bool s.further),.lsl (L (.n 2)) 1 0 s.above.length,.lsl (L (.n 3)) 1 0 s.paths.length,.lsl (L (.n 4)) 1 0 s.rows.length,.lsl N 1 0 (s.lists.length+1),.mp (L (.n 6)),.mp (L (.n 7))]))
  (k5:K[N]?=some (.row false (strs (s.lists++[p])))) (kr:∀ a,BN s a->a≠.n 0->a≠.n 5->K[L a]?=H[L a]?):B1 (BJ L 5 N) {s with lists:=s.lists++[p]} K:=by
 have ok:∀ k,k<8+s.rows.length->BN s (.n k):=fun k hk=>hk;have ne:∀ {k j:Nat},k≠j->Rl.n k≠Rl.n j:=fun h e=>h (by cases e;rfl);have get:∀ k,k<8+s.rows.length->k≠0->k≠5->K[BJ L 5 N (.n k)]?=H[L (.n k)]?:=fun k hk h0 h3=>by rw[Bd L N h3];exact kr _ (ok k hk) (ne h0) (ne h3)
 have s3:=DD L 5 N;have sk:∀ k,k≠5->BJ L 5 N (.n k)=L (.n k):=fun k hk=>Bd L N hk;have hg:∀ a,BN s a->BJ L 5 N a<K.length:=fun a ha=>by
  cases a with
  | n j =>
   by_cases e:j=5;·subst e;rw[s3];exact hK
   rw[sk j e];exact Ac7 (h.lt _ ha) hl
  | i q=>exact Ac7 (h.lt _ ha) hl
 refine ⟨Pq (s':={s with lists:=s.lists++[p]}) h hN fun a ha _=>ha,hg,?_,?_,?_,?_,?_,?_,?_,?_,?_,?_⟩;·rw[sk 0 (by decide),sk 2 (by decide),sk 3 (by decide),sk 4 (by decide),s3,sk 6 (by decide),sk 7 (by decide),k0];simp
 ·rw[get 1 (by omega) (by decide) (by decide)];exact h.seen
 ·rw[get 2 (by omega) (by decide) (by decide)];exact h.above
 ·rw[get 3 (by omega) (by decide) (by decide)];exact h.paths
 ·rw[get 4 (by omega) (by decide) (by decide),h.rows];unfold Kq;have:∀ i,BJ L 5 N (.n (8+i))=L (.n (8+i)):=fun i=>sk _ (by omega);simp only[this]
 ·rw[s3];exact k5
 ·rw[get 6 (by omega) (by decide) (by decide)];exact h.items
 ·rw[get 7 (by omega) (by decide) (by decide)];exact h.sev
 ·intro i hi;rw[get (8+i) (by simp at hi;omega) (by omega) (by omega)];exact h.row i hi
 intro q hq;have e:K[L (.i q)]?=H[L (.i q)]?:=kr (.i q) hq (by simp) (by simp);rw[WI,e];exact h.item q hq
def GC (L:Rl->Nat) (p:List UInt8) (N:Nat):Rl->Nat
 | .n j=>L (.n j)
 | .i q=>if q=p then N else L (.i q)
def Km (L:Rl->Nat) (p:List UInt8) (N:Nat):GC L p N (.i p)=N:=by simp[GC]
def R0 (L:Rl->Nat) {p q:List UInt8} (N:Nat) (h:¬q=p):GC L p N (.i q)=L (.i q):=by simp[GC,h]
def B1.itm {L:Rl->Nat} {s:Ly} {H K:List Ae} (h:B1 L s H) {N:Nat} {p:List UInt8} {e:Elm} (hN:H.length<=N) (hK:N<K.length) (hl:H.length<=K.length)
  (k6:∃ m:List (D × AV),H[L (.n 6)]?=some (.amap m)/\K[L (.n 6)]?=some (.amap (Cc m (S p) (.lsl N 5 0 ((s.it p).length+1)))))
  (kn:K[N]?=some (.row false (BQ (s.it p++[e])))) (kr:∀ a,BN s a->a≠.n 6->a≠.i p->K[L a]?=H[L a]?):B1 (GC L p N) {s with it:=CO s.it p (s.it p++[e])} K:=by
 have ok:∀ k,k<8+s.rows.length->BN s (.n k):=fun k hk=>hk;have ne:∀ {k j:Nat},k≠j->Rl.n k≠Rl.n j:=fun h e=>h (by cases e;rfl);have get:∀ k,k<8+s.rows.length->k≠6->K[L (.n k)]?=H[L (.n k)]?:=fun k hk h6=>kr _ (ok k hk) (ne h6) (by simp);have key:∀ a,BN {s with it:=CO s.it p (s.it p++[e])} a->(a=.i p/\GC L p N a=N)\/(a≠.i p/\BN s a/\GC L p N a=L a/\L a<H.length):=by
  intro a ha;cases a with
  | n k=>exact .inr ⟨by simp,ha,rfl,h.lt (.n k) ha⟩
  | i q =>
   by_cases eq:q=p;·subst eq;exact .inl ⟨rfl,Km L q N⟩
   have hq:BN s (.i q):=(by have:¬CO s.it p (s.it p++[e]) q=[]:=ha;rwa[CN _ _ eq] at this);exact .inr ⟨fun x=>eq (by cases x;rfl),hq,R0 L N eq,h.lt _ hq⟩
 refine ⟨fun a b ha hb hab=>?_,fun a ha=>?_,?_,?_,?_,?_,?_,?_,?_,?_,?_,?_⟩
 ·rcases key a ha with ⟨a1,a2⟩ | ⟨a1,a2,a3,a4⟩<;>rcases key b hb with ⟨b1,b2⟩ | ⟨b1,b2,b3,b4⟩
  ·rw[a1,b1]
  ·omega
  ·omega
  exact h.inj a b a2 b2 (by rw[<-a3,<-b3];exact hab)
 ·rcases key a ha with ⟨a1,a2⟩ | ⟨a1,a2,a3,a4⟩<;>omega
 ·show K[L (.n 0)]?=_
  rw[get 0 (by omega) (by decide)];exact h.box
 ·show ∃ m:List (D × D),K[L (.n 1)]?=_/\_
  rw[get 1 (by omega) (by decide)];exact h.seen
 ·show K[L (.n 2)]?=_
  rw[get 2 (by omega) (by decide)];exact h.above
 ·show K[L (.n 3)]?=_
  rw[get 3 (by omega) (by decide)];exact h.paths
 ·show K[L (.n 4)]?=_
  rw[get 4 (by omega) (by decide)];exact h.rows
 ·show K[L (.n 5)]?=_
  rw[get 5 (by omega) (by decide)];exact h.lists
 ·obtain ⟨m,m1,m2⟩:=k6;obtain ⟨m',q1,q2,q3⟩:=h.items;have:m=m':=by rw[m1] at q1;cases q1;rfl
  subst this;refine ⟨_,m2,q2.upd _ _,fun q=>?_⟩;show _=if CO s.it p (s.it p++[e]) q=[] then none else some (AV.lsl (GC L p N (.i q)) 5 0 (CO s.it p (s.it p++[e]) q).length)
  rw[J7 q2,q3];by_cases eq:q=p;·subst eq;rw[if_pos rfl,Dc,if_neg (by simp),Km,Adi];rfl
  rw[if_neg eq,CN _ _ eq,R0 L N eq]
 ·show ∃ m:List (D × D),K[L (.n 7)]?=_/\_
  rw[get 7 (by omega) (by decide)];exact h.sev
 ·intro i hi;show ∃ m:List (D × D),K[L (.n (8+i))]?=_/\_
  rw[get (8+i) (by simp at hi;omega) (by omega)];exact h.row i hi
 intro q hq;rcases key (.i q) hq with ⟨a1,a2⟩ | ⟨a1,a2,a3,a4⟩
 ·cases a1;rw[Km,kn];simp only[Dc]
 rw[a3,kr (.i q) a2 (by simp) a1];have eq:¬q=p:=fun x=>a1 (by rw[x]);simp only[CN _ _ eq];exact h.item q a2
def XH {L:Rl->Nat} {s:Ly} {H:List Ae} {p:List UInt8} {N:Nat} {l:List Elm} (hN:H.length<=N) {a:Rl} (ha:BN {s with it:=CO s.it p l} a):(∃ b,BN s b/\L b=GC L p N a)\/H.length<=GC L p N a:=by
 cases a with
 | n j=>exact .inl ⟨.n j,ha,rfl⟩
 | i q =>
  by_cases e:q=p;·subst e;rw[Km];exact .inr hN
  rw[R0 L N e];have:¬CO s.it p l q=[]:=ha;rw[CN _ _ e] at this;exact .inl ⟨.i q,this,rfl⟩
def Ly.itk (s:Ly) (p:List UInt8) (kids:List Nd) (k:Nat):Ly:={s with it:=CO s.it p (s.it p++(kids.take k).map fun x=>((s.rows.length:Int)-1,x))}
def Ly.itk_zero (s:Ly) (p:List UInt8) (kids:List Nd):s.itk p kids 0=s:=by
 have:CO s.it p (s.it p)=s.it:=by
  funext q;by_cases e:q=p;·subst e;exact Dc _ _ _
  exact CN _ _ e
 unfold Ly.itk;simp only[List.take_zero,AeT,AfM,this]
def Ly.itk_at (s:Ly) (p:List UInt8) (kids:List Nd) (k:Nat):(s.itk p kids k).it p=s.it p++(kids.take k).map fun x=>((s.rows.length:Int)-1,x):=Dc _ _ _
def Ly.itk_succ (s:Ly) (p:List UInt8) (kids:List Nd) (k:Nat) (h:k<kids.length):s.itk p kids (k+1)={s.itk p kids k with it:=CO (s.itk p kids k).it p ((s.itk p kids k).it p++[((s.rows.length:Int)-1,kids.getD k noN)])}:=by
 have e1:kids.take (k+1)=kids.take k++[kids.getD k noN]:=by rw[List.take_succ,AaZ h,Aa0,AaZ h];rfl
 unfold Ly.itk;simp only[e1,List.map_append,AeR,AeT];congr 1;funext q;by_cases e:q=p;·subst e;rw[Dc,Dc,Dc,AfB]
 rw[CN _ _ e,CN _ _ e,CN _ _ e]
def HF (L:Rl->Nat) (H:List Ae) (mi:List (D × AV)) (p:List UInt8) (it:List Elm) (e:Elm):List Ae :=
 (if it=[] then H.set (L (.n 6)) (.amap (Cc mi (S p) (.lsl (H.length+2) 5 0 (it.length+1)))) else (H.set (L (.i p)) .dead).set (L (.n 6)) (.amap (Cc mi (S p) (.lsl (H.length+2) 5 0 (it.length+1))))) ++
  [.box ((ndC e.2).map .d),.row false (BQ [e]),.row false (BQ (it++[e]))]
def YQ (L:Rl->Nat) (s:Ly) (H:List Ae) (p:List UInt8) (kids:List Nd) (k:Nat) (x:(Rl->Nat) × List Ae):Prop :=
 B1 x.1 (s.itk p kids k) x.2/\Df L s H x.1 (s.itk p kids k) x.2/\NoX x.2
def AcX (s:Ly) (p:List UInt8) (kids:List Nd) (k:Nat) (x y:(Rl->Nat) × List Ae):Prop :=
 ∃ mi,x.2[x.1 (.n 6)]?=some (.amap mi)/\y.2=HF x.1 x.2 mi p ((s.itk p kids k).it p) ((s.rows.length:Int)-1,kids.getD k noN)
def T7 {L:Rl->Nat} {s:Ly} {H:List Ae} {p:List UInt8} {kids:List Nd} {k:Nat} (hk:k<kids.length) {x:(Rl->Nat) × List Ae} (hx:YQ L s H p kids k x):∃ y,AcX s p kids k x y/\YQ L s H p kids (k+1) y:=by
 obtain ⟨L1,H1⟩:=x;obtain ⟨h1,h2,h3⟩:=hx;simp only at h1 h2 h3;obtain ⟨mi,m1,m2,m3⟩:=h1.items;have ok:∀ k',k'<8+s.rows.length->BN (s.itk p kids k) (.n k'):=fun k' hk'=>hk';have l6:=h1.lt (.n 6) (ok 6 (by omega));generalize he:(((s.rows.length:Int)-1,kids.getD k noN):Elm)=e;refine ⟨(GC L1 p (H1.length+2),HF L1 H1 mi p ((s.itk p kids k).it p) e),⟨mi,m1,by rw[he]⟩,?_⟩;have hlen:(HF L1 H1 mi p ((s.itk p kids k).it p) e).length=H1.length+3:=by unfold HF;split<;>simp
 have gN:(HF L1 H1 mi p ((s.itk p kids k).it p) e)[H1.length+2]?=some (.row false (BQ ((s.itk p kids k).it p++[e]))):=by unfold HF;split<;>simp
 have g6:(HF L1 H1 mi p ((s.itk p kids k).it p) e)[L1 (.n 6)]?=some (.amap (Cc mi (S p) (.lsl (H1.length+2) 5 0 (((s.itk p kids k).it p).length+1)))):=by
  unfold HF;split;·rw[AJ (by simpa using l6),BS l6]
  rw[AJ (by simpa using l6),BS (by simpa using l6)]
 have gO:∀ i,i<H1.length->i≠L1 (.n 6)->(¬(s.itk p kids k).it p=[]->i≠L1 (.i p))->(HF L1 H1 mi p ((s.itk p kids k).it p) e)[i]?=H1[i]?:=by
  intro i hi h6 hp;unfold HF;split;·rw[AJ (by simpa using hi),As (Ne.symm h6)]
  rename_i hne;rw[AJ (by simpa using hi),As (Ne.symm h6),As (Ne.symm (hp hne))]
 have hs':s.itk p kids (k+1)={s.itk p kids k with it:=CO (s.itk p kids k).it p ((s.itk p kids k).it p++[e])}:=by rw[Ly.itk_succ s p kids k hk,he]
 refine ⟨?_,h2.trans ?_,?_⟩
 ·show B1 (GC L1 p (H1.length+2)) (s.itk p kids (k+1)) (HF L1 H1 mi p ((s.itk p kids k).it p) e)
  rw[hs'];refine h1.itm (by omega) (by omega) (by omega) ⟨mi,m1,g6⟩ gN fun a ha a6 ap=>gO _ (h1.lt a ha) (h1.ne ha (ok 6 (by omega)) a6) fun hne=>?_;exact h1.ne ha (b:=.i p) hne ap
 ·show Df L1 (s.itk p kids k) H1 (GC L1 p (H1.length+2)) (s.itk p kids (k+1)) (HF L1 H1 mi p ((s.itk p kids k).it p) e)
  refine ⟨rfl,rfl,by omega,fun i hi hr=>gO i hi (Ne.symm (hr _ (ok 6 (by omega)))) fun hne=>Ne.symm (hr (.i p) hne),fun a ha=>?_⟩;rw[hs'] at ha;exact XH (by omega) ha
 show NoX (HF L1 H1 mi p ((s.itk p kids k).it p) e)
 unfold HF;split;·exact (h3.set _ (by simp)).app (by simp[NoX])
 exact ((h3.set _ (by simp)).set _ (by simp)).app (by simp[NoX])
def ZV {L:Rl->Nat} {s:Ly} {H:List Ae} (h:B1 L s H) (hr:0<s.rows.length) (h0:NoX H) (p:List UInt8) (kids:List Nd) (full:Bool) (hs:s.lists.length<=1000000000/\s.rows.length<=1000000000) (hk:(s.it p).length+kids.length<=1000000000) :
  ∃ L' H',Ctr TP G 97 [.ptr (L (.n 0)) 0,.d (S p),.d (NdS kids full)] H (.d (.tup [])) H'/\B1 L' (s.list p kids) H'/\Df L s H L' (s.list p kids) H'/\NoX H':=by
 obtain ⟨sl1,sl2⟩:=hs;have ok:∀ k,k<8+s.rows.length->BN s (.n k):=fun k hk=>hk;obtain ⟨mv,mv1,mv2,mv3⟩:=h.sev;have q0:=h.box;have q5:=h.lists;have l0:=h.lt _ (ok 0 (by omega));have l5:=h.lt _ (ok 5 (by omega));have l7:=h.lt _ (ok 7 (by omega));have n05:=h.ne (ok 0 (by omega)) (ok 5 (by omega)) (by simp);have n07:=h.ne (ok 0 (by omega)) (ok 7 (by omega)) (by simp);have n57:=h.ne (ok 5 (by omega)) (ok 7 (by omega)) (by simp);have ks:=mv2.ok;have nl:=Ay kids;have sl:=@strs_length s.lists;have v1:DI (.int .i64 0) mv (S p) false=.int .i64 (s.sv p:Nat):=by
  rw[Ls,mv3];by_cases e:s.sv p=0;·rw[if_pos e,e];rfl
  rw[if_neg e];rfl
 by_cases hA:s.sv p=s.rows.length
 ·have e1:s.list p kids=s:=if_pos hA;rw[e1];refine ⟨L,H,Ctr.bodyI (M:=M0) Am Tryz.func97 rfl AcJ h0.ok ?_,h,Df.refl _ _ _,h0⟩;rw[hA] at v1;simp(disch:=(try simp only[Ab]);omega)only[Tryz.f97,q0,mv1,ks,v1,↓Aa,Ac,↓reduceIte,Qu,Qv];first
  | exact RetI.unitR
 by_cases hB:s.sv p=0
 ·have e1:s.list p kids=({s with lists:=s.lists++[p],sv:=CO s.sv p s.rows.length}:Ly).itk p kids kids.length:=by
   unfold Ly.list Ly.itk;rw[if_neg hA,if_pos hB,Adq]
  rw[e1];have l1n:(BJ L 5 (H.length+1)) (.n 0)=L (.n 0):=Bd _ _ (by decide);have x0:B1 (BJ L 5 (H.length+1)) {s with lists:=s.lists++[p]} ((H.set (L (.n 5)) .dead).set (L (.n 0)) (.box [.d (.bool s.further),.lsl (L (.n 2)) 1 0 s.above.length,.lsl (L (.n 3)) 1 0 s.paths.length,.lsl (L (.n 4)) 1 0 s.rows.length,.lsl (H.length+1) 1 0 (s.lists.length+1),.mp (L (.n 6)),.mp (L (.n 7))])++[.row false [S p],.row false (strs s.lists++[S p])]):=by
   refine h.lst (by omega) (by simp) (by simp) ?_ ?_ fun a ha a0 a5=>?_;·rw[AJ (by simpa using l0),BS (by simpa using l0)]
   ·rw[Bc (by simp)];simp[strs]
   have la:=h.lt a ha;rw[AJ (by simpa using la),As (h.ne (ok 0 (by omega)) ha (Ne.symm a0)),As (h.ne (ok 5 (by omega)) ha (Ne.symm a5))]
  have x1:B1 (BJ L 5 (H.length+1)) {s with lists:=s.lists++[p],sv:=CO s.sv p s.rows.length} (((H.set (L (.n 5)) .dead).set (L (.n 0)) (.box [.d (.bool s.further),.lsl (L (.n 2)) 1 0 s.above.length,.lsl (L (.n 3)) 1 0 s.paths.length,.lsl (L (.n 4)) 1 0 s.rows.length,.lsl (H.length+1) 1 0 (s.lists.length+1),.mp (L (.n 6)),.mp (L (.n 7))])).set (L (.n 7)) (.map (Cc mv (S p) (.int .i64 (s.rows.length:Nat))))++[.row false [S p],.row false (strs s.lists++[S p])]):=by
   refine x0.sev' hr (by simp) ⟨mv,?_,?_⟩ fun a ha a7=>?_;·rw[Bd _ _ (by decide),AJ (by simpa using l7),As n07,As n57];exact mv1
   ·rw[Bd _ _ (by decide),AJ (by simpa using l7),BS (by simpa using l7)]
   have hn':=x0.ne (a:=.n 7) (b:=a) (by show 7<8+s.rows.length;omega) ha (Ne.symm a7);rw[Bd _ _ (by decide)] at hn';rcases Adf (BJ L 5 (H.length+1) a) H.length with q | q
   ·rw[AJ (by simpa using q),AJ (by simpa using q),As hn']
   rw[Bc (by simpa using q),Bc (by simpa using q)];simp only[Afq]
  have x2:Df L s H (BJ L 5 (H.length+1)) {s with lists:=s.lists++[p],sv:=CO s.sv p s.rows.length} (((H.set (L (.n 5)) .dead).set (L (.n 0)) (.box [.d (.bool s.further),.lsl (L (.n 2)) 1 0 s.above.length,.lsl (L (.n 3)) 1 0 s.paths.length,.lsl (L (.n 4)) 1 0 s.rows.length,.lsl (H.length+1) 1 0 (s.lists.length+1),.mp (L (.n 6)),.mp (L (.n 7))])).set (L (.n 7)) (.map (Cc mv (S p) (.int .i64 (s.rows.length:Nat))))++[.row false [S p],.row false (strs s.lists++[S p])]) :=
   ⟨l1n,Bd _ _ (by decide),by simp,fun i hi hr=>by rw[AJ (by simpa using hi),As (hr _ (ok 7 (by omega))),As (hr _ (ok 0 (by omega))),As (hr _ (ok 5 (by omega)))],
    fun a ha=>Ld (by omega) (Ln (s':={s with lists:=s.lists++[p],sv:=CO s.sv p s.rows.length}) rfl rfl ha)⟩
  have x3:NoX (((H.set (L (.n 5)) .dead).set (L (.n 0)) (.box [.d (.bool s.further),.lsl (L (.n 2)) 1 0 s.above.length,.lsl (L (.n 3)) 1 0 s.paths.length,.lsl (L (.n 4)) 1 0 s.rows.length,.lsl (H.length+1) 1 0 (s.lists.length+1),.mp (L (.n 6)),.mp (L (.n 7))])).set (L (.n 7)) (.map (Cc mv (S p) (.int .i64 (s.rows.length:Nat))))++[.row false [S p],.row false (strs s.lists++[S p])]):=(((h0.set _ (by simp)).set _ (by simp)).set _ (by simp)).app (by simp[NoX]);generalize hS1:({s with lists:=s.lists++[p],sv:=CO s.sv p s.rows.length}:Ly)=S1 at *;have hS1r:S1.rows=s.rows:=by rw[<-hS1]
  have hS1i:S1.it=s.it:=by rw[<-hS1]
  obtain ⟨f,f0,fI,fT⟩:=Le (YQ (BJ L 5 (H.length+1)) S1 (((H.set (L (.n 5)) .dead).set (L (.n 0)) (.box [.d (.bool s.further),.lsl (L (.n 2)) 1 0 s.above.length,.lsl (L (.n 3)) 1 0 s.paths.length,.lsl (L (.n 4)) 1 0 s.rows.length,.lsl (H.length+1) 1 0 (s.lists.length+1),.mp (L (.n 6)),.mp (L (.n 7))])).set (L (.n 7)) (.map (Cc mv (S p) (.int .i64 (s.rows.length:Nat))))++[.row false [S p],.row false (strs s.lists++[S p])]) p kids) (AcX S1 p kids) kids.length ((BJ L 5 (H.length+1)),((H.set (L (.n 5)) .dead).set (L (.n 0)) (.box [.d (.bool s.further),.lsl (L (.n 2)) 1 0 s.above.length,.lsl (L (.n 3)) 1 0 s.paths.length,.lsl (L (.n 4)) 1 0 s.rows.length,.lsl (H.length+1) 1 0 (s.lists.length+1),.mp (L (.n 6)),.mp (L (.n 7))])).set (L (.n 7)) (.map (Cc mv (S p) (.int .i64 (s.rows.length:Nat))))++[.row false [S p],.row false (strs s.lists++[S p])])
   (by unfold YQ;rw[Ly.itk_zero];exact ⟨x1,Df.refl _ _ _,x3⟩) (fun k hk x hx=>T7 hk hx)
  refine ⟨(f kids.length).1,(f kids.length).2,Ctr.bodyI (M:=M0) Am Tryz.func97 rfl AcJ (fI _ (Adm _)).2.2.ok ?_,(fI _ (Adm _)).1,x2.trans (fI _ (Adm _)).2.1,(fI _ (Adm _)).2.2⟩;simp(disch:=(try simp only[Ab]);omega)only[Tryz.f97,hB,q0,q5,mv1,ks,v1,sl,Be,↓Aa,Ac,↓reduceIte,Qu,Qv];refine ⟨by rfl,?_⟩;refine Ak.frI 26388279066627 (α:=Nat) (fun k=>kids.length-k) (fun k=>[(45,.d (.int .i64 k))]) (fun k=>(f k).2) (fun k=>k<=kids.length) 0 (Aet _) ?_ ?_
  ·rw[f0];first
   | exact .slots (by simp[sA,kZ,Dg])
  intro k hkk;simp only[Bi,Adj,Adk];rcases Adf k kids.length with hlt | hge
  ·obtain ⟨mi,t1,t2⟩:=fT k hlt;obtain ⟨i1,i2,i3⟩:=fI k hkk;generalize hHk:(f k).2=Hk at *;generalize hLk:(f k).1=Lk at *;obtain ⟨mi',m1,m2,m3⟩:=i1.items;have emi:mi=mi':=(by rw[t1] at m1;cases m1;rfl)
   subst emi;have r0:=i1.box;have k0:Lk (.n 0)=L (.n 0):=(by rw[i2.n0,l1n])
   rw[k0] at r0;have z0:=i1.lt (.n 0) (by show 0<8+S1.rows.length;omega);rw[k0] at z0;have z6:=i1.lt (.n 6) (by show 6<8+S1.rows.length;omega);have y06:=i1.ne (a:=.n 0) (b:=.n 6) (by show 0<8+S1.rows.length;omega) (by show 6<8+S1.rows.length;omega) (by simp);rw[k0] at y06;have kk:=m2.ok;have g:=BM hlt;have hit:=Ly.itk_at S1 p kids k;have hil:((S1.itk p kids k).it p).length<=1000000000:=(by rw[hit,hS1i,Adi,Afr,Adp];omega)
   have hrl:(S1.itk p kids k).rows.length=s.rows.length:=(by show S1.rows.length=_;rw[hS1r]);generalize hkd:kids.getD k noN=kd at *;obtain ⟨ka,kb,kc,kl⟩:=kd;have v2:=ED (.sl 0 true []) mi (S p);rw[m3] at v2;by_cases he:(S1.itk p kids k).it p=[]
   ·rw[if_pos he] at v2;simp(disch:=(try simp only[Ab]);omega)only[hrl,r0,t1,kk,v2,g,nl,ndC,Be,↓Aa,Ac,↓reduceIte,Qu,Qw,Qz];obtain ⟨cf,hcf⟩:=DA [L (.n 0),Lk (.n 6),Hk.length,Hk.length+1,Hk.length+2] (by simp;omega);have c0:=hcf 0 _ rfl;have c1:=hcf 1 _ rfl;have c2:=hcf 2 _ rfl;have c3:=hcf 3 _ rfl;have c4:=hcf 4 _ rfl;refine ⟨by simp[cut],AR cf (by simp(disch:=omega)only[BC,A8,A7,Bv,and_self]) (by simp only[AeR,AeT,c0,c1,c2,c3,c4];rfl),k+1,hlt,by simp only;omega,.inl ⟨?_,by simp[Dg]⟩⟩;show (f (k+1)).2=_
    rw[t2];unfold HF;rw[if_pos he];simp[he,BQ,EG,ndC,cut,hS1r]
   rw[if_neg he] at v2;have zi:=i1.lt (.i p) he;have yi:=i1.item p he;have y0i:=i1.ne (a:=.n 0) (b:=.i p) (by show 0<8+S1.rows.length;omega) he (by simp);rw[k0] at y0i;have y6i:=i1.ne (a:=.n 6) (b:=.i p) (by show 6<8+S1.rows.length;omega) he (by simp);have el:=BU ((S1.itk p kids k).it p);simp(disch:=(try simp only[Ab]);omega)only[hrl,r0,t1,kk,v2,yi,el,g,nl,ndC,Be,↓Aa,Ac,↓reduceIte,Qu,Qw,Qz];obtain ⟨cf,hcf⟩:=DA [L (.n 0),Lk (.n 6),Lk (.i p),Hk.length,Hk.length+1,Hk.length+2] (by simp;omega);have c0:=hcf 0 _ rfl;have c1:=hcf 1 _ rfl;have c2:=hcf 2 _ rfl;have c3:=hcf 3 _ rfl;have c4:=hcf 4 _ rfl;have c5:=hcf 5 _ rfl;refine ⟨by simp[cut],AR cf (by simp(disch:=omega)only[BC,A8,A7,Bu,and_self]) (by simp only[AeR,AeT,c0,c1,c2,c3,c4,c5];rfl),k+1,hlt,by simp only;omega,.inl ⟨?_,by simp[Dg]⟩⟩;show (f (k+1)).2=_
   rw[t2];unfold HF;rw[if_neg he];simp[BQ,EG,ndC,cut,hS1r]
  obtain rfl:k=kids.length:=by omega
  simp(disch:=(try simp only[Ab]);omega)only[↓Aa,Ac];first
  | exact RetI.unit
 have e1:s.list p kids=({s with sv:=CO s.sv p s.rows.length}:Ly).itk p kids kids.length:=by unfold Ly.list Ly.itk;rw[if_neg hA,if_neg hB,Adq]
 rw[e1];have l1n:L (.n 0)=L (.n 0):=rfl;have x1:B1 L {s with sv:=CO s.sv p s.rows.length} (H.set (L (.n 7)) (.map (Cc mv (S p) (.int .i64 (s.rows.length:Nat))))):=h.sev' hr (by simp) ⟨mv,mv1,BS l7⟩ fun a ha a7=>As (h.ne (ok 7 (by omega)) ha (Ne.symm a7));have x2:Df L s H L {s with sv:=CO s.sv p s.rows.length} (H.set (L (.n 7)) (.map (Cc mv (S p) (.int .i64 (s.rows.length:Nat))))) :=
  ⟨rfl,rfl,by simp,fun i hi hr=>As (hr _ (ok 7 (by omega))),fun a ha=>.inl ⟨a,Ln (s':={s with sv:=CO s.sv p s.rows.length}) rfl rfl ha,rfl⟩⟩
 have x3:NoX (H.set (L (.n 7)) (.map (Cc mv (S p) (.int .i64 (s.rows.length:Nat))))):=h0.set _ (by simp);generalize hS1:({s with sv:=CO s.sv p s.rows.length}:Ly)=S1 at *;have hS1r:S1.rows=s.rows:=by rw[<-hS1]
 have hS1i:S1.it=s.it:=by rw[<-hS1]
 obtain ⟨f,f0,fI,fT⟩:=Le (YQ L S1 (H.set (L (.n 7)) (.map (Cc mv (S p) (.int .i64 (s.rows.length:Nat))))) p kids) (AcX S1 p kids) kids.length (L,H.set (L (.n 7)) (.map (Cc mv (S p) (.int .i64 (s.rows.length:Nat)))))
  (by unfold YQ;rw[Ly.itk_zero];exact ⟨x1,Df.refl _ _ _,x3⟩) (fun k hk x hx=>T7 hk hx)
 refine ⟨(f kids.length).1,(f kids.length).2,Ctr.bodyI (M:=M0) Am Tryz.func97 rfl AcJ (fI _ (Adm _)).2.2.ok ?_,(fI _ (Adm _)).1,x2.trans (fI _ (Adm _)).2.1,(fI _ (Adm _)).2.2⟩;simp(disch:=(try simp only[Ab]);omega)only[Tryz.f97,q0,mv1,ks,v1,↓Aa,Ac,↓reduceIte,Qu,Qv];refine ⟨by rfl,?_⟩;refine Ak.frI 26388279066627 (α:=Nat) (fun k=>kids.length-k) (fun k=>[(45,.d (.int .i64 k))]) (fun k=>(f k).2) (fun k=>k<=kids.length) 0 (Aet _) ?_ ?_
 ·rw[f0];first
  | exact .slots (by simp[sA,kZ,Dg])
 intro k hkk;simp only[Bi,Adj,Adk];rcases Adf k kids.length with hlt | hge
 ·obtain ⟨mi,t1,t2⟩:=fT k hlt;obtain ⟨i1,i2,i3⟩:=fI k hkk;generalize hHk:(f k).2=Hk at *;generalize hLk:(f k).1=Lk at *;obtain ⟨mi',m1,m2,m3⟩:=i1.items;have emi:mi=mi':=by rw[t1] at m1;cases m1;rfl
  subst emi;have r0:=i1.box;have k0:Lk (.n 0)=L (.n 0):=by rw[i2.n0,l1n]
  rw[k0] at r0;have z0:=i1.lt (.n 0) (by show 0<8+S1.rows.length;omega);rw[k0] at z0;have z6:=i1.lt (.n 6) (by show 6<8+S1.rows.length;omega);have y06:=i1.ne (a:=.n 0) (b:=.n 6) (by show 0<8+S1.rows.length;omega) (by show 6<8+S1.rows.length;omega) (by simp);rw[k0] at y06;have kk:=m2.ok;have g:=BM hlt;have hit:=Ly.itk_at S1 p kids k;have hil:((S1.itk p kids k).it p).length<=1000000000:=by rw[hit,hS1i,Adi,Afr,Adp];omega
  have hrl:(S1.itk p kids k).rows.length=s.rows.length:=by show S1.rows.length=_;rw[hS1r]
  generalize hkd:kids.getD k noN=kd at *;obtain ⟨ka,kb,kc,kl⟩:=kd;have v2:=ED (.sl 0 true []) mi (S p);rw[m3] at v2;by_cases he:(S1.itk p kids k).it p=[]
  ·rw[if_pos he] at v2;simp(disch:=(try simp only[Ab]);omega)only[hrl,r0,t1,kk,v2,g,nl,ndC,Be,↓Aa,Ac,↓reduceIte,Qu,Qw,Qz];obtain ⟨cf,hcf⟩:=DA [L (.n 0),Lk (.n 6),Hk.length,Hk.length+1,Hk.length+2] (by simp;omega);have c0:=hcf 0 _ rfl;have c1:=hcf 1 _ rfl;have c2:=hcf 2 _ rfl;have c3:=hcf 3 _ rfl;have c4:=hcf 4 _ rfl;refine ⟨by simp[cut],AR cf (by simp(disch:=omega)only[BC,A8,A7,Bv,and_self]) (by simp only[AeR,AeT,c0,c1,c2,c3,c4];rfl),k+1,hlt,by simp only;omega,.inl ⟨?_,by simp[Dg]⟩⟩;show (f (k+1)).2=_
   rw[t2];unfold HF;rw[if_pos he];simp[he,BQ,EG,ndC,cut,hS1r]
  rw[if_neg he] at v2;have zi:=i1.lt (.i p) he;have yi:=i1.item p he;have y0i:=i1.ne (a:=.n 0) (b:=.i p) (by show 0<8+S1.rows.length;omega) he (by simp);rw[k0] at y0i;have y6i:=i1.ne (a:=.n 6) (b:=.i p) (by show 6<8+S1.rows.length;omega) he (by simp);have el:=BU ((S1.itk p kids k).it p);simp(disch:=(try simp only[Ab]);omega)only[hrl,r0,t1,kk,v2,yi,el,g,nl,ndC,Be,↓Aa,Ac,↓reduceIte,Qu,Qw,Qz];obtain ⟨cf,hcf⟩:=DA [L (.n 0),Lk (.n 6),Lk (.i p),Hk.length,Hk.length+1,Hk.length+2] (by simp;omega);have c0:=hcf 0 _ rfl;have c1:=hcf 1 _ rfl;have c2:=hcf 2 _ rfl;have c3:=hcf 3 _ rfl;have c4:=hcf 4 _ rfl;have c5:=hcf 5 _ rfl;refine ⟨by simp[cut],AR cf (by simp(disch:=omega)only[BC,A8,A7,Bu,and_self]) (by simp only[AeR,AeT,c0,c1,c2,c3,c4,c5];rfl),k+1,hlt,by simp only;omega,.inl ⟨?_,by simp[Dg]⟩⟩;show (f (k+1)).2=_
  rw[t2];unfold HF;rw[if_neg he];simp[BQ,EG,ndC,cut,hS1r]
 obtain rfl:k=kids.length:=by omega
 simp(disch:=(try simp only[Ab]);omega)only[↓Aa,Ac];first
 | exact RetI.unit
mutual
def nsz:Nd->Nat
 | .mk _ _ _ l=>1+Cf l
def Cf:List Nd->Nat
 | []=>0
 | n::r=>nsz n+Cf r
end
def Dx (n:Nd):nsz n=1+Cf n.kids:=by cases n;rfl
def DQ (n:Nd):0<nsz n:=by rw[Dx];omega
def GL:∀ {l:List Nd} {n:Nd},n∈l->nsz n<=Cf l
 | [],n,h=>by cases h
 | x::r,n,h=>by
   rcases Ada.1 h with rfl | h
   ·rw[Cf];omega
   have:=GL h;rw[Cf];omega
def DG:∀ l:List Nd,l.length<=Cf l
 | []=>Adm _
 | x::r=>by have:=DG r;have:=DQ x;rw[Cf,Adl];omega
mutual
def GJ:Nd->Prop
 | .mk k _ ks l=>(k=6->ks.length=l.length)/\(∀ s∈ks,s.length<=100000)/\NH l
def NH:List Nd->Prop
 | []=>True
 | n::r=>GJ n/\NH r
end
def Ty (n:Nd):GJ n=((n.kind=6->n.keys.length=n.kids.length)/\(∀ s∈n.keys,s.length<=100000)/\NH n.kids):=by cases n;rfl
def JB:∀ {l:List Nd},NH l->∀ n∈l,GJ n
 | [],_,n,h=>by cases h
 | x::r,h,n,hn=>by
   rcases Ada.1 hn with rfl | hn
   ·exact h.1
   exact JB h.2 n hn
def partO (n:Nd) (path:List UInt8):List Pt:=if n.kind=6 then Dw n (path++[46]) else if n.kind=5 then [.l path n.kids] else [.c path (AN n)]
def PL:∀ (l:List Nd) (front:List UInt8) (ks:List (List UInt8)),ks.length=l.length->Gs l front ks=(Afh l.length).flatMap fun i=>partO (l.getD i noN) (front++ks.getD i [])
 | [],front,ks,h=>rfl
 | n::r,front,ks,h=>by
   cases ks with
   | nil=>simp at h
   | cons k kr =>have ih:=PL r front kr (by simpa using h);rw[EY,Adl,List.range_succ_eq_map,Afk,List.flatMap_map,List.tail_cons,ih];rfl
def Ly.kid (s:Ly) (l:List Nd) (front:List UInt8) (ks:List (List UInt8)) (k:Nat):Ly:=s.parts ((Afh k).flatMap fun i=>partO (l.getD i noN) (front++ks.getD i []))
def Ly.kid_zero (s:Ly) (l:List Nd) (front:List UInt8) (ks:List (List UInt8)):s.kid l front ks 0=s:=rfl
def Ly.kid_succ (s:Ly) (l:List Nd) (front:List UInt8) (ks:List (List UInt8)) (k:Nat):s.kid l front ks (k+1)=(s.kid l front ks k).parts (partO (l.getD k noN) (front++ks.getD k [])):=by unfold Ly.kid;rw[List.range_succ,List.flatMap_append,Ly.parts_app];simp
def Ly.kid_all (s:Ly) (l:List Nd) (front:List UInt8) (ks:List (List UInt8)) (h:ks.length=l.length):s.kid l front ks l.length=s.parts (Gs l front ks):=by rw[PL l front ks h];rfl
structure LyB (s:Ly) (B:Nat):Prop where
 paths:s.paths.length<=B
 lists:s.lists.length<=B
 rows:s.rows.length<=1000000000
 it:∀ p,(s.it p).length<=B
def LyB.single {s:Ly} {B:Nat} (h:LyB s B) (p:List UInt8) (x:Cel):LyB (s.single p x) (B+1):=by
 refine ⟨?_,AfD h.lists,by rw[s.single_rows];exact h.rows,fun q=>AfD (h.it q)⟩;have:=h.paths;show (if p∈s.paths then s.paths else s.paths++[p]).length<=B+1
 split;·omega
 simp;omega
def LyB.list {s:Ly} {B:Nat} (h:LyB s B) (p:List UInt8) (kids:List Nd):LyB (s.list p kids) (B+1+kids.length):=by
 have h1:=h.lists;have h2:=h.paths;unfold Ly.list;split;·exact ⟨by omega,by omega,h.rows,fun q=>by have:=h.it q;omega⟩
 refine ⟨by show s.paths.length<=_;omega,?_,h.rows,fun q=>?_⟩
 ·show (if s.sv p=0 then s.lists++[p] else s.lists).length<=_
  split;·simp;omega
  omega
 show (CO s.it p (s.it p++kids.map fun k=>((s.rows.length:Int)-1,k)) q).length<=_
 by_cases e:q=p;·subst e;rw[Dc,Adi,Afr];have:=h.it q;omega
 rw[CN _ _ e];have:=h.it q;omega
def LyB.mono {s:Ly} {B C:Nat} (h:LyB s B) (hc:B<=C):LyB s C:=⟨Afe h.paths hc,Afe h.lists hc,h.rows,fun p=>Afe (h.it p) hc⟩
mutual
def LyB.parts:∀ (n:Nd) (front:List UInt8) {s:Ly} {B:Nat},LyB s B->LyB (s.parts (Dw n front)) (B+nsz n)
 | .mk k t ks l,front,s,B,h=>by have:=LyB.partsL l front ks h;exact this.mono (by rw[nsz];omega)
def LyB.partsL:∀ (l:List Nd) (front:List UInt8) (ks:List (List UInt8)) {s:Ly} {B:Nat},LyB s B->LyB (s.parts (Gs l front ks)) (B+Cf l)
 | [],front,ks,s,B,h=>h
 | n::r,front,ks,s,B,h=>by
   rw[EY,Ly.parts_app];have h1:LyB (s.parts (if n.kind=6 then Dw n (front++ks.headD []++[46]) else if n.kind=5 then [.l (front++ks.headD []) n.kids] else [.c (front++ks.headD []) (AN n)])) (B+nsz n):=by
    split;·exact LyB.parts n _ h
    split;·rw[Ly.parts_one];have:=DG n.kids;have e:=Dx n;exact (h.list _ n.kids).mono (by omega)
    rw[Ly.parts_one];have:=DQ n;exact (h.single _ _).mono (by omega)
   have h2:=LyB.partsL r front ks.tail h1;exact h2.mono (by rw[Cf];omega)
end
def LyB.partO {s:Ly} {B:Nat} (h:LyB s B) (n:Nd) (path:List UInt8):LyB (s.parts (partO n path)) (B+nsz n):=by
 unfold Go.Proofs.YtmidaophnbdcdaaGreatDoor.partO;split;·exact LyB.parts n _ h
 split;·rw[Ly.parts_one];have:=DG n.kids;have e:=Dx n;exact (h.list _ n.kids).mono (by omega)
 rw[Ly.parts_one];have:=DQ n;exact (h.single _ _).mono (by omega)
def TW (l:List Nd) (k:Nat):Nat:=Cf (l.take k)
def Lq {l:List Nd} {k:Nat} (h:k<l.length):TW l (k+1)=TW l k+nsz (l.getD k noN):=by
 have app:∀ (a b:List Nd),Cf (a++b)=Cf a+Cf b:=by
  intro a b;induction a with
  | nil=>simp[Cf]
  | cons x r ih=>simp only[Afm,Cf,ih];omega
 unfold TW;rw[AeK,AaZ h,app,Aa0,AaZ h];simp[Cf]
def WX (l:List Nd):∀ k,TW l k<=Cf l:=by
 intro k;have app:∀ (a b:List Nd),Cf (a++b)=Cf a+Cf b:=by
  intro a b;induction a with
  | nil=>simp[Cf]
  | cons x r ih=>simp only[Afm,Cf,ih];omega
 have:=app (l.take k) (l.drop k);rw[List.take_append_drop] at this;unfold TW;omega
def LyB.kid {s:Ly} {B:Nat} (h:LyB s B) (l:List Nd) (front:List UInt8) (ks:List (List UInt8)):∀ k,k<=l.length->LyB (s.kid l front ks k) (B+TW l k)
 | 0,_=>by rw[Ly.kid_zero];exact h.mono (by omega)
 | k+1,hk=>by rw[Ly.kid_succ,Lq (by omega),<-AeU];exact (LyB.kid h l front ks k (by omega)).partO _ _
def Ly.kid_rows (s:Ly) (l:List Nd) (front:List UInt8) (ks:List (List UInt8)) (k:Nat):(s.kid l front ks k).rows.length=s.rows.length:=s.parts_rows _
end
section
open Go Go.Proofs Go.Abs
variable {G:Ah}
def H8:List UInt8:=[116,114,117,101]
def Iw:List UInt8:=[102,97,108,115,101]
def Cw (k:Int) (t:List UInt8):Bool:=if k=2 then decide (t=H8\/t=Iw) else if k=3 then Num.decOk t else if k=4 then AP t else decide (t=[])
def R3 (hT:HT G) (hG:Num.HG G) (n:Nd) (hs:n.text.length<=1000000000):Ctr TP G 73 [.d (NdD n)] [] (.d (.bool (Cw n.kind n.text))) []:=by
 obtain ⟨k,t,ks,l⟩:=n;obtain ⟨r,hr⟩:∃ r,r=Cw k t:=⟨_,rfl⟩;show Ctr _ _ _ _ _ (.d (.bool (Cw k t))) _
 replace hs:t.length<=1000000000:=hs;rw[<-hr];unfold Cw at hr;refine Ctr.pure (M:=M0) Am Tryz.func73 rfl go73 ?_;by_cases k2:k=2
 ·subst k2;rw[if_pos rfl] at hr;simp(disch:=(try simp only[Ab]);omega)only[Af,ndC,Tryz.f73,↓Aa,Ac,↓reduceIte,↓Qe,Qu,Qv];rw[hr];unfold H8 Iw;refine ⟨fun h1=>?_,fun h1=>?_⟩;·exact decide_eq_decide.2 ⟨fun h2=>.inr h2,fun h2=>h2.resolve_left h1⟩
  exact (decide_eq_true (Or.inl h1)).symm
 rw[if_neg k2] at hr;by_cases k3:k=3
 ·subst k3;rw[if_pos rfl] at hr;subst hr;simp(disch:=(try simp only[Ab]);omega)only[ndC,Tryz.f73,↓Aa,Ac,↓reduceIte,Qu,Qv];refine Ad.pure (Num.decimalF_spec hG t (by omega)) ?_;cases Num.decOk t;·simp(disch:=(try simp only[Ab]);omega)only[Num.Zf,↓Aa,Ac,↓reduceIte,↓Qe,Qu]
  simp(disch:=(try simp only[Ab]);omega)only[Num.Frac,↓Aa,Ac,↓reduceIte,↓Qe,Qu]
 rw[if_neg k3] at hr;by_cases k4:k=4;·subst k4;rw[if_pos rfl] at hr;subst hr;simp(disch:=(try simp only[Ab]);omega)only[ndC,Tryz.f73,↓Aa,Ac,↓reduceIte,Qu,Qv];refine Ad.pure (N3 hT t hs) ?_;simp only[↓Aa,Ac,↓Qe]
 rw[if_neg k4] at hr;simp(disch:=(try simp only[Ab]);omega)only[Af,ndC,k2,k3,k4,Tryz.f73,↓Aa,Ac,↓reduceIte,↓Qe,Qu,Qv];exact hr.symm
end
namespace Dst
def c1 (a b:Int):Nat:=if a=b then 0 else 1
abbrev bl (x y:List UInt8):Bool:=Op.bytesLess x y
def bl_irrefl:∀ x:List UInt8,bl x x=false
 | []=>rfl
 | a::x=>by
   show (decide (a<a) || (a == a && bl x x))=false
   rw[bl_irrefl x];simp
def Ac4 {a b:UInt8}:a<b↔a.toNat<b.toNat:=UInt8.lt_iff_toNat_lt
def SO {a b:UInt8} {x y:List UInt8}:bl (a::x) (b::y)=true↔a.toNat<b.toNat\/(a=b/\bl x y=true):=by
 show (decide (a<b) || (a == b && bl x y))=true↔_
 simp[Ac4]
def KO:∀ {x y z:List UInt8},bl x y=true->bl y z=true->bl x z=true
 | [],_::_,[],_,h=>by cases h
 | _::_,_::_,[],_,h=>by cases h
 | [],[],_,h,_=>by cases h
 | _::_,[],_,h,_=>by cases h
 | [],_::_,_::_,_,_=>rfl
 | a::x,b::y,c::z,h1,h2=>by
   rw[SO] at *;rcases h1 with h1 | ⟨rfl,h1⟩
   ·rcases h2 with h2 | ⟨rfl,h2⟩
    ·left;omega
    exact .inl h1
   rcases h2 with h2 | ⟨rfl,h2⟩
   ·exact .inl h2
   exact .inr ⟨rfl,KO h1 h2⟩
def KP:∀ {x y:List UInt8},bl x y=false->bl y x=false->x=y
 | [],[],_,_=>rfl
 | [],_::_,h,_=>by cases h
 | _::_,[],_,h=>by cases h
 | a::x,b::y,h1,h2=>by have g1:¬(bl (a::x) (b::y)=true):=(by rw[h1];decide);have g2:¬(bl (b::y) (a::x)=true):=(by rw[h2];decide);rw[SO] at g1 g2;have e:a=b:=UInt8.toNat_inj.1 (by omega);subst e;have:x=y:=KP (by cases e:bl x y<;>simp_all) (by cases e:bl y x<;>simp_all);rw[this]
def Asc (l:List (List UInt8)):Prop:=l.Pairwise fun x y=>bl x y=true
def Xf:∀ {l m:List (List UInt8)},Asc l->Asc m->(∀ s,s∈l↔s∈m)->l=m
 | [],[],_,_,_=>rfl
 | [],y::m,_,_,h=>by have:=(h y).2 (by simp);cases this
 | x::l,[],_,_,h=>by have:=(h x).1 (by simp);cases this
 | x::l,y::m,h1,h2,h=>by
   obtain ⟨p1,p2⟩:=Adn.1 h1;obtain ⟨q1,q2⟩:=Adn.1 h2;have e:x=y:=by
    rcases Ada.1 ((h x).1 (by simp)) with e | e
    ·exact e
    rcases Ada.1 ((h y).2 (by simp)) with e' | e'
    ·exact e'.symm
    have:=KO (p1 y e') (q1 x e);rw[bl_irrefl] at this;cases this
   subst e;rw[Xf p2 q2 fun s=>?_];constructor
   ·intro hs;rcases Ada.1 ((h s).1 (by simp[hs])) with e | e
    ·subst e;have:=p1 s hs;rw[bl_irrefl] at this;cases this
    exact e
   intro hs;rcases Ada.1 ((h s).2 (by simp[hs])) with e | e
   ·subst e;have:=q1 s hs;rw[bl_irrefl] at this;cases this
   exact e
def Jt (s:List UInt8):List (List UInt8)->Nat
 | []=>0
 | x::l=>if bl x s=true then Jt s l+1 else 0
def Og (l:List (List UInt8)) (s:List UInt8):List (List UInt8) :=
 if Jt s l<l.length/\l.getD (Jt s l) []=s then l else l.take (Jt s l)++s::l.drop (Jt s l)
def PZ (x:List UInt8) (l:List (List UInt8)) (s:List UInt8):Og (x::l) s=if bl x s=true then x::Og l s else if x=s then x::l else s::x::l:=by
 unfold Og;rw[Jt];by_cases h:bl x s=true
 ·rw[if_pos h,if_pos h];by_cases h2:Jt s l<l.length/\l.getD (Jt s l) []=s;·rw[if_pos h2,if_pos (by simpa using h2)]
  rw[if_neg h2,if_neg (by simpa using h2)];simp
 rw[if_neg h,if_neg h];simp
def N6 (s t:List UInt8):∀ l:List (List UInt8),t∈Og l s↔t=s\/t∈l
 | []=>by simp[Og,Jt]
 | x::l=>by
   have ih:=N6 s t l;rw[PZ];split;·simp only[Ada,ih];exact or_left_comm
   split;·rename_i e;subst e;simp
   simp
def UF (s:List UInt8):∀ {l:List (List UInt8)},Asc l->Asc (Og l s)
 | [],_=>by simp[Og,Jt,Asc]
 | x::l,h=>by
   obtain ⟨p1,p2⟩:=Adn.1 h;have ih:=UF s (l:=l) p2;rw[PZ];split
   ·rename_i hx;refine Adn.2 ⟨fun t ht=>?_,ih⟩;rcases (N6 s t l).1 ht with rfl | ht
    ·exact hx
    exact p1 t ht
   rename_i hx;split;·exact h
   rename_i hne;have hs:bl s x=true:=by
    cases e:bl s x with
    | true=>rfl
    | false=>exact absurd (KP (by simpa using hx) e) hne
   refine Adn.2 ⟨fun t ht=>?_,h⟩;rcases Ada.1 ht with rfl | ht
   ·exact hs
   exact KO hs (p1 t ht)
def setL (l:List (List UInt8)):List (List UInt8):=l.foldl Og []
def JN:∀ (l m:List (List UInt8)),Asc m->Asc (l.foldl Og m)/\∀ t,t∈l.foldl Og m↔t∈l\/t∈m
 | [],m,h=>⟨h,fun t=>by simp⟩
 | s::l,m,h=>by
   obtain ⟨h1,h2⟩:=JN l (Og m s) (UF s h);refine ⟨h1,fun t=>?_⟩;rw[List.foldl_cons,h2 t,N6,Ada];constructor
   ·rintro (h | h | h);·exact .inl (.inr h)
    ·exact .inl (.inl h)
    exact .inr h
   rintro ((h | h) | h);·exact .inr (.inl h)
   ·exact .inl h
   exact .inr (.inr h)
def asc_setL (l:List (List UInt8)):Asc (setL l):=(JN l [] List.Pairwise.nil).1
def mem_setL {l:List (List UInt8)} {t:List UInt8}:t∈setL l↔t∈l:=by rw[setL,(JN l [] List.Pairwise.nil).2];simp
def dedup:List (List UInt8)->List (List UInt8)
 | x::y::l=>if x=y then dedup (y::l) else x::dedup (y::l)
 | l=>l
def Lr {t:List UInt8}:∀ {l:List (List UInt8)},t∈dedup l↔t∈l
 | []=>by simp[dedup]
 | [x]=>by simp[dedup]
 | x::y::l=>by
   have ih:=Lr (t:=t) (l:=y::l);rw[dedup];split;·rename_i e;subst e;rw[ih];simp
   rw[Ada,ih,<-Ada]
def Q9:∀ {l:List (List UInt8)},l.Pairwise (fun x y=>bl y x=false)->Asc (dedup l)
 | [],_=>by simp[dedup,Asc]
 | [x],_=>by simp[dedup,Asc]
 | x::y::l,h=>by
   obtain ⟨p1,p2⟩:=Adn.1 h;have ih:=Q9 (l:=y::l) p2;rw[dedup];split;·exact ih
   rename_i hne;have hxy:bl x y=true:=by
    cases e:bl x y with
    | true=>rfl
    | false=>exact absurd (KP e (p1 y (by simp))) hne
   refine Adn.2 ⟨fun t ht=>?_,ih⟩;rcases Ada.1 (Lr.1 ht) with rfl | ht
   ·exact hxy
   have h2:=(Adn.1 p2).1 t ht;cases e:bl y t with
   | true=>exact KO hxy e
   | false=>rw[KP e h2] at hxy;exact hxy
def Vk {l m:List (List UInt8)} (h:m.Pairwise (fun x y=>bl y x=false)) (hp:∀ t,t∈m↔t∈l):dedup m=setL l :=
 Xf (Q9 h) (asc_setL l) fun t=>by rw[Lr,mem_setL,hp]
end Dst
namespace Dst
open Go.Abs
def wordsL:List (List UInt8):=[[97,110,110],[98,111,98],[99,121],[66,101,114,110],[85,108,109],[78,101,119,32,89,111,114,107],[121,111,114,107,32,110,101,119],[97,45,49],[98,45,50,50],[120],[122,195,188,114,105,99,104],[65,110,110],[98,111],[99,97,116],[98,97,116],[114,97,116]]
end Dst
namespace Dst
open Go Go.Proofs Go.Abs
variable {G:Ah}
abbrev M0:Ci:=fun _=>false
abbrev S (l:List UInt8):D:=.str (bs l)
def cells_nums {l:List UInt8}:(l.map fun b=>D.int .u8 (b.toNat:Int))=AF .u8 (BO l):=by simp[AF,BO]
def strs (l:List (List UInt8)):List D:=l.map fun s=>S s
def strs_length {l:List (List UInt8)}:(strs l).length=l.length:=by simp[strs]
def strs_unf {l:List (List UInt8)}:(strs l).map unf0=strs l:=by simp[strs,unf0]
def strs_getD {l:List (List UInt8)} {i:Nat} (h:i<l.length):(strs l).getD i .nilp=S (l.getD i []):=by simp[strs,Aa0,h]
abbrev Ss (l:List (List UInt8)) (full:Bool):D:=.sl l.length full (strs l)
def mem_take_succ {l:List (List UInt8)} {i:Nat} {s:List UInt8} (h:i<l.length):s∈l.take (i+1)↔s∈l.take i\/l.getD i []=s:=by rw[AeK,AaZ h,Aa0,AaZ h];simp only[Option.toList_some,AfL,List.mem_singleton,AfI];exact or_congr_right eq_comm
def has_spec (l:List (List UInt8)) (full:Bool) (s:List UInt8) (hl:l.length<=1000000):Ctr TP G 37 [.d (Ss l full),.d (S s)] [] (.d (.bool (decide (s∈l)))) []:=by
 refine Ctr.pure (M:=M0) Am Tryz.func37 rfl go37 ?_;simp only[Tryz.f37,↓Aa,Ac,Qu,Qv];refine Ak.fr 386 (α:=Nat) (fun i=>l.length-i) (fun i=>[(9,.d (.int .i64 i))]) (fun _=>[]) (fun i=>i<=l.length/\s∉l.take i) 0 ⟨Aet _,by simp⟩ ?_ ?_;·exact ⟨[],rfl,by simp,by simp[sA,kZ,SW,AW],by simp[HW]⟩
 rintro i ⟨h1,h2⟩;have sl:=@strs_length l;simp only[Bi,Adj,Adk];rcases Adf i l.length with h | h
 ·have g1:=strs_getD h;have hm:=@mem_take_succ l i s h;by_cases he:l.getD i []=s
  ·have hin:s∈l:=Ae6 (hm.2 (.inr he));rw[decide_eq_true hin];rw[he] at g1;simp(disch:=(try simp only[Ab]);omega)only[Af,sl,g1,beq_self_eq_true,↓Aa,Ac,↓reduceIte,↓Qe];try rfl
  have hne:(l.getD i [] == s)=false:=by simpa using he
  simp(disch:=(try simp only[Ab]);omega)only[Af,sl,g1,hne,↓Aa,Ac,↓reduceIte];exact ⟨i+1,⟨h,fun q=>(hm.1 q).elim h2 he⟩,by simp only;omega,⟨[],rfl,by simp,by simp[SW,AW],by simp[HW]⟩⟩
 obtain rfl:i=l.length:=by omega
 rw[Adq] at h2;rw[decide_eq_false h2];simp(disch:=(try simp only[Ab]);omega)only[↓Aa,Ac,↓Qe];try rfl
def Y9 {l:List (List UInt8)} {i:Nat} {s:List UInt8}:(strs l).set i (S s)=strs (l.set i s):=by simp[strs,List.map_set]
def U3 {n:Nat}:AZ [.str .empty] n=strs (AfO n []):=by rw[Nf,strs,List.map_replicate];rfl
def strs_app {l m:List (List UInt8)} {k:Nat}:(strs l).take k++strs m=strs (l.take k++m):=by simp[strs,List.map_take]
abbrev DiceM (t:List Int) (k:Nat):Ae:=.box [.d (.sl t.length false (AF .u8 t)),.d (.int .i64 (min k t.length:Nat))]
def OkM (t:List Int):Prop:=t.length<=300/\∀ i,0<=t.getD i 0/\t.getD i 0<=255
def new_spec (t:List Int) (ht:t.length<=9223372036854775807):Ctr TP G 8 [.d (.sl t.length false (AF .u8 t))] [] (.ptr 0 0) [DiceM (t.take 300) 0]:=by
 refine Ctr.body (M:=M0) Am Tryz.func8 rfl go8 ?_;rcases Adf 300 t.length with h | h
 ·have e:(t.take 300).length=300:=by rw[Adp];omega
  simp(disch:=(try simp only[Ab]);omega)only[Tryz.f8,↓Aa,Ac,↓reduceIte,Qu,Qv,QF];exact ⟨[some 0],rfl,by simp,by simp[HW,BW,SW,AW];omega,.inl (by simp[AW])⟩
 have e:t.take 300=t:=Afn h;simp(disch:=(try simp only[Ab]);omega)only[Tryz.f8,e,↓Aa,Ac,↓reduceIte,Qu,Qv];exact ⟨[some 0],rfl,by simp,by simp[HW,BW,SW,AW],.inl (by simp[AW])⟩
def pk (t:List Int) (k:Nat) (n:Int):Int:=t.getD k 0 % n
def pk_range {t:List Int} {k:Nat} {n:Int} (h:0<n):0<=pk t k n/\pk t k n<n:=⟨Afp _ (by omega),Aff _ h⟩
def pk_nat (t:List Int) (k:Nat) (n:Int) (h:0<n):∃ c:Nat,pk t k n=c/\(c:Int)<n:=⟨(pk t k n).toNat,by have:=@pk_range t k n h;omega,by have:=@pk_range t k n h;omega⟩
def pick_spec (t:List Int) (k:Nat) (n:Int) (ht:OkM t) (h0:0<n) (h1:n<=1000) :
  Ctr TP G 25 [.ptr 0 0,.d (.int .i64 n)] [DiceM t k] (.d (.int .i64 (pk t k n))) [DiceM t (k+1)]:=by
 obtain ⟨ht,htt⟩:=ht;refine Ctr.body (M:=M0) Am Tryz.func25 rfl go25 ?_;rcases Adf k t.length with h | h
 ·have e1:min k t.length=k:=by omega
  have e2:min (k+1) t.length=k+1:=by omega
  obtain ⟨b1,b2⟩:=htt k;have e3:(t.getD k 0).tmod n=pk t k n:=Int.tmod_eq_emod_of_nonneg b1;simp only[e1,e2,DiceM];simp(disch:=(try simp only[Ab]);omega)only[Tryz.f25,e3,↓Aa,Ac,↓reduceIte,Qu,Qv];refine ⟨by rfl,by rfl,?_⟩;exact ⟨[some 0],rfl,by simp,by simp[HW,BW,SW,AW],.inl (by simp[AW])⟩
 have e1:min k t.length=t.length:=by omega
 have e2:min (k+1) t.length=t.length:=by omega
 have e3:pk t k n=0:=by rw[pk,Aa0,List.getElem?_eq_none h];simp
 simp only[e1,e2,e3,DiceM];simp(disch:=(try simp only[Ab]);omega)only[Tryz.f25,↓Aa,Ac,↓reduceIte,Qu,Qv];refine ⟨by rfl,?_⟩;exact ⟨[some 0],rfl,by simp,by simp[HW,BW,SW,AW],.inl (by simp[AW])⟩
def words_spec:Ctr TP G 52 [] [] (.d (Ss wordsL false)) []:=by refine Ctr.pure (M:=M0) Am Tryz.func52 rfl go52 ?_;simp(disch:=(try simp only[Ab]);omega)only[Tryz.f52,↓Aa,Ac,↓reduceIte,↓Qe,Qu,Qz];try rfl
def mmod_spec (n m:Int) (hn1:-9223372036854775808<=n) (hn2:n<=9223372036854775807) (h0:0<m) (h1:m<4611686018427387904) :
  Ctr TP G 12 [.d (.int .i64 n),.d (.int .i64 m)] [] (.d (.int .i64 (n % m))) []:=by
 have e:=AfF (a:=n) (b:=m);have p1:=Afp n (show m≠0 by omega);have p2:=Aff n h0;have c0:-m<n.tmod m/\n.tmod m<m:=⟨Afy n h0,Afz n h0⟩;have hh:(n.tmod m<0->n.tmod m+m=n % m)/\(¬n.tmod m<0->n.tmod m=n % m):=by
  rw[e];split;·exact ⟨fun h=>by omega,fun _=>by omega⟩
  exact ⟨fun h=>by omega,fun h=>by omega⟩
 clear e;refine Ctr.pure (M:=M0) Am Tryz.func12 rfl go12 ?_;simp(disch:=(try simp only[Ab]);omega)only[Tryz.f12,↓Aa,Ac,↓Qe,Qu,Qv]
end Dst
namespace Dst
open Go Go.Proofs Go.Abs Go.RowKit Go.Sort Go.Shelf
def AcC {h:Aj} {v:Value} {x:List UInt8} (r:RD h v (S x)):v=encStr x:=by
 cases r with
 | str s=>rfl
def strs_get {l:List (List UInt8)} {i:Nat} {x:D} (h:(strs l)[i]?=some x):∃ y,l[i]?=some y/\x=S y:=by
 simp only[strs,AfC] at h;cases hl:l[i]? with
 | none=>simp[hl] at h
 | some y=>simp[hl] at h;exact ⟨y,rfl,h.symm⟩
def XC {l:List (List UInt8)} {i:Nat} (h:i<l.length):(strs l)[i]?=some (S l[i]):=by simp[strs,AaZ h]
def Zb {P:Program} {G:Ah} {f:FuncId} (hg:Ao P f=true)
  (hs:∀ (blk off cap:Nat) (ss:List (List UInt8)) (w:World),Holds encStr w blk off ss.toArray->blk<w.heap.size->ss.length<4611686018427387904 ->
   Calls P f #[.slice (some ⟨blk,off,none⟩) ss.length cap] w fun e w'=>e=.returned (.tuple #[])/\∃ n os,w'=grow (putRow encStr (Sort.ahead w n) blk off (ss.mergeSort fun x y=>decide (x<=y)).toArray) os)
  (hn:∀ (p:Option Addr) (cap:Nat) (w:World),Calls P f #[.slice p 0 cap] w fun e w'=>e=.returned (.tuple #[])/\w'=w)
  (l:List (List UInt8)) (hl:l.length<=100000):Ctr P G f [.lsl 0 1 0 l.length] [.row false (strs l)] .undef [.row false (strs (l.mergeSort fun x y=>decide (x<=y)))]:=by
 refine ⟨hg,fun h ρ w vs s r=>?_⟩;obtain ⟨v,rfl,hv⟩:=r.inv1;have hb:=s.blk 0 _ rfl;rcases Nat.eq_zero_or_pos l.length with h0 | h0
 ·obtain rfl:l=[]:=List.eq_nil_of_length_eq_zero h0;have key:∃ p cap,v=.slice p 0 cap:=by
   cases hv with
   | lsl0 base=>exact ⟨_,_,rfl⟩
   | lsl b sz off n cap g S h1 h2 h3=>exact ⟨_,_,rfl⟩
  obtain ⟨p,cap,rfl⟩:=key;refine (hn p cap w).mono ?_;rintro e w' ⟨rfl,rfl⟩;exact ⟨_,h,ρ,rfl,by simpa using s,.undef _,Bg.refl _ _ _⟩
 have key:∃ g S cap,v=.slice (some ⟨g,0,none⟩) l.length cap/\ρ 0=some (g,S)/\l.length<=cap/\0+cap*1<=S:=by
  generalize hk:l.length=k at hv h0;cases hv with
  | lsl0 base=>omega
  | lsl b sz off n cap g S h1 h2 h3=>exact ⟨g,S,cap,rfl,h1,h2,h3⟩
 obtain ⟨g,S,cap,rfl,hρ,hcap,hS⟩:=key;obtain ⟨hone,hb⟩:=hb;rcases hb with ⟨hno,_⟩ | ⟨g',S',c,E,fr,b1,b2,b3,b4,b5,b6,b7,b8⟩
 ·rw[hρ] at hno;cases hno
 rw[hρ] at b1;cases b1;have hlen:(strs l).length=l.length:=strs_length;have hcs:l.length<=c.size:=by omega
 have hval:∀ (j:Nat) (hj:j<l.length),c[j]?=some (encStr l[j]):=fun j hj=>by have h1:c[j]?=some c[j]:=Afj (by omega);rw[h1,AcC (b6 j _ _ (XC hj) h1)]
 have hH:Holds encStr w g 0 l.toArray:=by
  intro j hj;have hj':j<l.length:=by simpa using hj
  refine ⟨?_,?_⟩;·simp only[World.cell?,b2,AfR];rw[hval j hj'];simp[hj']
  simp only[World.frozen?,b2,AfR];have:=b4 j (by omega);simp only[Bool.and_eq_false_iff,decide_eq_false_iff_not];omega
 have hgl:g<w.heap.size:=(Array.getElem?_eq_some_iff.1 b2).1;refine (hs g 0 cap l w hH hgl (by omega)).mono ?_;rintro e w' ⟨rfl,n,os,rfl⟩;generalize hm:l.mergeSort (fun x y=>decide (x<=y))=m;have hml:m.length=l.length:=by rw[<-hm];exact Aft l
 have other:∀ k,k≠g->k<w.heap.size->(grow (putRow encStr (Sort.ahead w n) g 0 m.toArray) os).heap[k]?=w.heap[k]?:=fun k hk hlt=>by
  rw[heap_grow_old _ _ (by simpa using hlt)];show (w.heap.modify g _)[k]?=_
  rw[Afu,if_neg (Ne.symm hk)]
 have same:(grow (putRow encStr (Sort.ahead w n) g 0 m.toArray) os).heap[g]?=some (.cells (putCells encStr 0 m.toArray c) E fr):=by
  rw[heap_grow_old _ _ (by simpa using hgl)];show (w.heap.modify g _)[g]?=_
  rw[Afu,if_pos rfl,b2];rfl
 have hsz:(putCells encStr 0 m.toArray c).size=c.size:=by simp[putCells]
 have hcell:∀ (j:Nat) (hj:j<m.length),(putCells encStr 0 m.toArray c)[j]?=some (encStr m[j]):=fun j hj=>by
  have:j<c.size:=by omega
  simp[putCells,Array.getElem?_mapIdx,Afj this,hj]
 have hprom:∀ b o u,h b o=some u->(grow (putRow encStr (Sort.ahead w n) g 0 m.toArray) os).cell? ⟨b,o,none⟩=some u:=by
  intro b o u e;have hlt:=s.held_lt e;have hne:b≠g:=fun e'=>by subst e';rw[b8 o (fun e=>by cases e)] at e;cases e
  have:=s.prom b o u e;rw[<-this];simp only[World.cell?,other b hne hlt]
 refine ⟨_,h,ρ,rfl,⟨hprom,s.glob,fun i b e=>?_,fun i k S2 e=>?_,fun i j k S1 S2 e1 e2 l1 l2=>?_⟩,.undef _,⟨rfl,rfl,rfl,by simp,fun k hk hnk=>other k (fun e=>hnk 0 S (e▸hρ)) hk,Aj.le_refl _,fun _ _ _ _=>rfl,Place.le_refl _,fun i k S2 e=>.inl ⟨i,S2,e⟩⟩⟩
 ·cases i with
  | zero =>
   simp[hp] at e;subst e;refine ⟨fun j x hx=>?_,.inr ⟨g,S,_,E,fr,hρ,same,by rw[hsz];exact b3,b4,by rw[strs_length,hml];omega,fun j x u hx hu=>?_,(fun e=>by cases e),fun j _=>b8 j (fun e=>by cases e)⟩⟩;·obtain ⟨y,_,rfl⟩:=strs_get hx;rfl
   obtain ⟨y,hy,rfl⟩:=strs_get hx;have hj:=(List.getElem?_eq_some_iff.1 hy).1;rw[hcell j hj] at hu;cases hu;have:m[j]=y:=by rw[AaZ hj] at hy;exact Option.some.inj hy
   rw[this];exact .str _
  | succ i=>simp[hp] at e
 ·obtain ⟨q1,b,q2⟩:=s.dom i k S2 e;refine ⟨by simp;omega,?_⟩;cases i with
  | zero=>exact ⟨_,rfl⟩
  | succ i=>simp[hp] at q2
 have z:∀ i,BP (hp [.row false (strs m)]) i->i=0:=by
  rintro i ⟨b,q,_⟩;cases i with
  | zero=>rfl
  | succ i=>simp[hp] at q
 rw[z i l1,z j l2]
def Tryz.sortL_ren:Go.Shelf.Ren:=⟨fun | 6=>178 | 8=>210 | 9=>209 | 19=>224 | 20=>191 | 21=>226 | 22=>227 | 23=>228 | 24=>229 | 25=>230 | 26=>231 | 27=>232 | 28=>233 | 29=>234 | 36=>248 | 31=>249 | 32=>250 | 37=>251 | 38=>252 | 39=>253 | 41=>261 | n=>n,fun | 27=>26 | 29=>9 | 3=>3 | 32=>155 | 26=>26 | 0=>0 | 44=>187 | 46=>177 | 4=>4 | 36=>292 | 35=>291 | 41=>296 | 5=>5 | 9=>9 | 53=>311 | 57=>315 | 63=>320 | 64=>321 | n=>n,fun | n=>n⟩
def Tryz.sortL:Go.Proofs.SlLaysM.n6 TP Tryz.sortL_ren where
 mixed:=by kernel_rfl
 f6:=⟨Tryz.f178.name,by kernel_rfl,Tryz.func178.trans (congrArg some (by kernel_rfl))⟩
 f8:=Tryz.func210.trans (congrArg some (by kernel_rfl))
 f9:=⟨Tryz.f209.name,by kernel_rfl,Tryz.func209.trans (congrArg some (by kernel_rfl))⟩
 f19:=Tryz.func224.trans (congrArg some (by kernel_rfl))
 f20:=Tryz.func191.trans (congrArg some (by kernel_rfl))
 f21:=⟨Tryz.f226.name,by kernel_rfl,Tryz.func226.trans (congrArg some (by kernel_rfl))⟩
 f22:=⟨Tryz.f227.name,by kernel_rfl,Tryz.func227.trans (congrArg some (by kernel_rfl))⟩
 f23:=⟨Tryz.f228.name,by kernel_rfl,Tryz.func228.trans (congrArg some (by kernel_rfl))⟩
 f24:=⟨Tryz.f229.name,by kernel_rfl,Tryz.func229.trans (congrArg some (by kernel_rfl))⟩
 f25:=⟨Tryz.f230.name,by kernel_rfl,Tryz.func230.trans (congrArg some (by kernel_rfl))⟩
 f26:=⟨Tryz.f231.name,by kernel_rfl,Tryz.func231.trans (congrArg some (by kernel_rfl))⟩
 f27:=⟨Tryz.f232.name,by kernel_rfl,Tryz.func232.trans (congrArg some (by kernel_rfl))⟩
 f28:=⟨Tryz.f233.name,by kernel_rfl,Tryz.func233.trans (congrArg some (by kernel_rfl))⟩
 f29:=⟨Tryz.f234.name,by kernel_rfl,Tryz.func234.trans (congrArg some (by kernel_rfl))⟩
 f31:=Tryz.func249.trans (congrArg some (by kernel_rfl))
 f32:=Tryz.func250.trans (congrArg some (by kernel_rfl))
 f36:=⟨Tryz.f248.name,by kernel_rfl,Tryz.func248.trans (congrArg some (by kernel_rfl))⟩
 f37:=⟨Tryz.f251.name,by kernel_rfl,Tryz.func251.trans (congrArg some (by kernel_rfl))⟩
 f38:=⟨Tryz.f252.name,by kernel_rfl,Tryz.func252.trans (congrArg some (by kernel_rfl))⟩
 f39:=⟨Tryz.f253.name,by kernel_rfl,Tryz.func253.trans (congrArg some (by kernel_rfl))⟩
 f41:=⟨Tryz.f261.name,by kernel_rfl,Tryz.func261.trans (congrArg some (by kernel_rfl))⟩
 t0:=Tryz.underlying0
 a0:=Tryz.isAgg0
 z0:=Tryz.sizeOf0
 v0:=Tryz.zeroValue0
 t3:=Tryz.underlying3
 a3:=Tryz.isAgg3
 z3:=Tryz.sizeOf3
 v3:=Tryz.zeroValue3
 t4:=Tryz.underlying4
 a4:=Tryz.isAgg4
 z4:=Tryz.sizeOf4
 v4:=Tryz.zeroValue4
 t5:=Tryz.underlying5
 a5:=Tryz.isAgg5
 z5:=Tryz.sizeOf5
 v5:=Tryz.zeroValue5
 t9:=Tryz.underlying9
 a9:=Tryz.isAgg9
 z9:=Tryz.sizeOf9
 v9:=Tryz.zeroValue9
 t26:=Tryz.underlying26
 a26:=Tryz.isAgg26
 z26:=Tryz.sizeOf26
 v26:=Tryz.zeroValue26
 t27:=Tryz.underlying26
 a27:=Tryz.isAgg26
 z27:=Tryz.sizeOf26
 v27:=Tryz.zeroValue26
 t29:=Tryz.underlying9
 a29:=Tryz.isAgg9
 z29:=Tryz.sizeOf9
 v29:=Tryz.zeroValue9
 t32:=Tryz.underlying155
 a32:=Tryz.isAgg155
 z32:=Tryz.sizeOf155
 v32:=Tryz.zeroValue155
 t35:=Tryz.underlying291
 a35:=Tryz.isAgg291
 z35:=Tryz.sizeOf291
 v35:=Tryz.zeroValue291
 t36:=Tryz.underlying292
 a36:=Tryz.isAgg292
 z36:=Tryz.sizeOf292
 v36:=Tryz.zeroValue292
 t41:=Tryz.underlying296
 a41:=Tryz.isAgg296
 z41:=Tryz.sizeOf296
 v41:=Tryz.zeroValue296
 t44:=Tryz.underlying187
 a44:=Tryz.isAgg187
 z44:=Tryz.sizeOf187
 v44:=Tryz.zeroValue187
 t46:=Tryz.underlying177
 a46:=Tryz.isAgg177
 z46:=Tryz.sizeOf177
 v46:=Tryz.zeroValue177
 t53:=Tryz.underlying311
 a53:=Tryz.isAgg311
 z53:=Tryz.sizeOf311
 v53:=Tryz.zeroValue311
 t57:=Tryz.underlying315
 a57:=Tryz.isAgg315
 z57:=Tryz.sizeOf315
 v57:=Tryz.zeroValue315
 t63:=Tryz.underlying320
 a63:=Tryz.isAgg320
 z63:=Tryz.sizeOf320
 v63:=Tryz.zeroValue320
 t64:=Tryz.underlying321
 a64:=Tryz.isAgg321
 z64:=Tryz.sizeOf321
 v64:=Tryz.zeroValue321
def srt (l:List (List UInt8)):List (List UInt8):=l.mergeSort fun x y=>decide (x<=y)
def Vc {l:List (List UInt8)}:(srt l).length=l.length:=Aft l
def XE {G:Ah} (l:List (List UInt8)) (hl:l.length<=100000):Ctr TP G 178 [.lsl 0 1 0 l.length] [.row false (strs l)] .undef [.row false (strs (srt l))] :=
 Zb AdM (fun blk off cap ss w h1 h2 h3=>AnyM.slices_Sort_string Tryz.sortL blk off cap ss w h1 h2 h3) (fun p cap w=>AnyM.slices_Sort_string_none Tryz.sortL p cap w) l hl
end Dst
namespace Dst
def Oy (x:List UInt8):∀ l:List (List UInt8),dedup (l++[x])=if l.getLast? = some x then dedup l else dedup l++[x]
 | []=>by simp[dedup]
 | [y]=>by
   by_cases h:y=x;·subst h;simp[dedup]
   simp[dedup,h]
 | y::z::l=>by
   have ih:=Oy x (z::l);have hl:(y::z::l).getLast? = (z::l).getLast?:=(by simp[List.getLast?_cons_cons])
   rw[hl];show dedup (y::z::(l++[x]))=_
   rw[dedup,dedup];have ih':dedup (z::(l++[x]))=if (z::l).getLast? = some x then dedup (z::l) else dedup (z::l)++[x]:=ih
   rw[ih'];split;·split<;>rfl
   split;·rfl
   rfl
def Ox {l:List (List UInt8)} {i:Nat} (h0:1<=i) (h:i<l.length):dedup (l.take (i+1))=if l.getD (i-1) []=l.getD i [] then dedup (l.take i) else dedup (l.take i)++[l.getD i []]:=by
 have e:l.take (i+1)=l.take i++[l.getD i []]:=by rw[AeK,AaZ h,Aa0,AaZ h];rfl
 have hl:(l.take i).getLast? = some (l.getD (i-1) []):=by rw[List.getLast?_eq_getElem?,Adp,List.getElem?_take,if_pos (by omega),show min i l.length-1=i-1 by omega,Aa0,AaZ (by omega)];rfl
 rw[e,Oy,hl];simp only[Option.some.injEq]
end Dst
namespace Dst
open Go Go.Proofs Go.Abs
variable {G:Ah}
def cpt (l:List (List UInt8)):List (List UInt8):=dedup l++AfO (l.length-(dedup l).length) []
def SD (l:List (List UInt8)) (hl:l.length<=100000):Ctr TP G 143 [.lsl 0 1 0 l.length] [.row false (strs l)] (.lsl 0 1 0 (dedup l).length) [.row false (strs (cpt l))]:=by
 refine Ctr.body (M:=M0) Am Tryz.func143 rfl Aeb ?_;have sl:=@strs_length l;rcases Adf l.length 2 with h2 | h2
 ·have e:dedup l=l/\cpt l=l:=by
   match l,h2 with
   | [],_=>exact ⟨rfl,rfl⟩
   | [x],_=>exact ⟨rfl,rfl⟩
  rw[e.1,e.2];simp(disch:=(try simp only[Ab]);omega)only[Tryz.f143,↓Aa,Ac,Qv];exact ⟨[some 0],rfl,by simp,by simp[HW,BW],.inl (by simp[AW])⟩
 simp(disch:=(try simp only[Ab]);omega)only[Tryz.f143,↓Aa,Ac,Qv];refine Ak.fr 1 (α:=Nat) (fun i=>l.length-i) (fun i=>[(3,.d (.int .i64 i))]) (fun _=>[.row false (strs l)]) (fun i=>1<=i/\i<=l.length/\dedup (l.take i)=l.take i) 1 ⟨Adm _,by omega,by
  match l,h2 with
  | x::r,_=>rfl⟩ ?_ ?_
 ·exact ⟨[some 0],rfl,by simp,by simp[sA,kZ,SW,AW],by simp[HW,BW]⟩
 rintro i ⟨h1,h3,h4⟩;simp only[Bi,Adj,Adk];rcases Adf i l.length with h | h
 ·have e1:((i:Int)-1)=((i-1:Nat):Int):=by omega
  have g1:=strs_getD (l:=l) (i:=i-1) (by omega);have g2:=strs_getD h;have hd:=Ox h1 h;by_cases he:l.getD (i-1) []=l.getD i []
  ·rw[if_pos he] at hd;rw[he] at g1;simp(disch:=(try simp only[Ab]);omega)only[Af,sl,e1,g1,g2,beq_self_eq_true,↓Aa,Ac,↓reduceIte];refine ⟨by rfl,?_⟩;have hlt:(l.take i).length=i:=(by rw[Adp];omega)
   refine Ak.fr 17 (α:=Nat × Nat × List (List UInt8)) (fun x=>l.length-(i+x.1)) (fun x=>[(3,.d (.int .i64 x.2.1)),(5,.d (.int .i64 x.1))]) (fun x=>[.row false (strs x.2.2)])
    (fun x=>1<=x.1/\i+x.1<=l.length/\x.2.2.length=l.length/\x.2.1=(dedup (l.take (i+x.1))).length/\x.2.2.take x.2.1=dedup (l.take (i+x.1))/\x.2.1+1<=i+x.1/\∀ q,i+x.1<=q+1->q<l.length->x.2.2.getD q []=l.getD q [])
    (1,i,l) ⟨Adm _,h,rfl,by simp only;rw[hd,h4,hlt],by simp only;rw[hd,h4],Adm _,fun q _ _=>rfl⟩ ?_ ?_
   ·exact ⟨[some 0],rfl,by simp,by simp[sA,kZ,SW,AW],by simp[HW,BW]⟩
   rintro ⟨j,k,R⟩ ⟨j1,j2,j3,j4,j5,j6,j7⟩;simp only at j1 j2 j3 j4 j5 j6 j7;have sR:=@strs_length R;simp only[Bi,Adj,Adk];rcases Adf (i+j) l.length with hj | hj
   ·have e2:((j:Int)-1)=((j-1:Nat):Int):=(by omega);have r1:=strs_getD (l:=R) (i:=i+j) (by omega);have r2:=strs_getD (l:=R) (i:=i+(j-1)) (by omega);rw[j7 (i+j) (by omega) hj] at r1;rw[j7 (i+(j-1)) (by omega) (by omega)] at r2;have hd2:=Ox (l:=l) (i:=i+j) (by omega) hj;rw[show i+j-1=i+(j-1) by omega] at hd2;by_cases hq:l.getD (i+(j-1)) []=l.getD (i+j) []
    ·rw[if_pos hq] at hd2;rw[hq] at r2;simp(disch:=(try simp only[Ab]);omega)only[Af,sR,j3,e2,r1,r2,beq_self_eq_true,↓Aa,Ac,↓reduceIte];exact ⟨by rfl,(j+1,k,R),⟨by simp only;omega,hj,j3,by simp only;rw[<-AeU,hd2];exact j4,by simp only;rw[<-AeU,hd2];exact j5,by simp only;omega,fun q a b=>j7 q (by simp only at a;omega) b⟩,by simp only;omega,⟨[some 0],rfl,by simp,by simp[SW,AW],by simp[HW,BW]⟩⟩
    rw[if_neg hq] at hd2;have hne:(l.getD (i+j) [] == l.getD (i+(j-1)) [])=false:=(by simpa using fun q=>hq q.symm)
    have hk:k<R.length:=(by omega);have ht:(R.set k (l.getD (i+j) [])).take (k+1)=R.take k++[l.getD (i+j) []]:=(by rw[AeK,List.getElem?_set_self hk,List.take_set_of_le (Adm _)];rfl);simp(disch:=(try simp only[Ab]);omega)only[Af,sR,j3,e2,r1,r2,hne,Y9,↓Aa,Ac,↓reduceIte];exact ⟨by rfl,(j+1,k+1,R.set k (l.getD (i+j) [])),⟨by simp only;omega,hj,by simp only[Afq];exact j3,by simp only;rw[<-AeU,hd2,Adi,<-j4];rfl,by simp only;rw[<-AeU,hd2,ht,j5],by simp only;omega,fun q a b=>by simp only at a;rw[Aa0,List.getElem?_set_ne (by omega),<-Aa0];exact j7 q (by omega) b⟩,by simp only;omega,⟨[some 0],rfl,by simp,by simp[SW,AW],by simp[HW,BW]⟩⟩
   have hjl:i+j=l.length:=(by omega);rw[hjl,Adq] at j4 j5;have hrow:(strs R).take k++AZ [.str .empty] (l.length-k)++(strs R).drop l.length=strs (cpt l):=(by rw[AeL (by omega),AfM,U3,strs_app,j5];unfold cpt;rw[<-j4])
   have hkl:k+(l.length-k)=l.length:=(by omega);rw[<-j4];simp(disch:=(try simp only[Ab]);omega)only[sR,j3,hkl,Nat.mul_one,hrow,↓Aa,Ac,↓reduceIte];first
   | exact ⟨[some 0],rfl,by simp,by simp[HW,BW],.inl (by simp[AW])⟩
   | trace_state
  rw[if_neg he,h4] at hd;have hne:(l.getD i [] == l.getD (i-1) [])=false:=by simpa using fun q=>he q.symm
  have hd2:dedup (l.take (i+1))=l.take (i+1):=by rw[hd,AeK,AaZ h,Aa0,AaZ h];rfl
  simp(disch:=(try simp only[Ab]);omega)only[Af,sl,e1,g1,g2,hne,↓Aa,Ac,↓reduceIte];exact ⟨by rfl,i+1,⟨by omega,h,hd2⟩,by simp only;omega,⟨[some 0],rfl,by simp,by simp[SW,AW],by simp[HW,BW]⟩⟩
 obtain rfl:i=l.length:=by omega
 rw[Adq] at h4;have e:cpt l=l:=by unfold cpt;rw[h4];simp
 rw[h4,e];simp(disch:=(try simp only[Ab]);omega)only[↓Aa,Ac];exact ⟨[some 0],rfl,by simp,by simp[HW,BW],.inl (by simp[AW])⟩
def MY:Ci:=fun k=>k == 3000000
def MY_n {k:Nat} (h:k<3000000):MY k=false:=by simp only[MY,beq_eq_false_iff_ne];exact Nat.ne_of_lt h
def Tdo_cons {x:D} {r:List D} {t:List (D × Bool)} (h:Tdo (x::r) t):(∃ t',t=(x,true)::t'/\Tdo r t')\/t=[(x,false)]:=by
 match t,h with
 | (z,true)::t,h=>exact .inl ⟨t,by rw[h.1],h.2⟩
 | (z,false)::t,h=>exact .inr (by rw[h.1,h.2])
def Tdo_nil {t:List (D × Bool)} (h:Tdo [] t):t=[]:=by
 match t,h with
 | [],_=>rfl
def RO (l:List (List UInt8)) (full:Bool) (hl:l.length<=100000):OV TP G 179 [.ptr 1 0] [.box [.d (Ss l full)]] (strs l):=by
 refine OV.body (M:=MY) Am Tryz.func179 rfl AdL ?_;intro lp J todo hJ hT;have sl:=@strs_length l;simp(disch:=(try simp only[Ab]);omega)only[Ss,MY_n,Tryz.f179,↓Aa,Ac,↓reduceIte,Qu,Qv];refine Ak.fr 99 (α:=Nat × List (D × Bool)) (fun x=>l.length-x.1) (fun x=>[(7,.d (.int .i64 x.1))]) (fun x=>[.ext J x.2,.box [.d (.sl l.length full (strs l))]]) (fun x=>x.1<=l.length/\Tdo ((strs l).drop x.1) x.2) (0,todo) ⟨Aet _,hT⟩ ?_ ?_;·exact ⟨[some 0,some 1],rfl,by simp,by simp[sA,kZ,SW,AW],by simp[HW,BW,SW,AW]⟩
 rintro ⟨i,t⟩ ⟨h1,h2⟩;simp only at h1 h2;simp only[Bi,Adj,Adk];rcases Adf i l.length with h | h
 ·have e:(strs l).drop i=S (l.getD i [])::(strs l).drop (i+1):=by
   rw[Afi (by omega)];simp[strs,h]
  rw[e] at h2;have g:=strs_getD h;rcases Tdo_cons h2 with ⟨t',rfl,h3⟩ | rfl
  ·simp(disch:=(try simp only[Ab]);omega)only[sl,g,MY_n,↓Aa,Ac,↓reduceIte,Qu];refine KZ.by rfl hJ rfl rfl ?_;simp(disch:=(try simp only[Ab]);omega)only[MY_n,↓Aa,Ac,↓reduceIte,Qu];exact ⟨(i+1,t'),⟨h,h3⟩,by simp only;omega,⟨[some 0,some 1],rfl,by simp,by simp[SW,AW],by simp[HW,BW,SW,AW]⟩⟩
  simp(disch:=(try simp only[Ab]);omega)only[sl,g,MY_n,↓Aa,Ac,↓reduceIte,Qu];refine KZ.by rfl hJ rfl rfl ?_;simp(disch:=(try simp only[Ab]);omega)only[↓Aa,Ac,↓reduceIte,Qu];exact ⟨[some 0],rfl,by simp,by simp[HW,BW],.inl (by simp[AW])⟩
 have e:(strs l).drop i=[]:=AeL (by omega);rw[e] at h2;rw[Tdo_nil h2];simp(disch:=(try simp only[Ab]);omega)only[↓Aa,Ac,Qu];exact ⟨[some 0],rfl,by simp,by simp[HW,BW],.inl (by simp[AW])⟩
def S8 (l:List (List UInt8)) (full:Bool):Ctr TP G 145 [.d (Ss l full)] [] (.fn (.func 179) [] [.ptr 0 0]) [.box [.d (Ss l full)]]:=by refine Ctr.body (M:=M0) Am Tryz.func145 rfl Ad9 ?_;simp only[Ss,Tryz.f145,↓Aa,Ac,↓reduceIte,Qv];exact ⟨[some 0],rfl,by simp,by simp[HW,BW,SW,AW],.inl (by simp[AW,SW])⟩
def Acm:∀ {x y:List UInt8},bl x y=true↔x<y
 | [],[]=>by simp[bl,Op.bytesLess]
 | [],b::y=>by simp[bl,Op.bytesLess]
 | a::x,[]=>by simp[bl,Op.bytesLess]
 | a::x,b::y=>by rw[SO,List.cons_lt_cons_iff,UInt8.lt_iff_toNat_lt,Acm (x:=x) (y:=y)]
def Vb (l:List (List UInt8)):(srt l).Pairwise (fun x y=>bl y x=false):=by
 have h:=List.pairwise_mergeSort (le:=fun x y:List UInt8=>decide (x<=y)) (fun a b c h1 h2=>by simp at *;exact List.le_trans h1 h2) (fun a b=>by simp;exact List.le_total a b) l;refine h.imp fun {x y} h=>?_;simp only[decide_eq_true_eq] at h;cases hb:bl y x with
 | false=>rfl
 | true=>exact absurd (Acm.1 hb) (by simpa using h)
def MSt:Ci:=fun k=>k == 178 || (k == 143 || k == 208)
def MSt_n {k:Nat} (h:2000000<=k):MSt k=false:=by simp only[MSt,Bool.or_eq_false_iff,beq_eq_false_iff_ne];exact ⟨AfE (Ac7 (by decide) h),AfE (Ac7 (by decide) h),AfE (Ac7 (by decide) h)⟩
def OO (l:List (List UInt8)) (full:Bool) (hl:l.length<=100000):Ctr TP G 208 [.d (.sl 0 true []),.fn (.func 179) [] [.ptr 0 0]] [.box [.d (Ss l full)]] (.lsl 1 1 0 l.length) [.dead,.row false (strs l)]:=by
 refine Ctr.body (M:=M0) Am Tryz.func208 rfl Adw ?_;have sl:=@strs_length l;simp only[Tryz.f208,↓Aa,Ac,↓reduceIte,Qu,Qv];refine J2.all (α:=Unit) (RO l full hl) [some 1,none] 0 [(2,.ptr 0 0)] (fun k _=>[.box [.lsl 1 1 0 k],.row false (strs (l.take k))]) (fun k _=>True) rfl rfl rfl rfl rfl rfl rfl (by simp) () trivial (by simp[sA,kZ,SW,AW]) (by simp[HW,BW,SW,AW,strs]) (fun _ _=>⟨rfl,rfl⟩) ?_ ?_
 ·rintro k d ⟨⟩ hk hd -;rw[strs_length] at hk;obtain ⟨y,hy,rfl⟩:=strs_get hd;have e:(l.take k).length=k:=by rw[Adp];omega
  have st:=@strs_length (l.take k);rw[e] at st;simp only[Bi,Adk];simp(disch:=(try simp only[Ab]);omega)only[st,↓Aa,Ac,↓reduceIte,Qu];have e2:strs (l.take k)++[D.str (bs y)]=strs (l.take (k+1)):=by rw[AeK,hy];simp[strs]
  rw[e2];exact UV.mk (⟨[some 0,some 3],rfl,by simp,by simp[SW,AW],by simp[HW,BW,SW,AW]⟩:DB 0 _ _ _ [.box [.lsl 1 1 0 (k+1)],.row false (strs (l.take (k+1)))]) ⟨(),rfl⟩
 rintro ⟨⟩ -;simp only[Bi,Adk];rw[Afn (by rw[strs_length];exact Adm _)];simp only[sl,↓Aa,Ac,↓reduceIte,Qu];exact ⟨[some 0,some 3],rfl,by simp,by simp[HW,BW],.inl (by simp[AW])⟩
def SF (l:List (List UInt8)) (full:Bool) (hl:l.length<=100000):Ctr TP G 177 [.fn (.func 179) [] [.ptr 0 0]] [.box [.d (Ss l full)]] (.lsl 1 1 0 l.length) [.dead,.row false (strs l)]:=by refine Ctr.body (M:=MSt) Am Tryz.func177 rfl AdN ?_;have sl:=@strs_length l;have m1:MSt 208=true:=rfl;simp(disch:=(try simp only[Ab]);omega)only[m1,MSt_n,Tryz.f177,↓Aa,Ac,↓reduceIte,Qu,Qv];refine Ad.by (OO l full hl) rfl rfl (by simp) ?_;simp(disch:=(try simp only[Ab]);omega)only[↓Aa,Ac,↓reduceIte,Qu,Qv];exact ⟨[some 0,some 1],rfl,by simp,by simp[HW,BW],.inl (by simp[AW])⟩
def Tp (l:List (List UInt8)) (full:Bool) (hl:l.length<=100000):Ctr TP G 144 [.fn (.func 179) [] [.ptr 0 0]] [.box [.d (Ss l full)]] (.lsl 1 1 0 l.length) [.dead,.row false (strs (srt l))]:=by refine Ctr.body (M:=MSt) Am Tryz.func144 rfl Aea ?_;have sl:=@strs_length l;have m1:MSt 178=true:=rfl;have m2:MSt 177=false:=rfl;simp(disch:=(try simp only[Ab]);omega)only[m2,MSt_n,Tryz.f144,↓Aa,Ac,↓reduceIte,Qu,Qv];refine Ad.by (SF l full hl) rfl rfl (by simp) ?_;simp(disch:=(try simp only[Ab]);omega)only[m1,MSt_n,↓Aa,Ac,↓reduceIte,Qu,Qv];refine Ad.by (XE l hl) rfl rfl (by simp) ?_;simp(disch:=(try simp only[Ab]);omega)only[MSt_n,↓Aa,Ac,↓reduceIte,Qu];exact ⟨[some 0,some 1],rfl,by simp,by simp[HW,BW],.inl (by simp[AW])⟩
def AbP (l:List (List UInt8)):cut (strs (cpt l)) 0 (dedup l).length=strs (dedup l):=by simp[cut,cpt,strs]
def set_spec (l:List (List UInt8)) (full:Bool) (hl:l.length<=100000):Ctr TP G 104 [.d (Ss l full)] [] (.d (Ss (setL l) false)) []:=by
 refine Ctr.pure (M:=MSt) Am Tryz.func104 rfl AeF ?_;have sl:=@strs_length l;have m1:MSt 143=true:=rfl;have m2:MSt 145=false:=rfl;have m3:MSt 144=false:=rfl;have hs:=@Vc l;have e:dedup (srt l)=setL l:=by exact Vk (Vb l) (fun t=>by simp[srt])
 have cc:=AbP (srt l);have hc:=SD (G:=G) (srt l) (by omega);rw[e] at cc hc;simp(disch:=(try simp only[Ab]);omega)only[m2,MSt_n,Tryz.f104,↓Aa,Ac,↓reduceIte,Qu,Qv];refine Ad.by (S8 l false) rfl rfl (by simp) ?_;simp(disch:=(try simp only[Ab]);omega)only[m3,MSt_n,↓Aa,Ac,↓reduceIte,Qu];refine Ad.by (Tp l false hl) rfl rfl (by simp) ?_;simp(disch:=(try simp only[Ab]);omega)only[m1,MSt_n,↓Aa,Ac,↓reduceIte,Qu,Qv];rw[hs] at hc;refine Ad.by hc rfl rfl (by simp) ?_;simp(disch:=(try simp only[Ab]);omega)only[cc,Ss,↓Aa,Ac,↓reduceIte,↓Qe,Qu]
end Dst
section
open Go Go.Proofs Go.Abs
variable {G:Ah}
def Wc {l:List (List UInt8)} (h:Dst.Asc l):l.Nodup:=h.imp fun {a b} h e=>by subst e;rw[Dst.bl_irrefl] at h;cases h
def EN:∀ {l out:List (List UInt8)},l.Nodup->(∀ s∈l,s∈out)->l.length<=out.length
 | [],_,_,_=>Aet _
 | x::l,out,hn,hs=>by
   have hx:=hs x (by simp);have hn:=Afs.1 hn;have:=EN (l:=l) (out:=out.erase x) hn.2 (fun s h=>by have:s≠x:=fun e=>hn.1 (e▸h);exact (Afw this).2 (hs s (by simp[h])))
   rw[Afl hx] at this;have:0<out.length:=Afo hx;rw[Adl];omega
def Js:∀ {s l:List (List UInt8)},s.Nodup->(∀ x∈s,x∈l)->l.length<=s.length->l.Nodup
 | [],l,_,_,hl=>by have:l=[]:=List.length_eq_zero_iff.1 (by simpa using hl);rw[this];exact List.nodup_nil
 | a::s,l,hn,hs,hl=>by
   have ha:=hs a (by simp);have hn':=Afs.1 hn;have len:=Afl ha;have sub:∀ x∈s,x∈l.erase a:=fun x hx=>by have:x≠a:=fun e=>hn'.1 (e▸hx);exact (Afw this).2 (hs x (by simp[hx]))
   have ih:=Js (l:=l.erase a) hn'.2 sub (by rw[len];rw[Adl] at hl;omega);have na:a∉l.erase a:=fun h=>by
    have:=EN (l:=a::s) (out:=l.erase a) hn (fun x hx=>by
     rcases Ada.1 hx with e | hx
     ·exact e▸h
     exact sub x hx)
    have p:=Afo ha;rw[len,Adl] at this;rw[Adl] at hl;omega
   exact (List.perm_cons_erase ha).nodup_iff.2 (Afs.2 ⟨na,ih⟩)
def Tr (l:Row):(Dst.setL l).length=l.length↔l.Nodup:=by
 have a:=Wc (Dst.asc_setL l);constructor;·intro h;exact Js a (fun x hx=>Dst.mem_setL.1 hx) (Nat.le_of_eq h.symm)
 intro h;exact Nat.le_antisymm (EN a fun x hx=>Dst.mem_setL.1 hx) (EN h fun x hx=>Dst.mem_setL.2 hx)
def AaF (ks:List (List UInt8)):(ks.any fun s=>!AP s)=!ks.all AP:=by
 induction ks with
 | nil=>rfl
 | cons x l ih=>rw[Afx,List.all_cons,ih,Bool.not_and]
def DJ (k:Int) (ks:List (List UInt8)) (m:Nat):Bool:=if k=6 then decide (ks.length=m) && (decide ks.Nodup && ks.all AP) else decide (ks.length=0)
mutual
def AH:Nd->Nat->Bool
 | .mk k t ks l,a=>decide (1<=k/\k<=6) && (decide (a<16) && (Cw k t && (DJ k ks l.length && ((decide (k=5\/k=6) || decide (l.length=0)) && BF l (a+1)))))
def BF:List Nd->Nat->Bool
 | [],_=>true
 | n::r,a=>AH n a && BF r a
end
def I4:∀ (l:List Nd) (a:Nat),(!(l.any fun n=>!AH n a))=BF l a
 | [],a=>rfl
 | n::r,a=>by have ih:=I4 r a;rw[Afx,BF,<-ih];cases AH n a<;>rfl
mutual
def szN:Nd->Prop
 | .mk _ t ks l=>t.length<=1000000000/\ks.length<=100000/\(∀ s∈ks,s.length<=1000000000)/\l.length<=100000/\XA l
def XA:List Nd->Prop
 | []=>True
 | n::r=>szN n/\XA r
end
def Nq:∀ {l:List Nd},XA l->∀ n∈l,szN n
 | [],_,n,h=>by cases h
 | x::r,h,n,hn=>by
   rcases Ada.1 hn with rfl | hn
   ·exact h.1
   exact Nq h.2 n hn
def VJ (hT:HT G) (n:Nd) (hs:szN n):Ctr TP G 74 [.d (NdD n)] [] (.d (.bool (DJ n.kind n.keys n.kids.length))) []:=by
 obtain ⟨k,t,ks,l⟩:=n;obtain ⟨s1,s2,s3,s4,s5⟩:=hs;obtain ⟨r,hr⟩:∃ r,r=DJ k ks l.length:=⟨_,rfl⟩;show Ctr _ _ _ _ _ (.d (.bool (DJ k ks l.length))) _
 rw[<-hr];unfold DJ at hr;refine Ctr.pure (M:=M0) Am Tryz.func74 rfl go74 ?_;by_cases k6:k=6
 ·subst k6;rw[if_pos rfl] at hr;by_cases e1:ks.length=l.length
  ·rw[decide_eq_true e1,AeI] at hr;simp(disch:=(try simp only[Ab]);omega)only[ndC,e1,Tryz.f74,↓Aa,Ac,↓reduceIte,Qu,Qv];refine Ad.of (Dst.set_spec ks false s2) (by rw[<-e1];rfl) ?_;have hq:=Tr ks;generalize Dst.setL ks=q at *;have hany:=AaF ks;by_cases e2:ks.Nodup
   ·have h1:=hq.2 e2;rw[e1] at h1;rw[decide_eq_true e2,AeI] at hr;simp(disch:=(try simp only[Ab]);omega)only[h1,↓Aa,Ac,↓reduceIte,Qu];refine Ad.of (KN 106 (fun s=>!AP s) ks false (by omega) (fun s h=>VK hT s (s3 s h))) (by rfl) ?_;rw[hany,<-hr];cases r
    ·simp only[Afg,AfQ,↓Aa,Ac,↓reduceIte,↓Qe];first
     | rfl
     | exact ⟨by rfl,by rfl⟩
    simp only[Afg,AfQ,↓Aa,Ac,↓reduceIte,↓Qe];first
    | rfl
    | exact ⟨by rfl,by rfl⟩
   have h1:¬q.length=l.length:=fun c=>e2 (hq.1 (by rw[c,e1]));rw[decide_eq_false e2,Ado] at hr;subst hr;simp(disch:=(try simp only[Ab]);omega)only[↓Aa,Ac,↓reduceIte,↓Qe,Qu];first
   | rfl
   | exact ⟨by rfl,by rfl⟩
  rw[decide_eq_false e1,Ado] at hr;subst hr;simp(disch:=(try simp only[Ab]);omega)only[ndC,Tryz.f74,↓Aa,Ac,↓reduceIte,↓Qe,Qu,Qv];rfl
 rw[if_neg k6] at hr;subst hr;simp(disch:=(try simp only[Ab]);omega)only[ndC,k6,Tryz.f74,↓Aa,Ac,↓reduceIte,↓Qe,Qu,Qv];exact decide_eq_decide.2 (by omega)
def Mw (g:FuncId) (p:Nd->Bool) (l:List Nd) (full:Bool) (fv:AV) (x:D) (hf:fv=.fn (.func g) [] [.ptr 0 0]) (hl:l.length<=1000000000) (hp:∀ c∈l,Ctr TP G g [.d (NdD c),.ptr 0 0] [.box [.d x]] (.d (.bool (p c))) [.box [.d x]]) :
  Ctr TP G 54 [.d (NdS l full),fv] [.box [.d x]] (.d (.int .i64 (ixF p l 0))) [.box [.d x]]:=by
 subst hf;refine Ctr.body (M:=M0) Am Tryz.func54 rfl go54 ?_;have sl:=Ay l;simp only[Tryz.f54,↓Aa,Ac,Qu,Qv,QE];refine Ak.fr 131 (α:=Nat) (fun i=>l.length-i) (fun i=>[(8,.d (.int .i64 i))]) (fun _=>[.box [.d x]]) (fun i=>i<=l.length/\ixF p l 0=ixF p (l.drop i) i) 0 ⟨Aet _,rfl⟩ ?_ ?_;·exact ⟨[some 0],rfl,by simp,by simp[sA,kZ,SW,AW],by simp[HW,BW,SW,AW]⟩
 rintro i ⟨h1,h2⟩;simp only[Bi,Adj,Adk];rw[h2];rcases Adf i l.length with h | h
 ·have g:=BM h;rw[Od (d:=noN) h];simp(disch:=(try simp only[Ab]);omega)only[sl,g,Sl,↓Aa,Ac,↓reduceIte,QE];refine Ad.by (hp _ (Cs h)) (by rfl) (by rfl) (by simp) ?_;cases hx:p (l.getD i noN)
  ·simp(disch:=(try simp only[Ab]);omega)only[↓Aa,Ac,↓reduceIte,QE];first
   | exact ⟨i+1,⟨h,rfl⟩,by simp only;omega,⟨[some 0],rfl,by simp,by simp[SW,AW],by simp[HW,BW,SW,AW]⟩⟩
  simp(disch:=(try simp only[Ab]);omega)only[↓Aa,Ac,↓reduceIte,QE];first
  | exact ⟨[some 0],rfl,by simp,by simp[HW,BW,SW,AW],.inl (by simp[AW])⟩
 rw[AeQ h,show ixF p [] (i:Int)=-1 from rfl];simp(disch:=(try simp only[Ab]);omega)only[↓Aa,Ac,QE];first
 | exact ⟨[some 0],rfl,by simp,by simp[HW,BW,SW,AW],.inl (by simp[AW])⟩
def DZ (g:FuncId) (p:Nd->Bool) (l:List Nd) (full:Bool) (x:D) (hl:l.length<=1000000000) (hp:∀ c∈l,Ctr TP G g [.d (NdD c),.ptr 0 0] [.box [.d x]] (.d (.bool (p c))) [.box [.d x]]) :
  Ctr TP G 28 [.d (NdS l full),.fn (.func g) [] [.ptr 0 0]] [.box [.d x]] (.d (.bool (l.any p))) [.box [.d x]]:=by
 refine Ctr.body (M:=M0) Am Tryz.func28 rfl go28 ?_;simp only[Tryz.f28,↓Aa,Ac,↓reduceIte,Qu,Qv];refine Ad.by (Mw g p l false _ x rfl hl hp) (by rfl) (by rfl) (by simp) ?_;have hi:=I9 (p:=p) l 0 (AfJ _);generalize ixF p l 0=q at *;rcases (by omega:0<=q\/q<0) with h | h
 ·rw[hi.1 h];simp(disch:=(try simp only[Ab]);omega)only[↓Aa,Ac,↓reduceIte];exact ⟨[some 0],rfl,by simp,by simp[HW,BW,SW,AW],.inl (by simp[AW])⟩
 have:l.any p=false:=by cases hx:l.any p with
  | false=>rfl
  | true=>have:=hi.2 hx;omega
 rw[this];simp(disch:=(try simp only[Ab]);omega)only[↓Aa,Ac,↓reduceIte];exact ⟨[some 0],rfl,by simp,by simp[HW,BW,SW,AW],.inl (by simp[AW])⟩
end
end Go.Proofs.YtmidaophnbdcdaaGreatDoor
