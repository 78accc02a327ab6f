/-
  Contracts of the functions, one after another.
-/
import Derived.Test.YtdpjcghiegggbaaGreatDoorMb4
import Derived.Test.YtdpjcghiegggbaaGreatDoorCards
import Derived.Test.YtdpjcghiegggbaaGreatDoorTie
import Derived.Lib.LaidTab
import Derived.LaidLaws
import Derived.Shelf.Vars
import Derived.Lib.SmallJoins
set_option linter.all false
open Go.Abs renaming HWeak→HW,BWeak→BW,SWeak→SW,AWeak→AW,setsA→sA,keepA→kA
open Go.Proofs.Tryz renaming prog→TP
set_option maxHeartbeats 16000000
set_option maxRecDepth 100000
open Go.Abs renaming purePost→Qe
open Nat renaming reduceAdd→Qu,reduceSub→Qv,reduceMul→Qw,reducePow→Qx,reduceDiv→Qy,reduceMod→Qz,reduceEqDiff→QI,reduceBEq→QK
open Int renaming reduceAdd→QA,reduceSub→QB,reduceMul→QC,reducePow→QD,reduceNeg→QE,reduceToNat→QF,reduceLT→QG,reduceLE→QH
namespace Go.Proofs.YtdpjcghiegggbaaGreatDoor
open Go Go.Proofs Go.Abs
variable {G:Globals}
def ordL:List Int:=[2,3,4,5,1]
def HO (G:Globals):Prop:=G 0=some (ints .i64 ordL)
def isT (k:Int) (x:Cel):Bool:=!x.2 && okK k x.1
def noT (k:Int) (x:Cel):Bool:=!x.2 && !okK k x.1
def optT (l:List Cel) (k:Int):Opt:=⟨nmK k,l.countP (isT k),l.countP (noT k),0⟩
def preT (l:List Cel) (i:Nat):List Opt:=(ordL.take i).map (optT l)
def befT (a b:Opt):Bool:=decide (a.ag<b.ag)
def optsT (l:List Cel):List Opt:=sortB befT (preT l 5)
theorem ord_ok {i:Nat} (h:i<5):kOf (ordL.getD i 0):=by
 have:i=0∨i=1∨i=2∨i=3∨i=4:=by omega
 unfold kOf
 rcases this with rfl | rfl | rfl | rfl | rfl<;>decide
theorem ord_len:ordL.length=5:=rfl
theorem preT_len (l:List Cel) {i:Nat} (h:i≤5):(preT l i).length=i:=by unfold preT;rw [List.length_map,List.length_take,ord_len];omega
theorem preT_step (l:List Cel) {i:Nat} (h:i<5):preT l (i+1)=preT l i++[optT l (ordL.getD i 0)]:=by
 unfold preT
 rw [List.take_add_one,getD_some (d:=0) (show i<ordL.length from h),List.map_append];rfl
theorem optsT_len (l:List Cel):(optsT l).length=5:=by unfold optsT;rw [sortB_len,preT_len l (Nat.le_refl _)]
theorem preT_ok {l:List Cel} (hl:l.length≤1000000) (i:Nat):∀ o∈preT l i,OkOp o:=fun o ho=>by
 obtain ⟨k,_,rfl⟩:=List.mem_map.1 ho
 have a:l.countP (isT k)≤l.length:=List.countP_le_length
 have b:l.countP (noT k)≤l.length:=List.countP_le_length
 exact ⟨by show l.countP (isT k)≤_;omega,by show l.countP (noT k)≤_;omega⟩
theorem look_yes {k:Int} (h:kOf k):∃ f g,lookV (.agg [.str ByteArray.empty,.nilf,.nilf]) kindsM (.int .i64 k) false=.agg [S (nmK k),f,g]:=by
 unfold kOf at h
 rcases h with rfl | rfl | rfl | rfl | rfl<;>exact ⟨_,_,rfl⟩
theorem cmpT:CmpF G 49 befT:=fun a b ha hb=>by
 obtain ⟨a1,a2⟩:=ha
 obtain ⟨b1,b2⟩:=hb
 refine ⟨cmpI (a.ag:Int) b.ag,by unfold cmpI;split<;>(try split)<;>omega,by unfold cmpI;split<;>(try split)<;>omega,?_,?_⟩
 ·refine Ctr.pure (M:=M0) hmix Tryz.func49 rfl go49 ?_
  simp (config:={maxSteps:=1000000}) (disch:=(try simp only [awL]);omega) only [awS,Tryz.f49,↓awU,awV,awX,awF,↓reduceIte,↓reduceDIte,↓Qe,Qu,Qv,Qw,Qx,Qy,Qz,QA,QB,QC,QD,QE,QF,QG,QH,QI,QK]
  refine CallC.pure (compare_spec (a.ag:Int) b.ag) ?_
  simp (config:={maxSteps:=1000000}) (disch:=(try simp only [awL]);omega) only [awS,↓awU,awV,awX,awF,↓reduceIte,↓reduceDIte,↓Qe,Qu,Qv,Qw,Qx,Qy,Qz,QA,QB,QC,QD,QE,QF,QG,QH,QI,QK]
  first | done | rfl
 ·unfold cmpI befT
  apply decide_eq_decide.2
  split<;>(try split)<;>omega
def okY (l:List Cel):Prop:=l.length≤1000000∧∀ x∈l,x.1.length≤2000000
theorem okY.at {l:List Cel} (h:okY l) {i:Nat} (hi:i<l.length):(l.getD i noC).1.length≤2000000:=h.2 _ (memD (d:=noC) hi)
theorem toptions_spec (hG:Num.HG G) (hE:HE G) (hP:HP G) (hO:HO G) (nm:List UInt8) (l:List Cel) (full:Bool) (hl:okY l) :
  Ctr TP G 20 [.d (.agg [S nm,CelS l full])] [] (.d (.sl (optsT l).length false (optC (optsT l)))) []:=by
 have hO':G 0=some (ints .i64 ordL):=hO
 refine Ctr.pure (M:=MSt2) hmix Tryz.func20 rfl go20 ?_
 have lc:=celsD_length l
 have l1:=hl.1
 have oo:=ints_length (k:=.i64) (l:=ordL)
 rw [ord_len] at oo
 have tk:List.take 5 ordL=ordL:=rfl
 have ol5:ordL.length=5:=rfl
 simp (config:={maxSteps:=1000000}) (disch:=(try simp only [awL]);omega) only [awS,lc,hO',oo,tk,ol5,MSt2_c,MSt2_n,Tryz.f20,↓awU,awV,awX,awF,↓reduceIte,↓reduceDIte,↓Qe,Qu,Qv,Qw,Qx,Qy,Qz,QA,QB,QC,QD,QE,QF,QG,QH,QI,QK]
 refine LoopC.fx 2050 (α:=Nat) (β:=Unit) (fun i=>5 - i) (fun i=>[(3,.lsl 1 3 0 (preT l i).length),(12,.d (.int .i64 (i:Nat)))]) (fun i=>[.box [.d (S nm),.d (CelS l full)],.row false (optC (preT l i))]) (fun i=>i≤5)
  0 (fun _=>[(3,.lsl 0 3 0 (preT l 5).length)]) (fun _=>[.row false (optC (preT l 5))]) (fun _=>True) 0 (Nat.zero_le _) ?_ ?_ ?_
 ·first
  | exact ⟨[some 0,none],rfl,by simp,by simp [sA,kA,SW,AW,preT],by simp [HW,BW,SW,AW,preT,optC]⟩
 ·intro i hi
  have ol:=optC_length (preT l i)
  have pl:=preT_len l hi
  simp only [awK,Nat.reduceMod,Nat.reduceDiv,reduceIte]
  rcases Nat.lt_or_ge i 5 with h | h
  ·have st:=preT_step l h
   have gi:=ints_getD (k:=.i64) (d:=.nilp) (l:=ordL) (i:=i) (by rw [ord_len];exact h)
   have kf:=ord_ok h
   generalize ordL.getD i 0=k at *
   have kr:1≤k∧k≤5:=by unfold kOf at kf;omega
   obtain ⟨f1,f2,lk⟩:=look_yes kf
   have kk:=kk_int
   rw [pl] at ol ⊢
   have op:=optC_push (preT l i) (optT l k)
   rw [← st] at op
   have sl:=preT_len l (i:=i+1) h
   generalize preT l i=p at *
   simp (config:={maxSteps:=1000000}) (disch:=(try simp only [awL]);omega) only [awS,lc,ol,oo,tk,ol5,gi,MSt2_c,MSt2_n,↓awU,awV,awX,awF,↓reduceIte,↓reduceDIte,↓Qe,Qu,Qv,Qw,Qx,Qy,Qz,QA,QB,QC,QD,QE,QF,QG,QH,QI,QK]
   refine CallC.by (L:=[]) kinds_spec (by rfl) (by rfl) (by simp) ?_
   simp (config:={maxSteps:=1000000}) (disch:=(try simp only [awL]);omega) only [awS,lc,ol,kk,lk,MSt2_c,MSt2_n,↓awU,awV,awX,awF,↓reduceIte,↓reduceDIte,↓Qe,Qu,Qv,Qw,Qx,Qy,Qz,QA,QB,QC,QD,QE,QF,QG,QH,QI,QK]
   refine LoopC.fx 6297706 (α:=Nat) (β:=Unit) (fun j=>l.length - j) (fun j=>[(23,.d (.int .i64 (j:Nat)))])
    (fun j=>[.box [.d (S nm),.d (CelS l full)],.row false (optC p),.dead,.box [.d (S (nmK k)),.d (.int .i64 ((l.take j).countP (isT k):Nat)),.d (.int .i64 ((l.take j).countP (noT k):Nat))]]) (fun j=>j≤l.length)
    6218 (fun _=>[]) (fun _=>[.box [.d (S nm),.d (CelS l full)],.row false (optC p),.dead,.box [.d (S (nmK k)),.d (.int .i64 (l.countP (isT k):Nat)),.d (.int .i64 (l.countP (noT k):Nat))]]) (fun _=>True) 0 (Nat.zero_le _) ?_ ?_ ?_
   ·first
    | exact ⟨[some 0,some 1,some 2,some 3],rfl,by simp,by simp [sA,kA,SW,AW],by simp [HW,BW,SW,AW]⟩
   ·intro j hj
    have c1:=countP_le_n9 (isT k) (m:=1000000) l1 j
    have c2:=countP_le_n9 (noT k) (m:=1000000) l1 j
    simp only [awK,Nat.reduceMod,Nat.reduceDiv,reduceIte]
    rcases Nat.lt_or_ge j l.length with h3 | h3
    ·have gc:=celsD_get h3
     have gx:=hl.at h3
     have d1:=countP_step9 (isT k) h3
     have d2:=countP_step9 (noT k) h3
     generalize l.getD j noC=x at *
     obtain ⟨t,nul⟩:=x
     simp only at gx
     have gc:((celsD l).drop (j*2)).take 2=[.bool nul,S t]:=gc
     generalize (l.take j).countP (isT k)=f at *
     generalize (l.take j).countP (noT k)=g at *
     have cs:=canon_spec hG hE hP k (by omega) (by omega) t gx
     have q1:isT k (t,nul)=(!nul && okK k t):=rfl
     have q2:noT k (t,nul)=(!nul && !okK k t):=rfl
     rw [q1] at d1
     rw [q2] at d2
     generalize okK k t=o at *
     generalize cnK k t=y at *
     simp (config:={maxSteps:=1000000}) (disch:=(try simp only [awL]);omega) only [awS,lc,gc,MSt2_c,MSt2_n,↓awU,awV,awX,awF,↓reduceIte,↓reduceDIte,↓Qe,Qu,Qv,Qw,Qx,Qy,Qz,QA,QB,QC,QD,QE,QF,QG,QH,QI,QK]
     refine CallC.of cs (by rfl) ?_
     cases nul
     ·cases o
      ·rw [if_neg (by decide),Nat.add_zero] at d1
       rw [if_pos (by decide)] at d2
       have en:((g:Int)+1)=((g+1:Nat):Int):=by omega
       simp (config:={maxSteps:=1000000}) (disch:=(try simp only [awL]);omega) only [awS,lc,en,MSt2_c,MSt2_n,↓awU,awV,awX,awF,↓reduceIte,↓reduceDIte,↓Qe,Qu,Qv,Qw,Qx,Qy,Qz,QA,QB,QC,QD,QE,QF,QG,QH,QI,QK]
       first
       | exact ⟨j+1,h3,by simp only;omega,⟨[some 0,some 1,some 2,some 3],rfl,by simp,by simp [sA,kA,SW,AW],by simp [HW,BW,SW,AW,d1,d2]⟩⟩
       | exact ⟨by rfl,j+1,h3,by simp only;omega,⟨[some 0,some 1,some 2,some 3],rfl,by simp,by simp [sA,kA,SW,AW],by simp [HW,BW,SW,AW,d1,d2]⟩⟩
      ·rw [if_neg (by decide),Nat.add_zero] at d2
       rw [if_pos (by decide)] at d1
       have en:((f:Int)+1)=((f+1:Nat):Int):=by omega
       simp (config:={maxSteps:=1000000}) (disch:=(try simp only [awL]);omega) only [awS,lc,en,MSt2_c,MSt2_n,↓awU,awV,awX,awF,↓reduceIte,↓reduceDIte,↓Qe,Qu,Qv,Qw,Qx,Qy,Qz,QA,QB,QC,QD,QE,QF,QG,QH,QI,QK]
       first
       | exact ⟨j+1,h3,by simp only;omega,⟨[some 0,some 1,some 2,some 3],rfl,by simp,by simp [sA,kA,SW,AW],by simp [HW,BW,SW,AW,d1,d2]⟩⟩
       | exact ⟨by rfl,j+1,h3,by simp only;omega,⟨[some 0,some 1,some 2,some 3],rfl,by simp,by simp [sA,kA,SW,AW],by simp [HW,BW,SW,AW,d1,d2]⟩⟩
     ·rw [Bool.not_true,Bool.false_and,if_neg Bool.false_ne_true,Nat.add_zero] at d1 d2
      simp (config:={maxSteps:=1000000}) (disch:=(try simp only [awL]);omega) only [awS,lc,MSt2_c,MSt2_n,↓awU,awV,awX,awF,↓reduceIte,↓reduceDIte,↓Qe,Qu,Qv,Qw,Qx,Qy,Qz,QA,QB,QC,QD,QE,QF,QG,QH,QI,QK]
      first
      | exact ⟨j+1,h3,by simp only;omega,⟨[some 0,some 1,some 2,some 3],rfl,by simp,by simp [sA,kA,SW,AW],by simp [HW,BW,SW,AW,d1,d2]⟩⟩
      | exact ⟨by rfl,j+1,h3,by simp only;omega,⟨[some 0,some 1,some 2,some 3],rfl,by simp,by simp [sA,kA,SW,AW],by simp [HW,BW,SW,AW,d1,d2]⟩⟩
    ·have e:j=l.length:=by omega
     subst e
     rw [List.take_length] at c1 c2
     simp (config:={maxSteps:=1000000}) (disch:=(try simp only [awL]);omega) only [awS,lc,List.take_length,MSt2_c,MSt2_n,↓awU,awV,awX,awF,↓reduceIte,↓reduceDIte,↓Qe,Qu,Qv,Qw,Qx,Qy,Qz,QA,QB,QC,QD,QE,QF,QG,QH,QI,QK]
     first
     | exact ⟨(),trivial,⟨[some 0,some 1,some 2,some 3],rfl,by simp,by simp [sA,kA,SW,AW],by simp [HW,BW,SW,AW]⟩⟩
   ·rintro ⟨⟩ -
    simp only [awK,Nat.reduceMod,Nat.reduceDiv,reduceIte]
    have c1:l.countP (isT k)≤l.length:=List.countP_le_length
    have c2:l.countP (noT k)≤l.length:=List.countP_le_length
    have oc:(optT l k).cells=[S (nmK k),.int .i64 (l.countP (isT k):Nat),.int .i64 (l.countP (noT k):Nat)]:=rfl
    rw [oc] at op
    simp (config:={maxSteps:=1000000}) (disch:=(try simp only [awL]);omega) only [awS,lc,ol,pl,MSt2_c,MSt2_n,↓awU,awV,awX,awF,↓reduceIte,↓reduceDIte,↓Qe,Qu,Qv,Qw,Qx,Qy,Qz,QA,QB,QC,QD,QE,QF,QG,QH,QI,QK]
    first
    | exact ⟨by rfl,i+1,h,by simp only;omega,⟨[some 0,some 5],rfl,by simp,by simp [sA,kA,SW,AW,sl],by simp [HW,BW,SW,AW,cut,← op]⟩⟩
    | exact ⟨i+1,h,by simp only;omega,⟨[some 0,some 5],rfl,by simp,by simp [sA,kA,SW,AW,sl],by simp [HW,BW,SW,AW,cut,← op]⟩⟩
  ·have e:i=5:=by omega
   subst e
   simp (config:={maxSteps:=1000000}) (disch:=(try simp only [awL]);omega) only [awS,ol,MSt2_c,MSt2_n,↓awU,awV,awX,awF,↓reduceIte,↓reduceDIte,↓Qe,Qu,Qv,Qw,Qx,Qy,Qz,QA,QB,QC,QD,QE,QF,QG,QH,QI,QK]
   first
   | exact ⟨(),trivial,⟨[some 1],rfl,by simp,by simp [sA,kA,SW,AW],by simp [HW,BW,SW,AW]⟩⟩
 ·rintro ⟨⟩ -
  simp only [awK,Nat.reduceMod,Nat.reduceDiv,reduceIte]
  have ol:=optC_length (preT l 5)
  have pl:=preT_len l (Nat.le_refl 5)
  have sl:=sortB_len befT (preT l 5)
  simp (config:={maxSteps:=1000000}) (disch:=(try simp only [awL]);omega) only [awS,ol,MSt2_c,MSt2_n,↓awU,awV,awX,awF,↓reduceIte,↓reduceDIte,↓Qe,Qu,Qv,Qw,Qx,Qy,Qz,QA,QB,QC,QD,QE,QF,QG,QH,QI,QK]
  refine CallC.by (sortStable_spec 49 befT cmpT (preT l 5) (by omega) (preT_ok l1 5)) (by first | rfl | simp) (by rfl) (by simp) ?_
  rw [← sl,show sortB befT (preT l 5)=optsT l from rfl] at *
  simp (config:={maxSteps:=1000000}) (disch:=(try simp only [awL]);omega) only [awS,ol,MSt2_c,MSt2_n,↓awU,awV,awX,awF,↓reduceIte,↓reduceDIte,↓Qe,Qu,Qv,Qw,Qx,Qy,Qz,QA,QB,QC,QD,QE,QF,QG,QH,QI,QK]
  have ob:=optC_length (optsT l)
  first
  | (rw [cut,List.drop_zero,List.take_of_length_le (by omega)])
def vsT (x:Cel):Bool:=!x.2
def gsT (l:List Cel):Int:=if l.any vsT=true then nmdK ((optsT l).getD 0 noO).txt else 1
theorem guess1_spec (x:Cel):Ctr TP G 52 [.d (.agg (CelC x))] [] (.d (.bool (vsT x))) []:=by
 obtain ⟨t,n⟩:=x
 refine Ctr.pure (M:=M0) hmix Tryz.func52 rfl go52 ?_
 cases n
 ·simp (config:={maxSteps:=1000000}) (disch:=(try simp only [awL]);omega) only [awS,Tryz.f52,↓awU,awV,awX,awF,↓reduceIte,↓reduceDIte,↓Qe,Qu,Qv,Qw,Qx,Qy,Qz,QA,QB,QC,QD,QE,QF,QG,QH,QI,QK]
  first | done | rfl
 ·simp (config:={maxSteps:=1000000}) (disch:=(try simp only [awL]);omega) only [awS,Tryz.f52,↓awU,awV,awX,awF,↓reduceIte,↓reduceDIte,↓Qe,Qu,Qv,Qw,Qx,Qy,Qz,QA,QB,QC,QD,QE,QF,QG,QH,QI,QK]
  first | done | rfl
theorem ixT_spec (l:List Cel) (full:Bool) (hl:l.length≤1000000) :
  Ctr TP G 84 [.d (CelS l full),.d (.fn (.func 52) [] [])] [] (.d (.int .i64 (ixF vsT l 0))) []:=by
 refine Ctr.pure (M:=M0) hmix Tryz.func84 rfl go84 ?_
 have sl:=@celsD_length l
 simp (config:={maxSteps:=1000000}) (disch:=(try simp only [awL]);omega) only [awS,sl,Tryz.f84,↓awU,awV,awX,awF,↓reduceIte,↓reduceDIte,↓Qe,Qu,Qv,Qw,Qx,Qy,Qz,QA,QB,QC,QD,QE,QF,QG,QH,QI,QK]
 refine LoopC.fr 131 (α:=Nat) (fun i=>l.length - i) (fun i=>[(8,.d (.int .i64 i))]) (fun _=>[]) (fun i=>i≤l.length∧ixF vsT l 0=ixF vsT (l.drop i) i) 0 ⟨Nat.zero_le _,rfl⟩ ?_ ?_
 ·exact ⟨[],rfl,by simp,by simp [sA,kA,SW,AW],by simp [HW,BW,SW,AW]⟩
 ·rintro i ⟨h1,h2⟩
  simp only [awK,Nat.reduceMod,Nat.reduceDiv,reduceIte]
  rw [h2]
  rcases Nat.lt_or_ge i l.length with h | h
  ·have g:=celsD_get h
   rw [ixF_at (d:=noC) h]
   generalize l.getD i noC=o at *
   simp (config:={maxSteps:=1000000}) (disch:=(try simp only [awL]);omega) only [awS,sl,g,↓awU,awV,awX,awF,↓reduceIte,↓reduceDIte,↓Qe,Qu,Qv,Qw,Qx,Qy,Qz,QA,QB,QC,QD,QE,QF,QG,QH,QI,QK]
   refine CallC.of (guess1_spec o) (by rfl) ?_
   cases hx:vsT o
   ·simp (config:={maxSteps:=1000000}) (disch:=(try simp only [awL]);omega) only [awS,↓awU,awV,awX,awF,↓reduceIte,↓reduceDIte,↓Qe,Qu,Qv,Qw,Qx,Qy,Qz,QA,QB,QC,QD,QE,QF,QG,QH,QI,QK]
    exact ⟨i+1,⟨h,rfl⟩,by simp only;omega,⟨[],rfl,by simp,by simp [sA,kA,SW,AW],by simp [HW,BW,SW,AW]⟩⟩
   ·simp (config:={maxSteps:=1000000}) (disch:=(try simp only [awL]);omega) only [awS,↓awU,awV,awX,awF,↓reduceIte,↓reduceDIte,↓Qe,Qu,Qv,Qw,Qx,Qy,Qz,QA,QB,QC,QD,QE,QF,QG,QH,QI,QK]
  ·rw [List.drop_eq_nil_of_le h]
   simp (config:={maxSteps:=1000000}) (disch:=(try simp only [awL]);omega) only [awS,sl,↓awU,awV,awX,awF,↓reduceIte,↓reduceDIte,↓Qe,Qu,Qv,Qw,Qx,Qy,Qz,QA,QB,QC,QD,QE,QF,QG,QH,QI,QK]
   rfl
theorem anyT_spec (l:List Cel) (full:Bool) (hl:l.length≤1000000) :
  Ctr TP G 51 [.d (CelS l full),.d (.fn (.func 52) [] [])] [] (.d (.bool (l.any vsT))) []:=by
 refine Ctr.pure (M:=M0) hmix Tryz.func51 rfl go51 ?_
 have ia:=ixF_any (p:=vsT) l 0 (Int.le_refl _)
 have sp:=ixT_spec (G:=G) l full hl
 have sp2:=ixT_spec (G:=G) l false hl
 simp (config:={maxSteps:=1000000}) (disch:=(try simp only [awL]);omega) only [awS,Tryz.f51,↓awU,awV,awX,awF,↓reduceIte,↓reduceDIte,↓Qe,Qu,Qv,Qw,Qx,Qy,Qz,QA,QB,QC,QD,QE,QF,QG,QH,QI,QK]
 first | refine CallC.of sp (by rfl) ?_ | refine CallC.of sp2 (by rfl) ?_
 all_goals (
  generalize ixF vsT l 0=z at *
  cases hx:l.any vsT
  ·have:¬ 0≤z:=fun q=>by have:=ia.1 q;rw [hx] at this;cases this
   simp (config:={maxSteps:=1000000}) (disch:=(try simp only [awL]);omega) only [awS,↓awU,awV,awX,awF,↓reduceIte,↓reduceDIte,↓Qe,Qu,Qv,Qw,Qx,Qy,Qz,QA,QB,QC,QD,QE,QF,QG,QH,QI,QK]
   first | done | rfl
  ·have:0≤z:=ia.2 hx
   simp (config:={maxSteps:=1000000}) (disch:=(try simp only [awL]);omega) only [awS,↓awU,awV,awX,awF,↓reduceIte,↓reduceDIte,↓Qe,Qu,Qv,Qw,Qx,Qy,Qz,QA,QB,QC,QD,QE,QF,QG,QH,QI,QK]
   first | done | rfl)
theorem optC_hd {l:List Opt} (h:0<l.length):(optC l).getD 0 .nilp=S (l.getD 0 noO).txt:=by
 rcases l with _ | ⟨o,l⟩
 ·simp at h
 ·rfl
theorem guess_spec (hG:Num.HG G) (hE:HE G) (hP:HP G) (hO:HO G) (nm:List UInt8) (l:List Cel) (full:Bool) (hl:okY l) :
  Ctr TP G 22 [.d (.agg [S nm,CelS l full])] [] (.d (.int .i64 (gsT l))) []:=by
 refine Ctr.pure (M:=M0) hmix Tryz.func22 rfl go22 ?_
 have a1:=anyT_spec (G:=G) l full hl.1
 have a2:=anyT_spec (G:=G) l false hl.1
 have o1:=toptions_spec hG hE hP hO nm l full hl
 have o2:=toptions_spec hG hE hP hO nm l false hl
 unfold gsT
 have ol:=optsT_len l
 rw [ol] at o1 o2
 have hd:=optC_hd (l:=optsT l) (by omega)
 have oc:=optC_length (optsT l)
 rw [ol] at oc
 have ns:=named_spec (G:=G) ((optsT l).getD 0 noO).txt
 generalize optC (optsT l)=O at *
 generalize ((optsT l).getD 0 noO).txt=x at *
 simp (config:={maxSteps:=1000000}) (disch:=(try simp only [awL]);omega) only [awS,Tryz.f22,↓awU,awV,awX,awF,↓reduceIte,↓reduceDIte,↓Qe,Qu,Qv,Qw,Qx,Qy,Qz,QA,QB,QC,QD,QE,QF,QG,QH,QI,QK]
 first | refine CallC.of a1 (by rfl) ?_ | refine CallC.of a2 (by rfl) ?_
 all_goals (
  cases hx:l.any vsT
  ·rw [if_neg Bool.false_ne_true]
   simp (config:={maxSteps:=1000000}) (disch:=(try simp only [awL]);omega) only [awS,↓awU,awV,awX,awF,↓reduceIte,↓reduceDIte,↓Qe,Qu,Qv,Qw,Qx,Qy,Qz,QA,QB,QC,QD,QE,QF,QG,QH,QI,QK]
   first | done | rfl
  ·rw [if_pos rfl]
   simp (config:={maxSteps:=1000000}) (disch:=(try simp only [awL]);omega) only [awS,↓awU,awV,awX,awF,↓reduceIte,↓reduceDIte,↓Qe,Qu,Qv,Qw,Qx,Qy,Qz,QA,QB,QC,QD,QE,QF,QG,QH,QI,QK]
   first | refine CallC.of o1 (by rfl) ?_ | refine CallC.of o2 (by rfl) ?_
   all_goals (
    simp (config:={maxSteps:=1000000}) (disch:=(try simp only [awL]);omega) only [awS,oc,hd,↓awU,awV,awX,awF,↓reduceIte,↓reduceDIte,↓Qe,Qu,Qv,Qw,Qx,Qy,Qz,QA,QB,QC,QD,QE,QF,QG,QH,QI,QK]
    refine CallC.of ns (by first | rfl) ?_
    simp (config:={maxSteps:=1000000}) (disch:=(try simp only [awL]);omega) only [awS,↓awU,awV,awX,awF,↓reduceIte,↓reduceDIte,↓Qe,Qu,Qv,Qw,Qx,Qy,Qz,QA,QB,QC,QD,QE,QF,QG,QH,QI,QK]
    first | done | rfl))
end Go.Proofs.YtdpjcghiegggbaaGreatDoor
namespace Go.Proofs.YtdpjcghiegggbaaGreatDoor
open Go Go.Proofs Go.Abs Go.RowKit Go.ChangeShapes Go.WideShapes Go.ChangeAt Go.Shelf Go.Joins Go.Deep
theorem own:ownKnob Tryz.prog.godebug=none:=by kernel_rfl
theorem laidOut:laidOutB TP=true:=by kernel_rfl
theorem gOne:Tryz.prog.globalNamed "tablefinder/fraction.one" = some 1:=by kernel_rfl
theorem tOne:(Tryz.prog.globals[1]?).map (·.type)=some 121:=by kernel_rfl
theorem cU32:Tryz.prog.cellsOf 106=1:=by kernel_rfl
theorem mem_getD' {l:List Int} {i:Nat} {d:Int} (h:i<l.length):l.getD i d∈l:=by
 rw [List.getD_eq_getElem?_getD,List.getElem?_eq_getElem h];exact List.getElem_mem h
theorem cU8:Tryz.prog.cellsOf 5=1:=by kernel_rfl
theorem cU64:Tryz.prog.cellsOf 124=1:=by kernel_rfl
theorem cInt:Tryz.prog.cellsOf 3=1:=by kernel_rfl
theorem list_u8 {l:List Int} (h:∀ n∈l,(Lit.int .u8 n).wf=true):∀ i,0≤l.getD i 0∧l.getD i 0≤255:=by
 intro i
 rcases Nat.lt_or_ge i l.length with hi | hi
 ·have:=h _ (mem_getD' (d:=0) hi)
  simp [Lit.wf,IntKind.min,IntKind.max,IntKind.bits,IntKind.signed] at this
  rw [List.getD_eq_getElem?_getD]
  omega
 ·rw [List.getD_eq_getElem?_getD,List.getElem?_eq_none hi];simp
def ReadV (X:World) (g:Nat) (ds:List D):Prop:=∃ vs:Nat→Value,(∀ (i:Nat) x,ds[i]? = some x→X.cell? ⟨g,i,none⟩=some (vs i))∧(∀ (i:Nat) x,ds[i]? = some x→RD (heldW X) (vs i) x)
theorem one_read {X:World} (h:Lib.VarReads TP X "tablefinder/fraction.one" Rows.laid_tablefinder_fraction_one):ReadV X 1 [Num.W [1]]:=by
 obtain ⟨g,t,cs,fuel,p,hg,ht,hv,hd⟩:=h
 obtain rfl:=Option.some.inj (gOne.symm.trans hg)
 obtain rfl:=Option.some.inj (tOne.symm.trans ht)
 rcases open_ints Tryz.underlying121 Tryz.underlying106 cU32 hd with ⟨_,hx⟩ | ⟨a,len,cap,zs,hcs,_,hl,hm,hz,hx,hcell,_⟩
 ·simp [Rows.laid_tablefinder_fraction_one] at hx
 ·have hz:zs.length=cap:=by simpa using hz
  simp only [Rows.laid_tablefinder_fraction_one,Prod.mk.injEq,DataW.slice.injEq] at hx
  obtain ⟨⟨h1,h2⟩,_⟩:=hx
  have e1:(zs.take len).length=1:=by
   have:=congrArg List.length h1;simpa [lits] using this.symm
  have e2:(zs.drop len).length=0:=by
   have:=congrArg List.length h2;simpa [lits] using this.symm
  have e3:len=1∧cap=1:=by simp at e1 e2;omega
  obtain ⟨rfl,rfl⟩:=e3
  obtain ⟨z,rfl⟩:∃ z,zs=[z]:=by
   match zs,hz with
   | [z],_=>exact ⟨z,rfl⟩
  have ez:z=1:=by
   have:=h1;simp [lits] at this;exact this.symm
  subst ez
  have hz0:=World.var?_cell hg hv 0
  have e4:cs[0]? = some (.slice (some a) 1 1):=by
   have:cs=#[.slice (some a) 1 1]:=by rw [← Array.toArray_toList (xs:=cs),hcs]
   rw [this];rfl
  rw [e4] at hz0
  rcases RD_ints (W:=X) (k:=.u32) hl (by simp) hcell with hr | hr
  ·refine ⟨fun _=>.slice (some a) 1 1,fun i x hx=>?_,fun i x hx=>?_⟩
   ·rcases i with _ | i
    ·exact hz0
    ·simp at hx
   ·rcases i with _ | i
    ·simp at hx;subst hx;exact hr
    ·simp at hx
  ·cases hr
theorem pow_eq:(Rows.laid_internal_strconv_uint64pow10:DataW Unit)=Lib.tabData .u64 Lib.pow10Tab:=by kernel_rfl
theorem gPow:Tryz.prog.globalNamed "internal/strconv.uint64pow10" = some 2:=by kernel_rfl
theorem tPow:(Tryz.prog.globals[2]?).map (·.type)=some 194:=by kernel_rfl
theorem cPow:Tryz.prog.cellsOf 194=20:=by kernel_rfl
theorem pow_read {X:World} (h3:Lib.VarReads TP X "internal/strconv.uint64pow10" Rows.laid_internal_strconv_uint64pow10):ReadV X 2 (ints .u64 Lib.pow10Tab):=by
 rw [pow_eq] at h3
 obtain ⟨g',t,cs,fuel,p,hg',ht',hvar,hd⟩:=h3
 obtain rfl:=Option.some.inj (gPow.symm.trans hg')
 obtain rfl:=Option.some.inj (tPow.symm.trans ht')
 have hcs:=Lib.cells_of_tab Tryz.underlying194 Tryz.underlying124 cU64 cPow hd
 refine ⟨fun i=>.int .u64 (Lib.pow10Tab.getD i 0),fun i x hx=>?_,fun i x hx=>?_⟩
 ·have hi:i<Lib.pow10Tab.length:=by have:=(List.getElem?_eq_some_iff.1 hx).1;simpa [ints] using this
  show X.cell? ⟨_,i,none⟩=_
  rw [World.var?_cell hg' hvar i,← Array.getElem?_toList,hcs]
  simp [hi]
 ·have hi:i<Lib.pow10Tab.length:=by have:=(List.getElem?_eq_some_iff.1 hx).1;simpa [ints] using this
  simp only [ints,List.getElem?_map,List.getElem?_eq_getElem hi,Option.map_some,Option.some.injEq] at hx
  subst hx
  show RD _ (Value.int .u64 (Lib.pow10Tab.getD i 0)) _
  rw [List.getD_eq_getElem?_getD,List.getElem?_eq_getElem hi]
  exact .int _ _
theorem gSyn:Tryz.prog.globalNamed "strconv.ErrSyntax" = some 4:=by kernel_rfl
theorem tSyn:(Tryz.prog.globals[4]?).map (·.type)=some 135:=by kernel_rfl
theorem gRan:Tryz.prog.globalNamed "strconv.ErrRange" = some 5:=by kernel_rfl
theorem tRan:(Tryz.prog.globals[5]?).map (·.type)=some 135:=by kernel_rfl
theorem iface_read {X:World} {g:Nat} {n nm:String} {d:DataW Unit} (hg0:Tryz.prog.globalNamed n=some g) (ht0:(Tryz.prog.globals[g]?).map (·.type)=some 135) (h:Lib.VarReads TP X n (.iface nm d)):ReadV X g [.ifc]:=by
 obtain ⟨g',t,cs,fuel,p,hg,ht,hv,hd⟩:=h
 obtain rfl:=Option.some.inj (hg0.symm.trans hg)
 obtain rfl:=Option.some.inj (ht0.symm.trans ht)
 obtain ⟨f2,u,v,hcs,_,_⟩:=iface_of_trod Tryz.underlying135 hd
 have hc:X.cell? ⟨g,0,none⟩=some (.iface u v):=by
  rw [World.var?_cell hg hv 0,← Array.getElem?_toList,hcs]
  rfl
 refine ⟨fun _=>.iface u v,fun i x hx=>?_,fun i x hx=>?_⟩
 ·rcases i with _ | i
  ·exact hc
  ·simp at hx
 ·rcases i with _ | i
  ·simp at hx;subst hx;exact .ifc _ _
  ·simp at hx
def G6:Globals:=fun g=>if g=1 then some [Num.W [1]] else if g=2 then some (ints .u64 Lib.pow10Tab)
 else if g=4 then some [.ifc] else if g=5 then some [.ifc] else none
theorem globOK6 {X:World} (h1:Lib.VarReads TP X "tablefinder/fraction.one" Rows.laid_tablefinder_fraction_one) (h2:Lib.VarReads TP X "internal/strconv.uint64pow10" Rows.laid_internal_strconv_uint64pow10)
  (h3:Lib.VarReads TP X "strconv.ErrSyntax" Rows.laid_strconv_ErrSyntax) (h4:Lib.VarReads TP X "strconv.ErrRange" Rows.laid_strconv_ErrRange):GlobOK G6 X:=by
 intro g ds hgd
 unfold G6 at hgd
 split at hgd
 ·rename_i e;subst e;cases hgd;exact one_read h1
 ·split at hgd
  ·rename_i e;subst e;cases hgd;exact pow_read h2
  ·split at hgd
   ·rename_i e;subst e;cases hgd;exact iface_read gSyn tSyn h3
   ·split at hgd
    ·rename_i e;subst e;cases hgd;exact iface_read gRan tRan h4
    ·cases hgd
theorem ord_eq:(Rows.laid_tablefinder_types_order:DataW Unit)=Lib.tabData .i64 ordL:=by kernel_rfl
theorem gOrd:Tryz.prog.globalNamed "tablefinder/types.order" = some 0:=by kernel_rfl
theorem tOrd:(Tryz.prog.globals[0]?).map (·.type)=some 90:=by kernel_rfl
theorem cOrd:Tryz.prog.cellsOf 90=5:=by kernel_rfl
theorem ord_read {X:World} (h3:Lib.VarReads TP X "tablefinder/types.order" Rows.laid_tablefinder_types_order):ReadV X 0 (ints .i64 ordL):=by
 rw [ord_eq] at h3
 obtain ⟨g',t,cs,fuel,p,hg',ht',hvar,hd⟩:=h3
 obtain rfl:=Option.some.inj (gOrd.symm.trans hg')
 obtain rfl:=Option.some.inj (tOrd.symm.trans ht')
 have hcs:=Lib.cells_of_tab Tryz.underlying90 Tryz.underlying3 cInt cOrd hd
 refine ⟨fun i=>.int .i64 (ordL.getD i 0),fun i x hx=>?_,fun i x hx=>?_⟩
 ·have hi:i<ordL.length:=by have:=(List.getElem?_eq_some_iff.1 hx).1;simpa [ints] using this
  show X.cell? ⟨_,i,none⟩=_
  rw [World.var?_cell hg' hvar i,← Array.getElem?_toList,hcs]
  simp [hi]
 ·have hi:i<ordL.length:=by have:=(List.getElem?_eq_some_iff.1 hx).1;simpa [ints] using this
  simp only [ints,List.getElem?_map,List.getElem?_eq_getElem hi,Option.map_some,Option.some.injEq] at hx
  subst hx
  show RD _ (Value.int .i64 (ordL.getD i 0)) _
  rw [List.getD_eq_getElem?_getD,List.getElem?_eq_getElem hi]
  exact .int _ _
def G7:Globals:=fun g=>if g=0 then some (ints .i64 ordL) else G6 g
theorem hG7:Num.HG G7:=by simp [Num.HG,G7,G6]
theorem hP7:HP G7:=rfl
theorem hE7:HE G7:=⟨rfl,rfl⟩
theorem hO7:HO G7:=rfl
theorem globOK7 {X:World} (h0:GlobOK G6 X) (h:Lib.VarReads TP X "tablefinder/types.order" Rows.laid_tablefinder_types_order):GlobOK G7 X:=by
 intro g ds hgd
 unfold G7 at hgd
 split at hgd
 ·rename_i e;subst e;cases hgd;exact ord_read h
 ·exact h0 g ds hgd
end Go.Proofs.YtdpjcghiegggbaaGreatDoor
