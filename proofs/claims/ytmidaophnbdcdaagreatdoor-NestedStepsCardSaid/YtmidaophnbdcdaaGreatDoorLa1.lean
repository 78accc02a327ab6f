/-
  The abstract machine, part 1: data, abstract values, how they are held by memory, and how memory may grow.
-/
import Derived.Orders
import Derived.OrdersIn
import Derived.RangeFuncLeaves
import Derived.RangeFuncRecord
import Derived.Laws.Append
import Derived.Laws.CopyRow
import Derived.Laws.Rows
import Derived.Laws.MakeOwn
import Derived.Laws.World
import Derived.IntWalk
import Derived.Tactics
import Derived.Laws.Tables
import Derived.Laws.Small
import Derived.Laws.Slices
import Derived.Laws.StructEq
set_option linter.all false
open List renaming getElem?_eq_some_iff->AbY,getElem?_eq_getElem->AbZ,getElem?_map->Aen,getElem?_range->Aer,eq_nil_of_length_eq_zero->Aes,getElem?_take->Aeu,length_append->Aev,getElem?_append->Aew,range->Aex,getD_eq_getElem?_getD->AeB,getElem?_drop->AfI,getElem?_toArray->Af2,size_toArray->Agb,getElem_of_mem->Agv,getElem?_eq_none_iff->Agy,mem_cons->AgA,map_cons->AgB,length_take->AgD,mem_cons_of_mem->AgI,getElem?_set->AgM,map_map->AgO,all_eq_true->AgQ,getElem_mem->AgR,map_toArray->AgS,length_map->AgT,map_nil->AgX
open Array renaming getElem?_eq_getElem->Aeg,getElem?_map->AfZ,getElem?_toList->Af1,getElem?_append->Af7,size_append->Aga,getElem?_range->Agp,getElem?_extract->AgF,mem_of_getElem?->AgH,range->AgY,ext'->AgZ
open Option renaming map_some->Aeq,isSome_iff_exists->AgC,getD_some->AgE,map_none->AgU,map->AgV
open Nat renaming mul_le_mul_right->Aet,add_mul->AeA,le_refl->Af0,sub_self->Agq,zero_add->Agw,eq_zero_or_pos->Agx,add_assoc->Agz,zero_mul->AgG,lt_of_lt_of_le->AgK,le_of_eq->AgN,le_trans->AgW
open Int renaming le_refl->Agu,toNat_natCast->AgP
open Function renaming comp->AgJ
open Bool renaming false_eq_true->AgL
namespace Go
theorem aa {p:Prop}(h:p:=by (try simp only[Ac]);omega):p:=h
theorem ab {a b:Prop}(x:a)(y:b):a/\b:=⟨x,y⟩
section
variable {p:Prop}
def ac(h:p:=by refine Ctr.pure (M:=M0) Ak Tryz.func184 rfl Adp ?_;simp(disch:=(try simp only[Ac]);omega)only[Af,Tryz.f184,↓Ab,Ad,↓reduceIte,↓Qe,Qu,Qv];refine ⟨fun _=>rfl,fun h=>(decide_eq_false fun e=>h ?_).symm⟩;have:=congrArg List.length e;simp at this;omega):=h
def aj(h:p:=by rw[show NQ.rst data ⟨p4,!b1 || !b2,BH (AE t n) txt::s,ob2,l++([K3.length+1]++[H2.length+1]),KE⟩ none=_ from e4];exact hY.mu):=h
def ak(h:p:=by intro q hq e;have:=BV hq;rw[e] at this;obtain ⟨k',c',u1,u2⟩:=BQ.1 this;have:=uniq u1 e1;subst this;rw[hb2] at u2;cases u2):=h
def aq(h:p:=by have:=hx▸hops x mx;generalize a.eval x=v at this;cases this with | mp _ g' S' hρ=>rw[b1] at hρ;cases hρ;rfl):=h
def ar(h:p:=by have:=mu3;simp only[muP] at this;show (sgn (AC t.kind) (sgn 44 r).1).1.length<rest.length;omega):=h
def au(h:p:=by intro b off v e;rw[World.cell?_alloc_lt w o ⟨b,off,none⟩ (s.held_lt e)];exact s.prom b off v e):=h
def ay(h:p:=by have:=mu3;simp only[muP] at this;show (sgn (AC t.kind) (sgn 44 r).1).1.length<r.length;omega):=h
def az(h:p:=by rw[hsame _ (h.lt (.i q) hq) (hr (.i q) hq).1 (hr (.i q) hq).2];exact h.item q hq):=h
def aC(h:p:=by have:=of_decide_eq_true h;have h2:=congrArg List.length this;simp at h2;omega):=h
def aD(h:p:=by obtain ⟨g',S',e1,e2⟩:=(hx▸hops x mx).ptr_inv;rw[b1] at e2;cases e2;exact e1):=h
def aF(h:p:=by intro c;have:=g2.lt (.n 0) (by show 0<8+_;omega);rw[c] at this;simp at this):=h
def aK(h:p:=by intro h;exact hd (Int.natAbs_eq_zero.1 (Nat.gcd_eq_zero_iff.1 h).2)):=h
def aL(h:p:=by have hj:=(AbY.1 hd).1;simp[Aer hj] at hu;subst hu;exact hr' j d hd):=h
def aM(h:p:=by rcases Aer.1 hb with hb | hb;exact Aen _ hb;exact AbY _ (AbY _ hb)):=h
def aN(h:p:=by rcases Aex.1 q with q | q;omega;have:=h.stack.lt _ (AbY _ q);omega):=h
def aO(h:p:=by rcases Aes.1 hb with hb | hb;exact AbZ _ hb;exact Aen _ (AbZ _ hb)):=h
def aQ(h:p:=by have:ra.length+2<r.length+2:=mu3;show ra.length<rest.length;omega):=h
def aR(h:p:=by unfold Program.built;simp only[h1,h2,h3,hpl,epl];simpa using e1):=h
def aS(h:p:=by have:ra.length+2<r.length+2:=mu3;show ra.length<r.length;omega):=h
def aT(h:p:=by have:=slc hk.1 w (some ⟨g,off,none⟩) n cap;rw[he];exact this):=h
def aU(h:p:=by intro g hg i S e;obtain ⟨b,_,hb⟩:=hρc' i _ e;exact hg b S hb):=h
def a8(h:p:=by rw[<-hu'];exact hdd.append (by intro x hx;simp at hx;omega)):=h
def bf(h:p:=by have h8:=(CO (h:=h) h7).1;have h9:=Nl hte;simp at h8;omega):=h
def bi(h:p:=by unfold Ez;rw[if_neg (by rw[h91];simp),if_pos h123];rw[hr1]):=h
def bm(h:p:=by rw[if_neg h92,if_neg h34,if_neg h10,if_neg h13,if_neg h9]):=h
def bn(h:p:=by have:=Tri.of_awp (r:=none) hm c _ _ _ h;rwa[hM] at this):=h
def bp(h:p:=by have:=hasP_le q;simp only[Aeu,Aeg,Aet] at this ⊢;omega):=h
def br(h:p:=by unfold Zz;rw[Ly.itk_zero];exact ⟨x1,C7.refl _ _ _,x3⟩):=h
def bv(h:p:=by unfold cmpI;split<;>first | omega | (split<;>omega)):=h
def bB(h:p:=by show (AV.one ka && AV.one qa)=true;rw[hk3,hq3];rfl):=h
def bD(h:p:=by unfold RP at e;split at e<;>first | rfl | cases e):=h
def bF(h:p:=by rw[ints_length];simp only[Aes,Bh,AfZ,dl2,Aet,Agq]):=h
def bG(h:p:=by rw[Rat.den_divInt,if_neg hd,Int.gcd,AgX d.natAbs]):=h
def bH(h:p:=by intro x hx;simp at hx;subst hx;simp only[B];omega):=h
def bJ(h:p:=by rw[AD _ _ b (fun q hq e=>k2 (e▸BV hq))];exact hb):=h
def bW(h:p:=by rcases ho with ho | ho<;>simp[Op.operands,ho]):=h
def ca(h:p:=by have:=(On _ _ _ _ hcs);simpa[AQ] using this):=h
def cd(h:p:=by have:=slc hk.1 w base 0 0;rw[he];exact this):=h
def cq(h:p:=by refine Aen _ ?_;rw[<-hr,Aew,Aes,Aeq];omega):=h
def cy(h:p:=by have:=(AbY.1 hx).1;simpa[AQ] using this):=h
def cz(h:p:=by have:=(CO (h:=h) h7).1;simpa using this):=h
def cA(h:p:=by have:=(Aeq.1 hx).1;simpa[Ha] using this):=h
def cB(h:p:=by have:=(Aeq.1 hx).1;simpa[OR] using this):=h
def cC(h:p:=by have:=(Aeq.1 hx).1;simpa[Ar] using this):=h
def cD(h:p:=by rw[fz];intro p hp;rw[AgQ.1 hp];exact lp):=h
def cF(h:p:=by rw[IG,AQ,Agw];apply Agq;intro j _;simp):=h
def cH(h:p:=by cases r with | d _ _ hx=>cases hx;rfl):=h
def cI(h:p:=by rw[h5];exact Gh hs c1 hh (fun _=>rfl)):=h
def cJ(h:p:=by rcases h with h | h;exact h;simp at h):=h
def cM(h:p:=by have:=(AbZ.1 hp).1;simp at this;omega):=h
def cP(h:p:=by rw[hTS];simp only[Aen,Aer,Aeu];omega):=h
def cQ(h:p:=by have:=(AbY.1 hu).1;simpa using this):=h
def cR(h:p:=by rw[h5];exact q4 w.drew (fun _=>rfl)):=h
def cU(h:p:=by have:=(Aga.1 hx).1;simpa using this):=h
def cY(h:p:=by obtain ⟨j,_,hj⟩:=Fz e;exact ⟨j,hj⟩):=h
def di(h:p:=by rw[Aeu];simp only[Aeg] at hs;omega):=h
def dq(h:p:=by rw[M2 st k5 (by rw[hqe];simp)];rfl):=h
def dy(h:p:=by rw[hcs,Aev,c1,k2,<-AeA];exact hle):=h
def dA(h:p:=by rintro y rfl;simp[Op.operands,ho]):=h
def dB(h:p:=by show H1.length+1<=H'.length;omega):=h
def dC(h:p:=by show H1.length+6<=H'.length;omega):=h
def dH(h:p:=by rw[i3] at hl1;rw[<-hl1];exact t1):=h
def dI(h:p:=by unfold Ez;rw[if_pos h91];rw[hr1]):=h
def dJ(h:p:=by rw[s3];cases b1<;>cases b2<;>rfl):=h
def dK(h:p:=by rw[csc,GK];unfold Iy;rw[hc];rfl):=h
def dO(h:p:=by rw[hids];exact AbZ _ (AbY _ hb)):=h
def dP(h:p:=by have:=hstk.len;simpa using this):=h
def dS(h:p:=by rw[h5];exact q4 w (fun _=>rfl)):=h
def dT(h:p:=by subst e;exact NB hu he hd base):=h
def dU(h:p:=by have:=hds'.1;have:=hrl.1;omega):=h
def dV(h:p:=by rw[hit,hS1i,Aeu,Ag5,Af0];omega):=h
def dW(h:p:=by show S1.rows.length=_;rw[hS1r]):=h
def d9(h:p:=by rw[<-sf3];exact Aew (p+1) data):=h
def eC(h:p:=by have:=hg.1;simp at this;omega):=h
def eD(h:p:=by have:=(s.dom i g S e).1;omega):=h
def eF(h:p:=by rw[byteCells_length];exact h3):=h
def eG(h:p:=by rw[byteCells_append];exact bw):=h
def eI(h:p:=by have:=@pk_range t k n h;omega):=h
def eJ(h:p:=by rw[BZ,ho];simpa[val] using hv):=h
def eK(h:p:=by show 0<8+S1.rows.length;omega):=h
def eM(h:p:=by show 6<8+S1.rows.length;omega):=h
def eN(h:p:=by have:=h2.len;simpa using this):=h
def eO(h:p:=by have:=hpos b (AbZ _ hm);omega):=h
def eP(h:p:=by rw[List.length_map,Fd];omega):=h
def eQ(h:p:=by rw[Lib.cell_of_heap hb1];rfl):=h
def eR(h:p:=by rw[Lib.cell_of_heap hb2];rfl):=h
def eT(h:p:=by show k<8+s.rows.length;omega):=h
def eY(h:p:=by rw[<-AeA];exact Aet _ hroom):=h
def eZ(h:p:=by rw[hc k b (GE hk)];exact hρ):=h
def fc(h:p:=by (try simp only[DR]);try rfl):=h
def ff(h:p:=by have:=h2 s (AbY _ hs);omega):=h
def fg(h:p:=by show t.keys.length<=_;omega):=h
def fh(h:p:=by rintro rfl;simp[hil] at hS):=h
def fi(h:p:=by rw[List.length_take];omega):=h
def fp(h:p:=by unfold maxLen at h63;omega):=h
def fw(h:p:=by rw[byteCells_length];omega):=h
def fC(h:p:=by intro p hp;simp[frz] at hp):=h
def fF(h:p:=by have:=h.stack.lt _ q;omega):=h
def fG(h:p:=by rw[hw'];exact SB.2 ⟨_,rfl⟩):=h
def fH(h:p:=by rw[<-sf1];exact Aew p data):=h
def fL(h:p:=by rw[AD _ _ j hjn];exact e2):=h
def fM(h:p:=by rw[hsize];simpa using hxl):=h
def fO(h:p:=by rw[AbY,Aeg h];exact AgJ h):=h
def fP(h:p:=by have:=(h3 c hc).2.1;omega):=h
def fQ(h:p:=by rw[csu,Ro,UT];simp[Cm,FT]):=h
def fU(h:p:=by have:=(AbY.1 hy).1;omega):=h
def fV(h:p:=by have:=(AbZ.1 hy).1;omega):=h
def fW(h:p:=by have:=(AbZ.1 hx).1;omega):=h
def fX(h:p:=by have:=(AbY.1 hz).1;omega):=h
def fY(h:p:=by by_cases h:a=b<;>simp[h]):=h
def fZ(h:p:=by cases x<;>simp[muR] at h):=h
def gi(h:p:=by rw[<-AeA];congr 1;omega):=h
def gm(h:p:=by unfold isD at hgi;omega):=h
def gq(h:p:=by rw[hno o] at e;cases e):=h
def gr(h:p:=by unfold isD at hg;omega):=h
def gt(h:p:=by unfold Fb;split<;>simp):=h
def gy(h:p:=by rw[k1] at hb;cases hb):=h
def gA(h:p:=by rw[setD_length];omega):=h
def gE(h:p:=by rw[get m1];simp[renB]):=h
def gF(h:p:=by show 1+BG ne<=_;omega):=h
def gL(h:p:=by rw[hk1,Aeq];exact hr):=h
def gP(h:p:=by have:=t'.size;omega):=h
def gQ(h:p:=by have:=h2 s hs;omega):=h
def gS(h:p:=by have:=this.1;omega):=h
def gT(h:p:=by have:=hvs.1;omega):=h
def gW(h:p:=by rw[hr];exact l2.2):=h
def gX(h:p:=by rw[AbY,Agz h];rfl):=h
def gY(h:p:=by rw[Dg,mr3,hc];rfl):=h
def gZ(h:p:=by rw[hm1];exact hcD):=h
def g8(h:p:=by have:=Df hc;omega):=h
def g9(h:p:=by rw[DE];simp;omega):=h
def hO(h:p:=by rw[<-h2];simp[i0]):=h
def ib(h:p:=by unfold B1;decide):=h
def ic(h:p:=by have:=Cv n;omega):=h
def ie(h:p:=by rw[Dg,m3,hc];rfl):=h
def ig(h:p:=by rw[hA];exact hAP):=h
def im(h:p:=by have:=r.1;omega):=h
def io(h:p:=by rw[b3];exact b4):=h
def ip(h:p:=by rw[h6];exact c4):=h
def cL(h:p:=by rw[Aeg iw];exact he):=h
def iw(h:p:=by have:=m.1;omega):=h
def iB(h:p:=by rw[gD];exact hc):=h
def iC(h:p:=by rw[e1];exact ha):=h
def iT(h:p:=by rw[R0];exact e):=h
def iU(h:p:=by subst hops;rfl):=h
def iV(h:p:=by rw[DQ];exact h):=h
def ba(h:p:=by rw[hH2,Ay iZ,A8 iZ]<;>rfl):=h
def aw(h:p:=by rw[hH2,Ay jf,Ao (Ne.symm j0),Ao (Ne.symm jo),Ao (Ne.symm j0),Ao (Ne.symm j0)]):=h
def aA(h:p:=by rw[hH2,Ay jf,Ao (Ne.symm j0),Ao (Ne.symm jo),Ao (Ne.symm j0)]):=h
def jh(h:p:=by rw[hcs];omega):=h
def ju(h:p:=by split<;>omega):=h
def jv(h:p:=by rw[Aer];omega):=h
def jx(h:p:=by rw[Dw];decide):=h
def jA(h:p:=by rw[<-hcl,AgG]):=h
def jB(h:p:=by rw[hr1];omega):=h
def jD(h:p:=by rw[AeB];omega):=h
def jE(h:p:=by rw[h5];omega):=h
def jF(h:p:=by rw[AK];omega):=h
def dX(h:p:=by rw[hHA];simp[cut,flB,LO,DB,Pj]):=h
def jI(h:p:=by rw[hHA];simp):=h
def jJ(h:p:=by rw[ik0];simp):=h
def jK(h:p:=by rw[hH2];simp):=h
def jL(h:p:=by rw[iq0];simp):=h
def jM(h:p:=by rw[ll];omega):=h
def jN(h:p:=by rw[lE];omega):=h
def jP(h:p:=by rw[ho];simp):=h
def jU(h:p:=by cases n;rfl):=h
def bT(h:p:=by rw[hKE,Ay jN,A8 jW]):=h
def kg(h:p:=by rw[Dw];rfl):=h
def kj(h:p:=by rw[ke];rfl):=h
def kF(h:p:=by rw[<-hS1]):=h
def jV(h:p:=by cases e;rfl):=h
def lh(h:p:=by cases e):=h
def kT(h:p:=by cases hx):=h
def kU(h:p:=by cases hb):=h
def kW(h:p:=by cases hm):=h
def kX(h:p:=by cases hs):=h
def kY(h:p:=by cases ht):=h
def lx(h:p:=by cases h):=h
def ah(h:p:=by cases rec with | true=>rfl | false=>first | exact absurd hr lz | (rw[show ks=[] from o.nrecd (by show (5:Int)≠6;decide)] at q;simp at q)):=h
def bK(h:p:=by have:0<10^(decB s).length:=Ag0 lz;omega):=h
def c8(h:p:=by rw[<-hdig];exact Aeu _ lz):=h
def iY(h:p:=by decide +kernel):=h
def ae(h:p:=by have h:=C1 (l:=(decF s++decB s).take i) fun b hb=>hall b (Aga hb);have h2:10^((decF s++decB s).take i).length<=10^29:=Agb lz jv;have h3:(10:Nat)^30=10^29*10:=rfl;omega):=h
def am(h:p:=by have h:=C1 (l:=(decF s++decB s).take i) fun b hb=>hall b (Aga hb);exact Bz (Af2 h (Agb lz jv))):=h
def lz(h:p:=by decide):=h
def ai(h:p:=by first | (exfalso;omega) | (have hc:i=0\/i=1\/i=2\/i=3:=by omega;rcases hc with rfl | rfl | rfl | rfl<;>first | rfl | (exfalso;omega))):=h
def aB(h:p:=by have:=hs.len;rw[ho1] at this;simp only[Aev,AgN] at this;exact Agp.1 lA):=h
def aZ(h:p:=by rw[ef 0 lA lA (nq 0 lA)];exact h.box):=h
def bd(h:p:=by rw[KK.keep H'.length lA lA L3.2];exact L3.1):=h
def be(h:p:=by rw[K7.keep H'.length lA lA L3.2];exact L3.1):=h
def bq(h:p:=by rw[show hasP rest Eu=false from b2' 0 lA];simp):=h
def bz(h:p:=by rw[ef 1 l1 lA (nq 1 lA)];exact h.b1):=h
def bA(h:p:=by rw[hby];exact growslice_fits lA lA):=h
def bC(h:p:=by show (H6.set _ _)[1]?=_;rw[Ao lA];exact e6):=h
def bE(h:p:=by have:=h.1;simp[binOp,Op.shift,show ¬b<0 by omega]):=h
def bM(h:p:=by rw[K3.keep H'.length lA lL nL];exact eL'):=h
def bO(h:p:=by rw[K3.keep 1 lA lA m1];exact e1):=h
def bP(h:p:=by rw[KK.keep 1 lA lA n3];exact b3):=h
def bQ(h:p:=by rw[K7.keep 1 lA lA n3];exact b3):=h
def bR(h:p:=by rw[show ((d-1:Nat):Int)=(d:Int)-1 by omega];rfl):=h
def cG(h:p:=by rw[AbZ (l:=d) lA];exact hv.out):=h
def cT(h:p:=by rw[AbY,AgD,if_pos lA,<-AbY]):=h
def cZ(h:p:=by rw[show k-1+1=k by omega];exact hv):=h
def df(h:p:=by rw[<-cpt];exact cut_all lA):=h
def dE(h:p:=by rwa[show i+(j+1)=i+1+j by omega]):=h
def dY(h:p:=by rw[Aev,Af7 lA,hc];simp):=h
def dZ(h:p:=by rw[AgI _ _ lA,hc];simp):=h
def d7(h:p:=by rw[Agv,AgE lA,hc];simp):=h
def d8(h:p:=by rw[AgP _ _ lA,hc];simp):=h
def eo(h:p:=by rw[h5];exact Aet _ lA):=h
def fD(h:p:=by rw[Ao lA];exact e3):=h
def gu(h:p:=by rw[b2 lA];simp):=h
def aY(h:p:=by rw[K5.keep H.length lA jW hF0];exact e4):=h
def lA(h:p:=by omega):=h
def ki(h:p:=by rw[e];simp):=h
def kB(h:p:=by rw[e];rfl):=h
def lB(h:p:=by rw[e]):=h
def aE(h:p:=by simp only[Agq,Agu,Agw,or_false,not_or,AgJ,and_true,not_false_eq_true];omega):=h
def aG(h:p:=by simp only[Agb,Aex,AgK,or_false,not_or,AgP,and_true,not_false_eq_true];omega):=h
def aH(h:p:=by simp only[Aer,Aex,AgF,or_false,not_or,AgA,and_true,not_false_eq_true];omega):=h
def aI(h:p:=by simp only[execOp,ho,ex,Sem.run_bind,v1,Result.andThen_ok,Sem.run_pure]):=h
def aJ(h:p:=by simp only[Aga,Agb,size_zeroCells,hzl,hlo,c1,q2,<-AeA];congr 1;omega):=h
def aV(h:p:=by simp only[binOp];simp[run_equal_slice_nil w t e base n c hu]):=h
def aW(h:p:=by simp(disch:=omega) [HW,BW,SW,AW,A4,Ba,Bd,A0,AbY,AbZ,cge,cut]):=h
def aX(h:p:=by simp(disch:=omega) [HW,BW,SW,AW,A4,Ba,Bd,A0,AbY,AbZ,cce,Af0]):=h
def bh(h:p:=by simp(disch:=omega) [HW,BW,SW,AW,Ba,A0,AbY,AbZ,cce,cut,Af0]):=h
def bj(h:p:=by simp(disch:=omega) [sA,kZ,SW,AW,A4,Ba,Bd,AbY,AbZ,cge,cut]):=h
def bk(h:p:=by simp(disch:=omega) [sA,kZ,SW,AW,A4,Ba,Bd,AbY,AbZ,cce,Af0]):=h
def bo(h:p:=by simp(disch:=omega) [HW,BW,SW,AW,Ba,A0,AbY,AbZ,cge,cut]):=h
def bu(h:p:=by simp(disch:=omega) [HW,BW,SW,AW,Ba,A0,AbY,AbZ,DU,BR]):=h
def bI(h:p:=by simp(disch:=omega) [sA,kZ,SW,AW,A4,Ba,Bd,AbY,AbZ]):=h
def bN(h:p:=by simp(disch:=omega)only[Bb,AX,AU,A3,A2,and_self]):=h
def bS(h:p:=by simp(disch:=omega)only[Bb,AX,AU,A3,Og,and_self]):=h
def bt(h:p:=by simp[IntKind.wrap,IntKind.bits,IntKind.signed];omega):=h
def bU(h:p:=by simp[IntKind.wrap,IntKind.bits,IntKind.signed]):=h
def bV(h:p:=by simp[execOp,ho,he,e2,run w g off n cap c1 c2]):=h
def bY(h:p:=by simp(disch:=omega)only[Bb,AX,AU,A3,and_self]):=h
def bZ(h:p:=by simp(disch:=omega)only[Bb,AX,AU,A2,and_self]):=h
def co(h:p:=by simp(disch:=omega) [SW,AW,A4,Ba,Bd,AbY,AbZ]):=h
def cv(h:p:=by simp(disch:=omega)only[Bb,AX,AU,and_self]):=h
def cw(h:p:=by simp only[Agw,AgD,c0,c1,c2,c3,c4,c5];rfl):=h
def cK(h:p:=by simp[Op.equalIn,run_underlying hu,CC]):=h
def cN(h:p:=by simp only[Agw,AgD,c0,c1,c2,c3,c4];rfl):=h
def cO(h:p:=by simp only[AeB,Af2,c0,c1,c2,c3,c4];rfl):=h
def cS(h:p:=by simp only[Hv];cases Hv ks c e<;>rfl):=h
def cV(h:p:=by simp[Op.operands,Call.operands,ho]):=h
def cW(h:p:=by simp[AY] at hcm;simp[sidsA,hn,hcm]):=h
def cX(h:p:=by simp[AY] at hcm;simp[sidsA,hd,hcm]):=h
def c9(h:p:=by simp only[sz];split<;>simp<;>omega):=h
def dh(h:p:=by simp only[AeB,Af2,c0,c1,c2,c3];rfl):=h
def dm(h:p:=by simp only[AgB,AgN,c0,c1,c2,c3];rfl):=h
def dv(h:p:=by simp only[AgA,AgB,c0,c1,c3,c4];rfl):=h
def dw(h:p:=by simp only[AgA,AgB,c1,c2,c3,c4];rfl):=h
def dD(h:p:=by simp only[Addr.add_lit];exact r1):=h
def dF(h:p:=by rw[hj2 hj'];exact ⟨_,hj,lC⟩):=h
def dG(h:p:=by simp[stepG,stepG.exec,Frame.atR]):=h
def dL(h:p:=by simp only[AeB,Af2,c0,c1,c2];rfl):=h
def dM(h:p:=by simp[MK,AX,AU,hcl,fl];exact hcv):=h
def dN(h:p:=by simp only[Aen,Af1,AgE];exact g3):=h
def dQ(h:p:=by rw[A0 lC];simp[strs];rfl):=h
def dR(h:p:=by simpa[Op.operands,ho] using hx):=h
def eA(h:p:=by rw[hr b' lC];exact hb'):=h
def eB(h:p:=by simp[sidsA,hd];exact Cr hx hb):=h
def eS(h:p:=by simp only[Agq,Agv,AgL];omega):=h
def eU(h:p:=by simp only[Aen,Aer,Aeu];omega):=h
def eV(h:p:=by simp only[Aeg] at hs ⊢;omega):=h
def eW(h:p:=by rw[hr _ lC];simp[hp]):=h
def eX(h:p:=by rw[hr b lC];exact hb):=h
def fe(h:p:=by simp only[Aen,AgE];exact g3):=h
def fA(h:p:=by simp[sA,kZ,SW,AW,As,A5,AR]):=h
def fB(h:p:=by simp only[sz,AfZ];exact lt):=h
def fJ(h:p:=by simp[binOp,Op.intDiv,h.1]):=h
def fK(h:p:=by simp[binOp,Op.intBits,CH]):=h
def fS(h:p:=by rw[hH2,A0 lC];simp):=h
def gc(h:p:=by simp[Am,Ne.symm hbn,hn]):=h
def gd(h:p:=by simp[binOp,Op.intArith]):=h
def gh(h:p:=by simp[binOp,Op.stringOp]):=h
def gj(h:p:=by simp only[sz,AgE];omega):=h
def gp(h:p:=by simpa[AG] using e.symm):=h
def gv(h:p:=by simpa[Am,hx] using h1):=h
def gx(h:p:=by simp[binOp,Op.intCmp]):=h
def gB(h:p:=by simp[HW,BW,setB_weak]):=h
def gC(h:p:=by simp[bl,Op.bytesLess]):=h
def gG(h:p:=by simp[Op.operands,ho]):=h
def gH(h:p:=by simp[Utf8.runeError]):=h
def gI(h:p:=by simp[HW,BW,SW,AW,AR]):=h
def gJ(h:p:=by simp[sA,kZ,SW,AW,IM]):=h
def gM(h:p:=by simpa[bnd] using hm):=h
def gR(h:p:=by simp only[B];omega):=h
def gn(h:p:=by simp[HW,BW,SW,AW]<;>rfl):=h
def gU(h:p:=by simp[HW,BW,SW,AW]):=h
def gV(h:p:=by simp[sA,kZ,SW,AW]):=h
def ii(h:p:=by simp[BH,Nd.keys]):=h
def ij(h:p:=by simp[AE,Nd.kids]):=h
def iu(h:p:=by simp[hsz];omega):=h
def iz(h:p:=by simp only;omega):=h
def iA(h:p:=by simp[mkS,SW,AW]):=h
def iF(h:p:=by simp[Am,hj,h2]):=h
def iL(h:p:=by simpa using c1):=h
def aP(h:p:=by simp[Op.operands,Call.operands,ho];exact .inr iO):=h
def iZ(h:p:=by simpa using l0):=h
def i7(h:p:=by simpa using la):=h
def i9(h:p:=by simpa using lr):=h
def ja(h:p:=by simpa using l6):=h
def jb(h:p:=by simpa using l7):=h
def jc(h:p:=by simp[sA,kZ,Ce]):=h
def jd(h:p:=by simp[hc];omega):=h
def iE(h:p:=by simpa using lb2):=h
def je(h:p:=by simpa using lb):=h
def jf(h:p:=by simpa using jl):=h
def hZ(h:p:=by simpa using hd.1):=h
def iG(h:p:=by simpa using hv):=h
def ir(h:p:=by simpa using hlt):=h
def iy(h:p:=by simpa using hl'):=h
def iI(h:p:=by simpa using hl):=h
def iJ(h:p:=by simpa using hp):=h
def iK(h:p:=by simpa using hq):=h
def iM(h:p:=by simpa using hj):=h
def iN(h:p:=by simpa using h1):=h
def iO(h:p:=by simpa using hx):=h
def iP(h:p:=by simpa using hk):=h
def iQ(h:p:=by simpa using hi):=h
def iR(h:p:=by simpa using hK):=h
def iS(h:p:=by simpa using h2):=h
def iX(h:p:=by simpa using hc):=h
def iD(h:p:=by simpa using hb1):=h
def jg(h:p:=by simpa using hb):=h
def ji(h:p:=by simpa using h):=h
def jk(h:p:=by simp[BS] at h):=h
def jm(h:p:=by simpa using a):=h
def jp(h:p:=by simp[hp] at e):=h
def jq(h:p:=by simp[fR] at h):=h
def iW(h:p:=by simp[Bc] at h1):=h
def jr(h:p:=by simp[Bc] at h):=h
def js(h:p:=by simp[SW,AW,B]):=h
def jt(h:p:=by simp[HW,BW,B]):=h
def iH(h:p:=by simpa using e2):=h
def jw(h:p:=by simpa using e):=h
def jy(h:p:=by simpa using q):=h
def jz(h:p:=by simp[AY,idsL]):=h
def jC(h:p:=by simp[Nd.keys]):=h
def jG(h:p:=by simp[Ly.row]):=h
def jH(h:p:=by simp[JT,ly0]):=h
def jO(h:p:=by simp[h1,h2]):=h
def jQ(h:p:=by simp[Ar,AB]):=h
def jR(h:p:=by simp[SW,AW]):=h
def jS(h:p:=by simp[AW,SW]):=h
def jT(h:p:=by simp[HW,BW]):=h
def jW(h:p:=by simp;omega):=h
def jX(h:p:=by simp[ih.1]):=h
def kf(h:p:=by simp[W,ho]):=h
def ko(h:p:=by simp[cut]):=h
def kq(h:p:=by simp[hxs]):=h
def ku(h:p:=by simp[m.1]):=h
def ia(h:p:=by simp at hi;omega):=h
def jY(h:p:=by simp at hl):=h
def jZ(h:p:=by simp at hd):=h
def kx(h:p:=by simp at h):=h
def kC(h:p:=by simp[Dig]):=h
def kD(h:p:=by simp[val]):=h
def an(h:p:=by rw[hH2];exact ((((h.nox.set _ lC).set _ lC).set _ lC).set _ lC).app kE):=h
def ax(h:p:=by rw[hH2];exact (((h.nox.set _ lC).set _ lC).set _ lC).app kE):=h
def kE(h:p:=by simp[NoX]):=h
def kG(h:p:=by simp[hcl]):=h
def kH(h:p:=by simp[Am]):=h
def kI(h:p:=by simp[hx]):=h
def kJ(h:p:=by simp[hy]):=h
def kK(h:p:=by simp[hb]):=h
def kL(h:p:=by simp[hj]):=h
def kM(h:p:=by simp[q2]):=h
def kN(h:p:=by simp[Ar]):=h
def kO(h:p:=by simp[Ed]):=h
def kP(h:p:=by simp[AW]):=h
def kQ(h:p:=by simp[HW]):=h
def kR(h:p:=by simp[ho]):=h
def kS(h:p:=by simp[hq]):=h
def kV(h:p:=by simp[Ce]):=h
def bX(h:p:=by simp[win,lu',AgG (l:=u) (i:=n+3) lA]):=h
def lC(h:p:=by simp):=h
def lD(h:p:=by rfl):=h
def lF(h:p:=by exact ⟨(⟨(sgn (AC t.kind) (sgn 44 r).1).1,s,ob2,ids6,H6.set H'.length (.box [.d (.int .i64 t.kind),.d (S t.text),.d (Ss t.keys false),.d (.sl kk.length false (AH kk))])⟩,some (.mk t.kind t.text t.keys kk)),⟨P6.other lA m6 lC,bC,n6,⟨.mk t.kind t.text t.keys kk,A8 lA,fun m hm=>by cases hm;rfl⟩,m6,ar,hres3,hok3⟩,ay,.inl ⟨rfl,kV⟩⟩):=h
def lG(h:p:=by exact ⟨ko,ko,i+1,hit,iz,DA.pre [some P0.length,some (P0.length+1),some (P0.length+2),some (P0.length+3),some (P0.length+7)] h.self lC lC bj aW⟩):=h
def lI(h:p:=by exact ⟨ko,i+1,hit,iz,DA.pre [some P0.length,some (P0.length+1),some (P0.length+2),some (P0.length+3),some (P0.length+7)] h.self lC lC co bo⟩):=h
def lJ(h:p:=by exact ⟨(k+1,out++[(l.getD k 0+B-m.getD k 0-c) % B],if l.getD k 0<m.getD k 0+c then 1 else 0),fin _ _ rfl rfl h1,iz,[some 2],rfl,lC,jR,jT⟩):=h
def lK(h:p:=by exact ⟨_,_,h',_,exec a w _ _ (by rw[hb];exact hrun),s1,.lsl H.length te.size 0 (n+m) _ w.heap.size _ (Aw _ _ _) hge jh,A6.drew.trans t1⟩):=h
def lM(h:p:=by exact ⟨(⟨ra,rc,ob2,ids5,H5⟩,none),⟨P5,e5,n5,⟨.mk nk2 nt2 nks2 nl2,L5,fun m hm=>kW⟩,m5,aQ,hres3,hok3⟩,aS,.inl ⟨rfl,kV⟩⟩):=h
def lN(h:p:=by exact ⟨ko,k+1,hlt,iz,DA.pre [some P0.length,some (P0.length+1),some (P0.length+6)] h.self lC lC co bh⟩):=h
def lO(h:p:=by exact ⟨k+1,hlt,iz,DA.pre [some P0.length,some (P0.length+1),some (P0.length+6)] h.self lC lC bk aX⟩):=h
def lP(h:p:=by exact ⟨fun e=>lh,fun _=>⟨rfl,rfl⟩,List.Pairwise.nil,fun d hd=>jZ,fun _ _=>rfl,fun l e=>lh⟩):=h
def lQ(h:p:=by exact ⟨_,a₁,w₁,⟨s₁,H₁,hq,ha₁⟩,.pass (x:=.inLoop c) rfl (fun _ _=>.inl lC) harr⟩):=h
def lR(h:p:=by exact ⟨fun h=>(F6 h).symm,fun h=>⟨fun h'=>(F7 h').symm,fun h'=>(Fh lA).symm⟩⟩):=h
def lU(h:p:=by exact ⟨.int .i64 ((0:Nat):Int),exec a w w _ cd,.d _ _ (.int _ _)⟩):=h
def lV(h:p:=by exact ⟨⟨g,S,v,(pl e1).trans b1,b2,.inl b3,b4⟩,fun _ j' hj'=>dF⟩):=h
def lW(h:p:=by exact ⟨undef,hh,ρ,rfl,hs,.tup #[] [] rfl lC,(A6.refl _ _ _).y⟩):=h
def lY(h:p:=by exact ⟨.int .i64 (n:Int),exec a w w _ aT,.d _ _ (.int _ _)⟩):=h
def l9(h:p:=by exact ⟨BO (BO (BO (BO a1 (one _ lz)) a2) (one _ lz)) a3,eS⟩):=h
def mb(h:p:=by exact ⟨[some 0,some 1,some 2,some 3,some 4],rfl,lC,jR,gU⟩):=h
def mg(h:p:=by exact ⟨bO,K3.not_mem m1 lA,bM,K3.not_mem nL lL⟩):=h
def mj(h:p:=by exact ⟨[some 0],rfl,lC,gU,.inl (Or.inl rfl)⟩):=h
def mn(h:p:=by exact ⟨fun _=>rfl,setRow_other w g k c' hk⟩):=h
def mo(h:p:=by exact ⟨μ y,S y,HH y,h2,h3,y,h1,rfl,rfl,rfl⟩):=h
def mq(h:p:=by exact ⟨[some 0,some 1,some 2],rfl,lC,fA,gI⟩):=h
def ma(h:p:=by exact ⟨x+1,⟨h,nx⟩,iz,mw⟩):=h
def mc(h:p:=by exact ⟨i+1,h1,iz,mw⟩):=h
def md(h:p:=by exact ⟨j+1,h2,iz,mw⟩):=h
def mw(h:p:=by exact ⟨[some 0,some 1,some 2],rfl,lC,jR,gU⟩):=h
def mz(h:p:=by exact ⟨[some 0,some 1,some 2],rfl,lC,gJ,gI⟩):=h
def mA(h:p:=by exact ⟨[some 0,some 1,some 2],rfl,lC,jR,gn⟩):=h
def mE(h:p:=by exact ⟨[some 0,some 1],rfl,lC,jT,.inl kP⟩):=h
def mF(h:p:=by exact ⟨rfl,rfl,cut_all (by rw[B6];omega)⟩):=h
def mG(h:p:=by exact ⟨[some 0,some 1,none],rfl,lC,gV,gU⟩):=h
def mH(h:p:=by exact ⟨y,by simpa[Am,hjb] using hy1,hy2⟩):=h
def mI(h:p:=by exact ⟨_,_,_,.weak hw,x0,h0,rfl,rfl,rfl⟩):=h
def mK(h:p:=by exact ⟨_,_,_,_,rfl,.inl ⟨h,rfl,rfl,rfl⟩⟩):=h
def mL(h:p:=by exact ⟨_,_,_,_,rfl,.inr ⟨h,rfl,rfl,rfl⟩⟩):=h
def mM(h:p:=by exact ⟨[none],rfl,lC,gV,by simp[HW,AR]⟩):=h
def mQ(h:p:=by exact ⟨lC,lC,(fun s hs=>kX),lC,trivial⟩):=h
def mR(h:p:=by exact ⟨⟨[],.inr ⟨rfl,rfl⟩,rfl,rfl⟩,lC⟩):=h
def mS(h:p:=by exact ⟨rfl,rfl,rfl,P5.other lA hF lC⟩):=h
def lZ(h:p:=by exact ⟨lD,0,⟨lz,hgU.out,e0⟩,mT⟩):=h
def mT(h:p:=by exact ⟨[some 0,some 1],rfl,lC,jR,jT⟩):=h
def mV(h:p:=by exact ⟨[some 0,some 1],rfl,lC,gV,gU⟩):=h
def mW(h:p:=by exact ⟨k+1,⟨hlt,e⟩,iz,.inl ⟨rfl,kV⟩⟩):=h
def mN(h:p:=by exact ⟨lD,mY⟩):=h
def mY(h:p:=by exact ⟨[some 0],rfl,lC,gU,.inl kP⟩):=h
def mZ(h:p:=by exact ⟨[some 0],rfl,lC,gU,.inl jS⟩):=h
def m4(h:p:=by exact ⟨[some 0],rfl,lC,jT,.inl kP⟩):=h
def m7(h:p:=by exact ⟨[some 0],rfl,lC,gB,.inl kP⟩):=h
def m8(h:p:=by exact ⟨.inl rfl,.inl rfl,trivial⟩):=h
def nf(h:p:=by exact ⟨k+1,hlt,iz,.inl ⟨rfl,kV⟩⟩):=h
def mD(h:p:=by exact ⟨lD,.inr ng⟩):=h
def nh(h:p:=by exact ⟨[],rfl,IF.nil,fun p=>jH⟩):=h
def nj(h:p:=by exact ⟨[some 0],rfl,lC,gV,jT⟩):=h
def mC(h:p:=by exact ⟨(),trivial,no⟩):=h
def no(h:p:=by exact ⟨[some 0],rfl,lC,jR,jT⟩):=h
def np(h:p:=by exact ⟨[some 0],rfl,lC,iA,jT⟩):=h
def nr(h:p:=by exact ⟨[some 0],rfl,lC,gV,gU⟩):=h
def mh(h:p:=by exact ⟨i+1,⟨h,rfl⟩,iz,nu⟩):=h
def nu(h:p:=by exact ⟨[some 0],rfl,lC,jR,gU⟩):=h
def nv(h:p:=by exact ⟨_,_,_,_,_,rfl,rfl,rfl⟩):=h
def nw(h:p:=by exact ⟨fun _=>rfl,hh.2 k hk⟩):=h
def ny(h:p:=by exact ⟨[],rfl,lC,kQ,.inl kP⟩):=h
def lS(h:p:=by exact ⟨.inl rfl,.inl rfl,.inl rfl,.inr (.inr nA),trivial⟩):=h
def lT(h:p:=by exact ⟨.inl rfl,.inl rfl,.inr (.inr nA),trivial⟩):=h
def nA(h:p:=by exact ⟨_,rfl,rfl,.inl rfl⟩):=h
def nC(h:p:=by exact ⟨.inl rfl,trivial⟩):=h
def nD(h:p:=by exact ⟨[],rfl,lC,gV,kQ⟩):=h
def me(h:p:=by exact ⟨i+1,⟨hil,Fi hdi hil hgi⟩,iz,nE⟩):=h
def mf(h:p:=by exact ⟨k+1,⟨hl,Fi hd hl hg⟩,iz,nE⟩):=h
def mJ(h:p:=by exact ⟨i+1,⟨h,rfl⟩,iz,nE⟩):=h
def mO(h:p:=by exact ⟨i+1,⟨h,h2⟩,iz,nE⟩):=h
def mP(h:p:=by exact ⟨i+1,⟨h,h3⟩,iz,nE⟩):=h
def mU(h:p:=by exact ⟨(),trivial,nE⟩):=h
def nE(h:p:=by exact ⟨[],rfl,lC,jR,kQ⟩):=h
def nF(h:p:=by exact ⟨lC,rfl,kC,lC,kD⟩):=h
def nG(h:p:=by exact ⟨ij,_,ij,rfl,e3n⟩):=h
def dx(h:p:=by cases dk<;>exact nH):=h
def nH(h:p:=by exact ⟨_,_,_,_,_,_,rfl⟩):=h
def nI(h:p:=by exact ⟨rfl,Or.inl rfl⟩):=h
def mX(h:p:=by exact ⟨rfl,Or.inr nJ⟩):=h
def ng(h:p:=by exact ⟨rfl,.inr nJ⟩):=h
def nJ(h:p:=by exact ⟨_,rfl,rfl,rfl⟩):=h
def nK(h:p:=by simp(disch:=(try simp only[Ac]);omega)only[Af,nl,↓Ab,Ad,↓reduceIte,Qu];refine Aa.frozenE (Db (As (L.take i)) 10 lA jx) kg ?_;simp(disch:=(try simp only[Ac]);omega)only[e48,↓Ab,Ad,↓reduceIte,Qu];refine Aa.pure (Fg ((L.getD i 0).toNat-48) lA) ?_;simp only[↓Ab,Ad,↓reduceIte,Qu];refine Aa.pure (IY (As (L.take i)*10) ((L.getD i 0).toNat-48) lA lA) ?_;rw[hp];simp(disch:=(try simp only[Ac]);omega)only[↓Ab,Ad,Qu];exact mc):=h
def nM(h:p:=by refine Aa.pure (Ck false (As L) lA) ?_;simp only[↓Ab,Ad,↓reduceIte,Qu];refine Aa.pure (Ck false (10^(decB s).length) lA) ?_;simp(disch:=(try simp only[Ac]);omega)only[↓Ab,Ad,↓reduceIte,Qu];refine Aa.of (Ff (if false=true then -(As L:Int) else (As L:Int)) ((10^(decB s).length:Nat):Int) hd0 c9 gj) lD ?_;rw[<-hdv];simp(disch:=(try simp only[Ac]);omega)only[↓Ab,Ad,↓reduceIte,↓Qe,Qu];first | done | rfl):=h
def nN(h:p:=by refine Aa.pure (Ck true (As L) lA) ?_;simp only[↓Ab,Ad,↓reduceIte,Qu];refine Aa.pure (Ck false (10^(decB s).length) lA) ?_;simp only[↓Ab,Ad,↓reduceIte,Qu];refine Aa.of (Ff (if true=true then -(As L:Int) else (As L:Int)) ((10^(decB s).length:Nat):Int) hd0 c9 gj) lD ?_;rw[<-hdv];simp(disch:=(try simp only[Ac]);omega)only[↓Ab,Ad,↓reduceIte,↓Qe,Qu];first | done | rfl):=h
def nO(h:p:=by simp only[Bm,Aew,Aex];simp(disch:=(try simp only[Ac]);omega)only[Af,Fl,DY,Tu,Tt,J3,J2,tn2,tn3,smA,smB,↓Ab,Ad,↓reduceIte,Qu,QB,QF];first | (exact mZ) | (refine ⟨lD,?_⟩;exact mZ) | (refine ⟨lD,lD,?_⟩;exact m4) | (refine ⟨lD,lD,lD,?_⟩;exact mZ)):=h
def nP(h:p:=by simp only[Bm,Aew,Aex];simp(disch:=(try simp only[Ac]);omega)only[Af,Fl,DY,Tu,Tt,J3,J2,tn2,tn3,smA,smB,↓Ab,Ad,↓reduceIte,Qu,QB,QF];first | (exact mZ) | (refine ⟨lD,?_⟩;exact mZ) | (refine ⟨lD,lD,?_⟩;exact mZ) | (refine ⟨lD,lD,lD,?_⟩;exact m4)):=h
def nQ(h:p:=by have hj':j<len*i.size:=(by rw[h5];exact hj);simp only[zc,hne,if_false,AfZ,Agp,hj',if_true,Aeq,Option.some.injEq] at hv;simp only[AQ,AgO,Aen,Aer hj,Aeq,AgJ,Option.some.injEq] at hx;subst hv;subst hx;exact .d _ _ (GM h7 k2 j)):=h
def nR(h:p:=by simp(disch:=(try simp only[Ac]);omega)only[↓Ab,Ad,↓reduceIte,Qu];refine Aa.frozenE (Db (10^j) 10 lA jx) kg ?_;rw[<-AgM];simp(disch:=(try simp only[Ac]);omega)only[↓Ab,Ad,↓reduceIte,Qu];exact md):=h
def nS(h:p:=by rw[hr];simp(disch:=(try simp only[Ac]);omega)only[Af,ht2,↓Ab,Ad,↓reduceIte];refine Aa.of hd2 lD ?_;simp(disch:=(try simp only[Ac]);omega)only[↓Ab,Ad,↓Qe];first | done | rfl):=h
def nT(h:p:=by rw[decide_eq_false lA,Aet,Aet] at hr;subst hr;simp(disch:=(try simp only[Ac]);omega)only[Tryz.f95,↓Ab,Ad,↓reduceIte,↓Qe,Qu,Qv];first | done | rfl | exact ⟨lD,lD⟩):=h
def nU(h:p:=by unfold Oper.wp execOp;simp only[ho,resolve,invoke,builtin,Sem.run_bind,Sem.run_pure,Result.andThen_ok,Ahc,Aev,Agp,hs,hx,hr];exact hK _ _ (h v' w' h2 h3 h4)):=h
def nV(h:p:=by simp only[Instr.mapUpdate,Sem.run_bind,run_underlying hu,Result.andThen_ok,MapKept.run_getObj_map b2,hc,q3,e4,hst,MapKept.run_setObj_map _ b2]):=h
def nW(h:p:=by have e0:digB p 9=true:=digB_iff.2 ⟨lA,lA,hdi⟩;rw[e0];simp(disch:=(try simp only[Ac]);omega)only[Af,↓Ab,Ad,↓reduceIte,↓Qe];first | done | rfl):=h
def nX(h:p:=by rw[SQ lA] at hr;subst hr;simp(disch:=(try simp only[Ac]);omega)only[ndC,Tryz.f98,↓Ab,Ad,↓reduceIte,↓Qe,Qu,Qv];first | done | rfl | simp):=h
def nY(h:p:=by simp[execOp,ho,Instr.buildSlice,run_underlying hu,sizeOf,typeInfo,h1,hz0,k1',zeroValue,h3];simp at e1';simp[e1',newRow,newObj,Sem.run]):=h
def nZ(h:p:=by rw[decide_eq_false l0,AeA,AgJ] at hr;subst hr;simp(disch:=(try simp only[Ac]);omega)only[↓Ab,Ad,↓reduceIte,↓Qe,Qu];first | done | rfl):=h
def n7(h:p:=by simp only[Aeg,reduceIte] at hr;subst hr;simp(disch:=(try simp only[Ac]);omega)only[↓Ab,Ad,↓reduceIte,↓Qe,Qu,Qw,Qz];first | done | rfl):=h
def n8(h:p:=by rw[decide_eq_false k0,AeA] at hr;subst hr;simp(disch:=(try simp only[Ac]);omega)only[↓Ab,Ad,↓reduceIte,↓Qe,Qu];first | done | rfl):=h
def n9(h:p:=by rw[decide_eq_false k0,Aeu] at hr;subst hr;simp(disch:=(try simp only[Ac]);omega)only[↓Ab,Ad,↓reduceIte,↓Qe,Qu];first | done | rfl):=h
def oa(h:p:=by subst h;rw[decide_eq_false lA] at hr;subst hr;simp(disch:=(try simp only[Ac]);omega)only[Tryz.f142,↓Ab,Ad,↓reduceIte,↓Qe,Qv]):=h
def oc(h:p:=by simp only[execOp,ho,resolve,he,Deferred.ofValue,invoke,Sem.run_bind,Sem.run_pure,Result.andThen_ok];exact hcall _ _ w hgo):=h
def od(h:p:=by subst w20;rw[if_neg lC] at hr;rw[hr];simp(disch:=(try simp only[Ac]);omega)only[↓Ab,Ad,↓reduceIte,↓Qe];first | done | rfl):=h
def oe(h:p:=by rw[tl,ek];generalize pk t (k+1+1+1) 3=z at *;simp(disch:=(try simp only[Ac]);omega)only[↓Ab,Ad,↓reduceIte,Qu];exact mY):=h
def og(h:p:=by rw[Ay i7,Ao (h.ne (ok 0 lA) ha (Ne.symm a0)),Ao (h.ne (ok 3 lA) ha (Ne.symm a3)),Ao (h.ne (ok 1 lA) ha (Ne.symm a1))]):=h
def oh(h:p:=by rw[decide_eq_false lA] at hr;subst hr;simp(disch:=(try simp only[Ac]);omega)only[Tryz.f77,↓Ab,Ad,↓reduceIte,↓Qe,Qv]):=h
def om(h:p:=by rw[hcb,decide_eq_false lA,AgA] at h2;simp(disch:=(try simp only[Ac]);omega)only[Af,hx,↓Ab,Ad,↓reduceIte];exact mO):=h
def oo(h:p:=by unfold Bq;rw[x1,x2,x3];simp(disch:=(try simp only[Ac]);omega)only[Af,↓Ab,Ad,↓reduceIte,↓Qe];first | done | rfl):=h
def oq(h:p:=by have:=BV hq;rw[e] at this;obtain ⟨k',c',u1,u2⟩:=BQ.1 this;have:=uniq u1 e1;subst this;rw[hb2] at u2;cases u2):=h
def ou(h:p:=by obtain ⟨hu,hte⟩:=AJ hse;simp[execOp,ho,hx,Instr.sliceAt,run_underlying hu,Instr.slice,hb,run_sizeOf hte]):=h
def ov(h:p:=by unfold Bq;rw[q2];simp(disch:=(try simp only[Ac]);omega)only[Af,↓Ab,Ad,↓reduceIte,↓Qe];first | done | rfl):=h
def ow(h:p:=by unfold Bq;rw[q5];simp(disch:=(try simp only[Ac]);omega)only[Af,↓Ab,Ad,↓reduceIte,↓Qe];first | done | rfl):=h
def ox(h:p:=by subst hr;simp(disch:=(try simp only[Ac]);omega)only[Af,tz',↓Ab,Ad,↓reduceIte,↓Qe,Qu];first | done | rfl):=h
def oy(h:p:=by simp(disch:=(try simp only[Ac]);omega)only[Af,OT,rl,cr,Cl,BK,↓Ab,Ad,↓reduceIte,↓Qe,Qv,QA,QF];try rfl):=h
def oz(h:p:=by rcases ho with ho | ho<;>simp only[execOp,ho,ex,Sem.run_bind,hrun,Result.andThen_ok,Sem.run_pure]):=h
def oA(h:p:=by rw[ha];simp(disch:=(try simp only[Ac]);omega)only[l1,n1,g1,↓Ab,Ad,↓reduceIte,Qu];rw[hr];exact mY):=h
def oC(h:p:=by subst hr;simp(disch:=(try simp only[Ac]);omega)only[↓Ab,Ad,↓reduceIte,↓Qe,Qu];first | done | rfl):=h
def oD(h:p:=by rw[h2] at hr;subst hr;simp(disch:=(try simp only[Ac]);omega)only[↓Ab,Ad,↓Qe];first | done | rfl):=h
def oE(h:p:=by simp only[Instr.lookup,Sem.run_bind,run_underlying hu,Result.andThen_ok,Sem.run_pure,hc,hf,hz]):=h
def oF(h:p:=by rw[q2];simp(disch:=(try simp only[Ac]);omega)only[Af,↓Ab,Ad,↓reduceIte,↓Qe];first | done | rfl):=h
def oG(h:p:=by rintro ⟨⟩ -;simp only[Bm,Aew,Aex];simp(disch:=(try simp only[Ac]);omega)only[↓Ab,Ad];exact mC):=h
def oH(h:p:=by simp(disch:=(try simp only[Ac]);omega)only[Af,hP,↓Ab,Ad,↓reduceIte,↓Qe];first | done | rfl):=h
def oI(h:p:=by have:=(AbY.1 hx).1;rw[if_pos lA,if_neg lA] at hv;exact hb _ x v hx (by rw[<-h1];exact hv)):=h
def oJ(h:p:=by generalize a.eval x=v at this;cases this with | mp _ g' S' hρ=>rw[b1] at hρ;cases hρ;rfl):=h
def oK(h:p:=by refine ⟨h',ρ,?_,q2.mono t1.mono (Place.le_refl _),q4.go t1.y⟩;rw[EA _ _ k4,CG];exact s2):=h
def oL(h:p:=by simp(disch:=(try simp only[Ac]);omega)only[↓Ab,Ad,↓reduceIte,↓Qe,Qu];first | done | rfl):=h
def oM(h:p:=by simp(disch:=(try simp only[Ac]);omega)only[Af,↓Ab,Ad,↓reduceIte,↓Qe];first | done | rfl):=h
def oN(h:p:=by subst hr;simp(disch:=(try simp only[Ac]);omega)only[Tryz.f142,↓Ab,Ad,↓reduceIte,↓Qe,Qv]):=h
def oO(h:p:=by simp only[execOp,ho,Sem.run_bind,run_build w t _ c' hb,Result.andThen_ok,Sem.run_pure]):=h
def oP(h:p:=by exact ih i v _ hv hx (hg.2 i _ y hx hy) (fun b hb=>hf b (by simp[AY];exact GF hx hb))):=h
def oQ(h:p:=by exact ⟨e,fun h ρ H' a w hs' hx hr=>h1 h ρ H' a w hs' (fun z hz=>(hx z hz).noE) hr,h2⟩):=h
def oR(h:p:=by subst hr;simp(disch:=(try simp only[Ac]);omega)only[Af,↓Ab,Ad,↓Qe];first | done | rfl):=h
def oS(h:p:=by simp(disch:=(try simp only[Ac]);omega)only[ndC,Tryz.f43,↓Ab,Ad,↓reduceIte,↓Qe,Qu,Qv]):=h
def oT(h:p:=by simp[execOp,ho,Instr.alloc,zeroValue,typeInfo,h1,h3,newVar,newRow,newObj,Sem.run]):=h
def oU(h:p:=by rw[hi.1 h];simp(disch:=(try simp only[Ac]);omega)only[↓Ab,Ad,↓reduceIte];exact mY):=h
def oV(h:p:=by rw[hsf ef,AeA] at hr;subst hr;simp only[↓Ab,Ad,↓reduceIte,↓Qe];first | done | rfl):=h
def oW(h:p:=by rw[hsf ef,Aeu] at hr;subst hr;simp only[↓Ab,Ad,↓reduceIte,↓Qe];first | done | rfl):=h
def oX(h:p:=by subst q3;obtain ⟨g,S,es,clock,b1,b2⟩:=hb;exact ⟨g,S,es,clock,hρk.trans b1,b2⟩):=h
def oY(h:p:=by simp(disch:=(try simp only[Ac]);omega)only[↓Ab,Ad,↓reduceIte,↓Qe,Qu];simp[hn]):=h
def oZ(h:p:=by simp(disch:=(try simp only[Ac]);omega)only[↓Ab,Ad,↓reduceIte,↓Qe,Qu];try rfl):=h
def o8(h:p:=by refine ⟨_,fin fun h ρ v hv=>?_,hx▸hk⟩;rw[hx] at hv;cases hv;simp[execOp,ho]):=h
def o9(h:p:=by simp(disch:=(try simp only[Ac]);omega)only[setB_ren,↓Ab,Ad,↓reduceIte,↓Qe]):=h
def pa(h:p:=by refine ED (P:=P) hu hu' hni h1 q1 dS lA ?_;cases base<;>simp[storeCells]):=h
def pb(h:p:=by simp(disch:=(try simp only[Ac]);omega)only[↓Ab,Ad,↓reduceIte];exact mY):=h
def pc(h:p:=by rw[if_pos hw] at hr;rw[hw,hr];simp only[↓Ab,Ad,↓Qe];first | done | rfl):=h
def pf(h:p:=by simp at hp;rw[<-m.1] at he;simp at he;subst he;subst hp;exact ⟨rk,rv⟩):=h
def pg(h:p:=by simp(disch:=(try simp only[Ac]);omega)only[↓Ab,Ad,↓reduceIte,↓Qe,Qu]):=h
def ph(h:p:=by simp(disch:=(try simp only[Ac]);omega)only[Af,↓Ab,Ad,↓reduceIte,↓Qe]):=h
def pi(h:p:=by simp(disch:=(try simp only[Ac]);omega)only[↓Ab,Ad,↓Qe,QE];refine lR):=h
def pj(h:p:=by have:=s.prom b o v e;rw[<-this];simp[World.cell?,(hother b hbg).2]):=h
def po(h:p:=by subst hu;rw[Addr.add_lit,Agw];exact (EI (w:=w) b2).trans (hc j hj)):=h
def pp(h:p:=by rw[hi.1 h];simp(disch:=(try simp only[Ac]);omega)only[↓Ab,Ad,↓Qe]):=h
def pq(h:p:=by simp(disch:=(try simp only[Ac]);omega)only[↓Ab,Ad,↓reduceIte,↓Qe]):=h
def pu(h:p:=by rw[if_pos hin] at hx;rw[if_pos lA] at hv;exact r'.2 _ v x hv hx):=h
def pv(h:p:=by subst hv;subst hx;exact hops z (memx z (by simpa using AgQ hc))):=h
def pw(h:p:=by rintro e w' ⟨v,h',ρ',rfl,q1,q2,q3⟩;exact ⟨v,h',ρ',rfl,q1,q2,q3⟩):=h
def px(h:p:=by rw[<-ha];simp(disch:=(try simp only[Ac]);omega)only[↓Ab,Ad,↓Qe]):=h
def py(h:p:=by rw[Aeq.1 hx] at e;exact hne y (AbZ _ (AbY _ (AbY _ hy))) e.symm):=h
def pz(h:p:=by simp(disch:=(try simp only[Ac]);omega)only[↓Ab,Ad,↓Qe];try rfl):=h
def pA(h:p:=by simp(disch:=(try simp only[Ac]);omega)only[↓Ab,Ad,↓Qe,QE];rfl):=h
def pB(h:p:=by exact ih i v _ hv hx (hg.2 i _ y hx hy) (fun b hb=>hf b eB)):=h
def pC(h:p:=by subst q3;obtain ⟨b0,b1⟩:=hb;refine ⟨b0,?_⟩;rw[hρk];exact b1):=h
def pD(h:p:=by subst q3;obtain ⟨g,S,b1,b2⟩:=hb;exact ⟨g,S,hρk.trans b1,b2⟩):=h
def pE(h:p:=by split at hy;cases hy;obtain ⟨e,_⟩:=hy;cases e;exact hy.elim):=h
def pF(h:p:=by rw[Aet.1 hy] at e;exact hne x (AbY _ (Aen _ (AbZ _ hx))) e):=h
def pG(h:p:=by rw[hr] at hr2;cases hr2;simp[Value.ownBlock] at hg';omega):=h
def pH(h:p:=by simp(disch:=(try simp only[Ac]);omega)only[↓Ab,Ad,↓Qe,Qu]):=h
def pI(h:p:=by rw[Ay (by simpa using l1),Ao n01,Ao (Ne.symm n13),A8 l1]):=h
def pJ(h:p:=by rw[e1] at hR;cases hR with | d _ _ hd=>exact .d _ _ hd):=h
def pK(h:p:=by simp(disch:=(try simp only[Ac]);omega)only[↓Ab,Ad,↓Qe]):=h
def pL(h:p:=by refine Aa.pure (LM hT l hl) ?_;simp only[↓Ab,Ad,↓Qe]):=h
def pM(h:p:=by unfold Hu;rw[if_pos he];simp[he,BI,Ex,ndC,cut,hS1r]):=h
def pN(h:p:=by obtain ⟨b,_,hb⟩:=hρc' j _ hj;exact .inl ⟨b,S',hb⟩):=h
def pO(h:p:=by exact ⟨g,S,es,clock,h1,(hk _ _ _ h1).trans h2,h3⟩):=h
def pP(h:p:=by have:=q4 b (Cr hcj hb);rw[hs2] at this;cases this):=h
def pQ(h:p:=by rw[show (k+1)*2=k*2+2 by omega,e2];simpa using ih):=h
def pR(h:p:=by rw[CE (fun e=>hnb (by rw[e1,<-e];rfl))];exact k2):=h
def pS(h:p:=by rw[wr_i64 (x:=(z:Int)) lA lA,wr_i64 lA lA];omega):=h
def pT(h:p:=by unfold Hu;rw[if_neg he];simp[BI,Ex,ndC,cut,hS1r]):=h
def pU(h:p:=by rw[hr] at hr2;cases hr2;exact (k2.lt g hgv).1):=h
def pV(h:p:=by intro x hx;simp at hx;subst hx;exact Aeu _ lz):=h
def pW(h:p:=by subst q3;exact ⟨g,S,v,hρk.trans b1,b2,b3,b4⟩):=h
def pX(h:p:=by exact absurd (.inr (.inr (.inl (AfZ e)))) h):=h
def pY(h:p:=by have:=VW (l:=l) fun n hn=>(a1 n hn).q;omega):=h
def pZ(h:p:=by exact ⟨t'.keep g hlt hnc,t'.new g hlt hnc⟩):=h
def p7(h:p:=by refine Aa.of h lD ?_;simp only[↓Ab,Ad,↓Qe]):=h
def p8(h:p:=by exact ⟨(hother k hne).2,(hother k hne).1⟩):=h
def p9(h:p:=by simp at hv hx;subst hv;subst hx;exact r1):=h
def qc(h:p:=by simp at hv hx;subst hv;subst hx;exact r2):=h
def qe(h:p:=by exact ⟨g,S,v,hρk.trans b1,b2,.inl b3,b4⟩):=h
def qg(h:p:=by simp only[↓Ab,Ad,↓Qe];first | done | rfl):=h
def qh(h:p:=by simp only[Dk];rw[none_ (h0 jO)];exact h):=h
def qi(h:p:=by exact ih i v _ hv hx (hg.2 i _ z hx hz)):=h
def qj(h:p:=by rintro e w' ⟨rfl,hb⟩;exact ⟨rfl,.of hb⟩):=h
def qm(h:p:=by simp[Instr.checkKey,run_underlying hu]):=h
def qn(h:p:=by exact absurd (.inr (.inl (AfZ e))) h):=h
def qo(h:p:=by split at hy;cases hy;exact hy.elim):=h
def qp(h:p:=by exact k2 lA lA rfl (NS hd lA lA)):=h
def qq(h:p:=by rw[bl_irrefl] at this;cases this):=h
def qs(h:p:=by subst hx;exact ih i v y hv hc):=h
def qt(h:p:=by exact absurd (.inl (AfZ e)) h):=h
def qu(h:p:=by left;simp[Instr.sameNow,CC]):=h
def qv(h:p:=by subst hbc;exact GA hL hb hc):=h
def qw(h:p:=by exact .inr (.inr (.inl nv))):=h
def qy(h:p:=by exact .d _ _ (.sl0 _ _)):=h
def qz(h:p:=by show nc.length<=_;omega):=h
def qA(h:p:=by exact .inl ⟨hn h1,h2⟩):=h
def qB(h:p:=by rw[hn] at hb;cases hb):=h
def qC(h:p:=by rw[hρ] at b1;cases b1):=h
def qD(h:p:=by simp only[↓Ab,Ad,↓Qe]):=h
def qE(h:p:=by exact h.item q hq):=h
def qF(h:p:=by exact absurd h lA):=h
def qG(h:p:=by exact hn j S' hj):=h
def qH(h:p:=by exact h.row i hi):=h
def qI(h:p:=by exact ⟨rfl,rfl⟩):=h
end
end Go
namespace Go.Abs
open Go
inductive D where
 | int (k:IntKind) (n:Int)
 | bool (b:Bool)
 | str (s:ByteArray)
 | sl (n:Nat) (full:Bool) (cells:List D)
 | agg (cells:List D)
 | tup (vs:List D)
 | fn (f:Fn) (first captured:List D)
 | nilp
 | nilm
 | nili
 | ifc
 | nilf
 | esl
 | val (v:Value)
inductive AV where
 | d (x:D)
 | lsl (b sz off n:Nat)
 | ptr (b off:Nat)
 | rptr (off:Nat) (cells:List D)
 | mp (b:Nat)
 | ifp (t b:Nat)
 | agg (cells:List AV)
 | tup (vs:List AV)
 | fn (f:Fn) (first captured:List AV)
 | undef
instance:Inhabited AV:=⟨.undef⟩
instance:Inhabited D:=⟨.nilp⟩
abbrev Held:=Nat->Nat->Option Value
abbrev Place:=Nat->Option (Nat × Nat)
inductive Ae where
 | dead
 | row (fz:Bool) (cells:List D)
 | box (cells:List AV)
 | map (entries:List (D × D))
 | amap (entries:List (D × AV))
 | iter (s:ByteArray) (pos:Nat)
 | bld (T:TypeId) (used:Bool) (n:Nat) (k:Option Nat)
 | buf (e:TypeId) (l:List UInt8)
 | ext (J:List (D × Bool)->Held->Place->World->Prop) (todo:List (D × Bool))
def D.one:D->Bool
 | .agg _ | .tup _=>false
 | .val (.slice _ _ _)=>true
 | .val _=>false
 | _=>true
inductive RD (h:Held):Value->D->Prop
 | int (k:IntKind) (n:Int):RD h (.int k n) (.int k n)
 | bool (b:Bool):RD h (.bool b) (.bool b)
 | str (s:ByteArray):RD h (.string s) (.str s)
 | sl0 (base:Option Addr) (full:Bool):RD h (.slice base 0 0) (.sl 0 full [])
 | sl (g off n cap:Nat) (full:Bool) (cells:List D) (vs:Nat->Value) (hn:n<=cap) (hf:full=true->cap=n)
   (hh:∀ (i:Nat) x,cells[i]?=some x->h g (off+i)=some (vs i)) (hr:∀ (i:Nat) x,cells[i]?=some x->RD h (vs i) x) (h1:∀ (i:Nat) x,cells[i]?=some x->x.one=true) :
   RD h (.slice (some ⟨g,off,none⟩) n cap) (.sl n full cells)
 | agg (vs:Array Value) (cells:List D) (hl:vs.size=cells.length) (hr:∀ (i:Nat) v x,vs[i]?=some v->cells[i]?=some x->RD h v x):RD h (.agg vs) (.agg cells)
 | tup (vs:Array Value) (cells:List D) (hl:vs.size=cells.length) (hr:∀ (i:Nat) v x,vs[i]?=some v->cells[i]?=some x->RD h v x):RD h (.tuple vs) (.tup cells)
 | fn (f:Fn) (vs us:Array Value) (first captured:List D) (hl:vs.size=first.length) (hl':us.size=captured.length)
   (hr:∀ (i:Nat) v x,vs[i]?=some v->first[i]?=some x->RD h v x) (hr':∀ (i:Nat) v x,us[i]?=some v->captured[i]?=some x->RD h v x):RD h (.func f vs us) (.fn f first captured)
 | nilp:RD h (.pointer none) .nilp
 | nilm:RD h (.map none) .nilm
 | nili:RD h .nilIface .nili
 | ifc (t:TypeId) (v:Value):RD h (.iface t v) .ifc
 | nilf:RD h .nilFunc .nilf
 | esl (a:Addr):RD h (.slice (some a) 0 0) .esl
 | val (v:Value):RD h v (.val v)
inductive R (h:Held) (ρ:Place):Value->AV->Prop
 | d (v:Value) (x:D) (hx:RD h v x):R h ρ v (.d x)
 | lsl0 (base:Option Addr) (b sz off:Nat):R h ρ (.slice base 0 0) (.lsl b sz off 0)
 | lsl (b sz off n cap g S:Nat) (hρ:ρ b=some (g,S)) (hn:n<=cap) (hc:off+cap*sz<=S):R h ρ (.slice (some ⟨g,off,none⟩) n cap) (.lsl b sz off n)
 | ptr (b off g S:Nat) (hρ:ρ b=some (g,S)):R h ρ (.pointer (some ⟨g,off,none⟩)) (.ptr b off)
 | rptr (g base off:Nat) (cells:List D) (vs:Nat->Value) (hh:∀ (i:Nat) x,cells[i]?=some x->h g (base+i)=some (vs i))
   (hr:∀ (i:Nat) x,cells[i]?=some x->RD h (vs i) x):R h ρ (.pointer (some ⟨g,base+off,none⟩)) (.rptr off cells)
 | mp (b g S:Nat) (hρ:ρ b=some (g,S)):R h ρ (.map (some g)) (.mp b)
 | ifp (t b g S:Nat) (hρ:ρ b=some (g,S)):R h ρ (.iface t (.pointer (some ⟨g,0,none⟩))) (.ifp t b)
 | agg (vs:Array Value) (cells:List AV) (hl:vs.size=cells.length) (hr:∀ (i:Nat) v x,vs[i]?=some v->cells[i]?=some x->R h ρ v x):R h ρ (.agg vs) (.agg cells)
 | tup (vs:Array Value) (cells:List AV) (hl:vs.size=cells.length) (hr:∀ (i:Nat) v x,vs[i]?=some v->cells[i]?=some x->R h ρ v x):R h ρ (.tuple vs) (.tup cells)
 | fn (f:Fn) (vs us:Array Value) (first captured:List AV) (hl:vs.size=first.length) (hl':us.size=captured.length)
   (hr:∀ (i:Nat) v x,vs[i]?=some v->first[i]?=some x->R h ρ v x) (hr':∀ (i:Nat) v x,us[i]?=some v->captured[i]?=some x->R h ρ v x):R h ρ (.func f vs us) (.fn f first captured)
 | undef (v:Value):R h ρ v .undef
def Held.le (h h':Held):Prop:=∀ b o v,h b o=some v->h' b o=some v
def Place.le (ρ ρ':Place):Prop:=∀ i x,ρ i=some x->ρ' i=some x
def Held.le_refl (h:Held):h.le h:=fun _ _ _ e=>e
def Held.le_trans {a b c:Held} (x:a.le b) (y:b.le c):a.le c:=fun _ _ _ e=>y _ _ _ (x _ _ _ e)
def Place.le_refl (h:Place):h.le h:=fun _ _ e=>e
def Place.le_trans {a b c:Place} (x:a.le b) (y:b.le c):a.le c:=fun _ _ e=>y _ _ (x _ _ e)
def RD.mono {h h':Held} (hh:h.le h') {v:Value} {x:D} (r:RD h v x):RD h' v x:=by
 induction r with
 | int k n=>exact .int k n
 | bool b=>exact .bool b
 | str s=>exact .str s
 | sl0 b f=>exact .sl0 b f
 | sl g off n cap full cells vs hn hf h1 _ ho ih=>exact .sl g off n cap full cells vs hn hf (fun i x e=>hh _ _ _ (h1 i x e)) ih ho
 | agg vs cells hl _ ih=>exact .agg vs cells hl ih
 | tup vs cells hl _ ih=>exact .tup vs cells hl ih
 | fn f vs us a b hl hl' _ _ ih ih'=>exact .fn f vs us a b hl hl' ih ih'
 | nilp=>exact .nilp
 | nilm=>exact .nilm
 | nili=>exact .nili
 | ifc t v=>exact .ifc t v
 | nilf=>exact .nilf
 | esl a=>exact .esl a
 | val v=>exact .val v
def R.mono {h h':Held} {ρ ρ':Place} (hh:h.le h') (hp:ρ.le ρ') {v:Value} {x:AV} (r:R h ρ v x):R h' ρ' v x:=by
 induction r with
 | d v x hx=>exact .d v x (hx.mono hh)
 | lsl0 base b sz off=>exact .lsl0 base b sz off
 | lsl b sz off n cap g S hρ hn hc=>exact .lsl b sz off n cap g S (hp _ _ hρ) hn hc
 | ptr b off g S hρ=>exact .ptr b off g S (hp _ _ hρ)
 | rptr g base off cells vs h1 h2=>exact .rptr g base off cells vs (fun i x e=>hh _ _ _ (h1 i x e)) (fun i x e=>(h2 i x e).mono hh)
 | mp b g S hρ=>exact .mp b g S (hp _ _ hρ)
 | ifp t b g S hρ=>exact .ifp t b g S (hp _ _ hρ)
 | agg vs cells hl _ ih=>exact .agg vs cells hl ih
 | tup vs cells hl _ ih=>exact .tup vs cells hl ih
 | fn f vs us a b hl hl' _ _ ih ih'=>exact .fn f vs us a b hl hl' ih ih'
 | undef v=>exact .undef v
def RL (h:Held) (ρ:Place) (vs:Array Value) (xs:List AV):Prop:=vs.size=xs.length/\∀ (i:Nat) v x,vs[i]?=some v->xs[i]?=some x->R h ρ v x
def RL.mono {h h':Held} {ρ ρ':Place} (hh:h.le h') (hp:ρ.le ρ') {vs:Array Value} {xs:List AV} (r:RL h ρ vs xs):RL h' ρ' vs xs :=
 ⟨r.1,fun i v x a b=>(r.2 i v x a b).mono hh hp⟩
abbrev A9:=Nat->Option Ae
def HV (S:Nat) (fr:Nat × Nat):Prop:=∀ j,j<S->¬(fr.1<=j/\j<fr.2)
structure RG (h:Held) (ρ:Place) (w:World) (h':Held) (ρ':Place) (w':World):Prop where
 os:w'.os=w.os
 tape:w'.tape=w.tape
 output:w'.output=w.output
 size:w.heap.size<=w'.heap.size
 keep:∀ k,k<w.heap.size->(∀ i S,ρ i≠some (k,S))->w'.heap[k]?=w.heap[k]?
 mono:h.le h'
 new:∀ k,k<w.heap.size->(∀ i S,ρ i≠some (k,S))->∀ o,h' k o=h k o
 rnew:∀ i g S,ρ' i=some (g,S)->(∃ j S',ρ j=some (g,S'))\/w.heap.size<=g
def Ti (J:List (D × Bool)->Held->Place->World->Prop):Prop :=
 ∀ t h ρ w h' ρ' w',J t h ρ w->RG h ρ w h' ρ' w'->(∀ b o v,h' b o=some v->w'.cell? ⟨b,o,none⟩=some v)->J t h' ρ' w'
def LJ (es:Array MapEntry) (clock:Nat):Prop:=(∀ e∈es.toList,e.born<clock)/\(es.toList.map (·.born)).Nodup
def LJ.nil:LJ #[] 0:=⟨lC,lC⟩
def Hw (h:Held) (es:Array MapEntry) (l:List (D × D)):Prop :=
 es.size=l.length/\∀ (i:Nat) e p,es[i]?=some e->l[i]?=some p->RD h e.key p.1/\RD h e.val p.2
def Ga (h:Held) (ρ:Place) (es:Array MapEntry) (l:List (D × AV)):Prop :=
 es.size=l.length/\∀ (i:Nat) e p,es[i]?=some e->l[i]?=some p->RD h e.key p.1/\R h ρ e.val p.2
def Vm (ρ:Place) (v:Value) (n:Nat):Option Nat->Prop
 | none=>v=.slice none 0 0/\n=0
 | some k=>(v=.slice none 0 0/\n=0)\/∃ g cap,v=.slice (some ⟨g,0,none⟩) n cap/\ρ k=some (g,cap)/\n<=cap
def Vm.ren {ρ ρ':Place} {f:Nat->Nat} {v:Value} {n:Nat} {k:Option Nat} (hf:∀ b x,k=some b->ρ b=some x->ρ' (f b)=some x) (r:Vm ρ v n k):Vm ρ' v n (k.map f):=by
 cases k with
 | none=>exact r
 | some b =>
  rcases r with r | ⟨g,cap,h1,h2,h3⟩
  ·exact .inl r
  exact .inr ⟨g,cap,h1,hf _ _ rfl h2,h3⟩
def Vm.mono {ρ ρ':Place} {v:Value} {n:Nat} {k:Option Nat} (hp:ρ.le ρ') (r:Vm ρ v n k):Vm ρ' v n k:=by have:=r.ren (f:=id) fun b x _ e=>hp b x e;simpa using this
def GO (h:Held) (ρ:Place) (w:World) (i:Nat):Ae->Prop
 | .dead=>True
 | .row fz cells=>(∀ (j:Nat) x,cells[j]?=some x->x.one=true)/\((ρ i=none/\cells=[])\/∃ g S c E fr,ρ i=some (g,S)/\w.heap[g]?=some (.cells c E fr)/\c.size=S/\HV S fr/\cells.length<=S /\
   (∀ (j:Nat) x v,cells[j]?=some x->c[j]?=some v->RD h v x)/\(fz=true->∀ j,j<cells.length->h g j=c[j]?)/\(∀ j,(fz=true->cells.length<=j)->h g j=none))
 | .box cells=>∃ g S c E fr,ρ i=some (g,S)/\w.heap[g]?=some (.cells c E fr)/\c.size=S/\HV S fr/\cells.length<=S /\
   (∀ (j:Nat) x v,cells[j]?=some x->c[j]?=some v->R h ρ v x)/\(∀ j,h g j=none)
 | .map l=>∃ g S es clock,ρ i=some (g,S)/\w.heap[g]?=some (.map es clock)/\Hw h es l/\(∀ j,h g j=none)/\LJ es clock
 | .amap l=>∃ g S es clock,ρ i=some (g,S)/\w.heap[g]?=some (.map es clock)/\Ga h ρ es l/\(∀ j,h g j=none)/\LJ es clock
 | .iter s pos=>∃ g S,ρ i=some (g,S)/\w.heap[g]?=some (.stringIter s pos)/\(∀ j,h g j=none)
 | .bld T used n k=>∃ g S v,ρ i=some (g,S)/\w.heap[g]?=some (.cells #[.pointer (if used then some ⟨g,0,none⟩ else none),v] T (0,0))/\Vm ρ v n k/\(∀ j,h g j=none)
 | .buf e l=>(ρ i=none/\l=[])\/∃ g S c,ρ i=some (g,S)/\w.heap[g]?=some (.cells c e (0,0))/\c.size=S/\S<=maxLen/\l.length<=S/\(∀ (j:Nat) x,l[j]?=some x->c[j]?=some (.int .u8 x.toNat))/\(∀ j,h g j=none)
 | .ext J t=>i=0/\Ti J/\J t h ρ w
def BC (H:A9) (i:Nat):Prop:=∃ b,H i=some b/\b≠.dead
abbrev Ah:=Nat->Option (List D)
structure Sim (G:Ah) (h:Held) (ρ:Place) (H:A9) (w:World):Prop where
 prom:∀ b o v,h b o=some v->w.cell? ⟨b,o,none⟩=some v
 glob:∀ g ds,G g=some ds->∃ vs:Nat->Value,(∀ (i:Nat) x,ds[i]?=some x->h g i=some (vs i))/\(∀ (i:Nat) x,ds[i]?=some x->RD h (vs i) x)
 blk:∀ i b,H i=some b->GO h ρ w i b
 dom:∀ i g S,ρ i=some (g,S)->g<w.heap.size/\∃ b,H i=some b
 inj:∀ i j g S S',ρ i=some (g,S)->ρ j=some (g,S')->BC H i->BC H j->i=j
structure A6 (h:Held) (ρ:Place) (w:World) (h':Held) (ρ':Place) (w':World):Prop where
 os:w'.os=w.os
 tape:w'.tape=w.tape
 output:w'.output=w.output
 size:w.heap.size<=w'.heap.size
 keep:∀ k,k<w.heap.size->(∀ i S,ρ i≠some (k,S))->w'.heap[k]?=w.heap[k]?
 mono:h.le h'
 new:∀ k,k<w.heap.size->(∀ i S,ρ i≠some (k,S))->∀ o,h' k o=h k o
 rmono:ρ.le ρ'
 rnew:∀ i g S,ρ' i=some (g,S)->(∃ j S',ρ j=some (g,S'))\/w.heap.size<=g
def A6.n {h:Held} {ρ:Place} {w:World} {h':Held} {ρ':Place} {w':World} (s:A6 h ρ w h' ρ' w'):RG h ρ w h' ρ' w' :=
 ⟨s.os,s.tape,s.output,s.size,s.keep,s.mono,s.new,s.rnew⟩
def A6.refl (h:Held) (ρ:Place) (w:World):A6 h ρ w h ρ w :=
 ⟨rfl,rfl,rfl,Af0 _,fun _ _ _=>rfl,Held.le_refl _,fun _ _ _ _=>rfl,Place.le_refl _,fun i g S e=>.inl ⟨i,S,e⟩⟩
def A6.trans {h h' h'':Held} {ρ ρ' ρ'':Place} {w w' w'':World} (a:A6 h ρ w h' ρ' w') (b:A6 h' ρ' w' h'' ρ'' w''):A6 h ρ w h'' ρ'' w'':=by
 have key:∀ k,k<w.heap.size->(∀ i S,ρ i≠some (k,S))->∀ i S,ρ' i≠some (k,S):=by
  intro k hk hn i S e;rcases a.rnew i k S e with ⟨j,S',hj⟩ | hj
  ·exact qG
  omega
 refine ⟨b.os.trans a.os,b.tape.trans a.tape,b.output.trans a.output,AgW a.size b.size,?_,Held.le_trans a.mono b.mono,?_,Place.le_trans a.rmono b.rmono,?_⟩;·intro k hk hn;rw[b.keep k (AgK hk a.size) (key k hk hn),a.keep k hk hn]
 ·intro k hk hn o;rw[b.new k (AgK hk a.size) (key k hk hn),a.new k hk hn]
 intro i _ S e;rcases b.rnew i _ S e with ⟨j,S',hj⟩ | hj
 ·rcases a.rnew j _ S' hj with h1 | h1
  ·exact .inl h1
  exact .inr h1
 exact .inr (AgW a.size hj)
def SR (h:Held) (ρ:Place) (tmps:Array Value) (s:List AV):Prop:=tmps.size=s.length/\∀ (t:Nat) v x,tmps[t]?=some v->s[t]?=some x->R h ρ v x
def SR.mono {h h':Held} {ρ ρ':Place} (hh:h.le h') (hp:ρ.le ρ') {vs:Array Value} {xs:List AV} (r:SR h ρ vs xs):SR h' ρ' vs xs :=
 ⟨r.1,fun i v x a b=>(r.2 i v x a b).mono hh hp⟩
def SR.put {h:Held} {ρ:Place} {a:Act} {s:List AV} (r:SR h ρ a.tmps s) (d:Nat) {v:Value} {x:AV} (hv:R h ρ v x):SR h ρ (a.put (some d) v).tmps (s.set d x):=by
 refine ⟨by simp[Act.put,r.1],fun t u y hu hy=>?_⟩;simp only[Act.put,Array.getElem?_setIfInBounds] at hu;rw[AgM] at hy;by_cases e:d=t
 ·subst e;have hsz:=r.1;simp only[if_true] at hu hy;split at hu
  ·split at hy;·cases hu;cases hy;exact hv
   cases hy
  cases hu
 simp only[e,if_false] at hu hy;exact r.2 t u y hu hy
def Co:Value->AV
 | .int k n=>.d (.int k n)
 | .bool b=>.d (.bool b)
 | .string s=>.d (.str s)
 | .slice none 0 0=>.d (.sl 0 true [])
 | .pointer none=>.d .nilp
 | .map none=>.d .nilm
 | .nilIface=>.d .nili
 | .nilFunc=>.d .nilf
 | _=>.undef
def FW:Value->AV
 | .agg cs=>.agg (cs.toList.map Co)
 | v=>Co v
def PN (h:Held) (ρ:Place) (v:Value):R h ρ v (Co v):=by
 unfold Co;split;·exact .d _ _ (.int _ _)
 ·exact .d _ _ (.bool _)
 ·exact .d _ _ (.str _)
 ·exact qy
 ·exact .d _ _ .nilp
 ·exact .d _ _ .nilm
 ·exact .d _ _ .nili
 ·exact .d _ _ .nilf
 exact .undef _
def Aaz (h:Held) (ρ:Place) (v:Value):R h ρ v (FW v):=by
 unfold FW;split;·rename_i cs;refine .agg cs _ lC (fun i v x hv hx=>?_);simp only[Aen,Af1,hv,Aeq,Option.some.injEq] at hx;subst hx;exact PN h ρ v
 exact PN h ρ v
def evalA (G:Ah) (s:List AV):Operand->AV
 | .tmp t=>s.getD t .undef
 | .const v=>FW v
 | .global g=>match G g with | some ds=>.rptr 0 ds | none=>.undef
 | .func f=>.fn (.func f) [] []
def Iq {G:Ah} {h:Held} {ρ:Place} {H:A9} {w:World} {a:Act} {s:List AV} (hs:Sim G h ρ H w) (hr:SR h ρ a.tmps s) (x:Operand) :
  R h ρ (a.eval x) (evalA G s x):=by
 cases x with
 | tmp t =>
  simp only[Act.eval,evalA,Array.getD_eq_getD_getElem?,AeB];cases hv:a.tmps[t]? with
  | none =>
   have:s[t]?=none:=by have:=hr.1;rw[Array.getElem?_eq_none_iff] at hv;rw[Agy];omega
   rw[this];exact .undef _
  | some v =>
   cases hx:s[t]? with
   | none =>have:=hr.1;rw[Agy] at hx;have:=(Array.getElem?_eq_some_iff.1 hv).1;omega
   | some x=>exact hr.2 t v x hv hx
 | const v=>exact Aaz h ρ v
 | global g =>
  simp only[Act.eval,evalA];split;·rename_i ds hg;obtain ⟨vs,h1,h2⟩:=hs.glob g ds hg;exact .rptr g 0 0 ds vs (fun i x e=>by simpa using h1 i x e) h2
  exact .undef _
 | func f =>exact .fn (.func f) #[] #[] [] [] rfl rfl lC lC
def Hw.mono {h h':Held} (hh:h.le h') {es:Array MapEntry} {l:List (D × D)} (m:Hw h es l):Hw h' es l :=
 ⟨m.1,fun i e p a b=>⟨(m.2 i e p a b).1.mono hh,(m.2 i e p a b).2.mono hh⟩⟩
def Ga.mono {h h':Held} {ρ ρ':Place} (hh:h.le h') (hp:ρ.le ρ') {es:Array MapEntry} {l:List (D × AV)} (m:Ga h ρ es l):Ga h' ρ' es l :=
 ⟨m.1,fun i e p a b=>⟨(m.2 i e p a b).1.mono hh,(m.2 i e p a b).2.mono hh hp⟩⟩
def GO.frame {h h':Held} {ρ ρ':Place} {w w':World} {i:Nat} {b:Ae} (r:GO h ρ w i b) (hst:RG h ρ w h' ρ' w') (hpr:∀ b o v,h' b o=some v->w'.cell? ⟨b,o,none⟩=some v) (hh:h.le h') (hp:ρ.le ρ')
  (hk:∀ g S,ρ i=some (g,S)->w'.heap[g]?=w.heap[g]?/\∀ o,h' g o=h g o) (hn:ρ i=none->ρ' i=none):GO h' ρ' w' i b:=by
 cases b with
 | dead=>trivial
 | row fz cells =>
  obtain ⟨h0,r⟩:=r;rcases r with ⟨h1,h2⟩ | ⟨g,S,c,E,fr,h1,h2,h3,h4,h5,h6,h7,h8⟩
  ·exact ⟨h0,.inl ⟨hn h1,h2⟩⟩
  obtain ⟨k1,k2⟩:=hk g S h1;exact ⟨h0,.inr ⟨g,S,c,E,fr,hp _ _ h1,k1.trans h2,h3,h4,h5,fun j x v a b=>(h6 j x v a b).mono hh,fun f j hj=>(k2 j).trans (h7 f j hj),fun j hj=>(k2 j).trans (h8 j hj)⟩⟩
 | box cells =>obtain ⟨g,S,c,E,fr,h1,h2,h3,h4,h5,h6,h7⟩:=r;obtain ⟨k1,k2⟩:=hk g S h1;exact ⟨g,S,c,E,fr,hp _ _ h1,k1.trans h2,h3,h4,h5,fun j x v a b=>(h6 j x v a b).mono hh hp,fun j=>(k2 j).trans (h7 j)⟩
 | map l =>obtain ⟨g,S,es,clock,h1,h2,h3,h4,h5⟩:=r;obtain ⟨k1,k2⟩:=hk g S h1;exact ⟨g,S,es,clock,hp _ _ h1,k1.trans h2,h3.mono hh,fun j=>(k2 j).trans (h4 j),h5⟩
 | amap l =>obtain ⟨g,S,es,clock,h1,h2,h3,h4,h5⟩:=r;obtain ⟨k1,k2⟩:=hk g S h1;exact ⟨g,S,es,clock,hp _ _ h1,k1.trans h2,h3.mono hh hp,fun j=>(k2 j).trans (h4 j),h5⟩
 | iter s pos =>obtain ⟨g,S,h1,h2,h4⟩:=r;obtain ⟨k1,k2⟩:=hk g S h1;exact ⟨g,S,hp _ _ h1,k1.trans h2,fun j=>(k2 j).trans (h4 j)⟩
 | bld T used n k =>obtain ⟨g,S,v,h1,h2,h3,h4⟩:=r;obtain ⟨k1,k2⟩:=hk g S h1;exact ⟨g,S,v,hp _ _ h1,k1.trans h2,h3.mono hp,fun j=>(k2 j).trans (h4 j)⟩
 | buf e l =>
  rcases r with ⟨h1,h2⟩ | ⟨g,S,c,h1,h2,h3,h4,h5,h6,h7⟩
  ·exact qA
  obtain ⟨k1,k2⟩:=hk g S h1;exact .inr ⟨g,S,c,hp _ _ h1,k1.trans h2,h3,h4,h5,h6,fun j=>(k2 j).trans (h7 j)⟩
 | ext J t=>exact ⟨r.1,r.2.1,r.2.1 _ _ _ _ _ _ _ r.2.2 hst hpr⟩
def Am (H:A9):List (Nat × Ae)->A9
 | []=>H
 | (i,b)::r=>Am (fun j=>if j=i then some b else H j) r
def E7 (ρ:Place) (i:Nat) (x:Nat × Nat):Place:=fun j=>if j=i then some x else ρ j
def Aw (ρ:Place) (i:Nat) (x:Nat × Nat):E7 ρ i x i=some x:=by simp[E7]
def Bx (ρ:Place) {i j:Nat} (x:Nat × Nat) (h:j≠i):E7 ρ i x j=ρ j:=by simp[E7,h]
def IL {ρ:Place} {i:Nat} (x:Nat × Nat) (h:ρ i=none):ρ.le (E7 ρ i x):=by
 intro j y e;by_cases hj:j=i;·subst hj;rw[h] at e;cases e
 rw[Bx ρ x hj];exact e
section
variable {G:Ah} {h:Held} {ρ:Place} {H:A9} {w:World}
def Sim.held_lt (s:Sim G h ρ H w) {g o:Nat} {v:Value} (e:h g o=some v):g<w.heap.size:=by have:=s.prom g o v e;exact World.block_lt_of_cell? w ⟨g,o,none⟩ this
def Sim.held_none (s:Sim G h ρ H w) (o:Nat):h w.heap.size o=none:=by
 cases e:h w.heap.size o with
 | none=>rfl
 | some v=>exact absurd (s.held_lt e) lA
def A6.drew:A6 h ρ w h ρ w.drew :=
 ⟨rfl,rfl,rfl,Af0 _,fun _ _ _=>rfl,Held.le_refl _,fun _ _ _ _=>rfl,Place.le_refl _,fun i _ S e=>.inl ⟨i,S,e⟩⟩
def Sim.drew (s:Sim G h ρ H w):Sim G h ρ H w.drew :=
 ⟨s.prom,s.glob,fun i b e=>(s.blk i b e).frame A6.drew.n s.prom (Held.le_refl _) (Place.le_refl _) (fun _ _ _=>⟨rfl,fun _=>rfl⟩) id,s.dom,s.inj⟩
def Sim.alloc (s:Sim G h ρ H w) (i:Nat) (hi:H i=none) (o:Obj) (S:Nat) (blk:Ae)
  (hb:GO h (E7 ρ i (w.heap.size,S)) (w.alloc o) i blk) :
  Sim G h (E7 ρ i (w.heap.size,S)) (Am H [(i,blk)]) (w.alloc o)/\A6 h ρ w h (E7 ρ i (w.heap.size,S)) (w.alloc o):=by
 have hρ:ρ i=none:=by
  cases e:ρ i with
  | none=>rfl
  | some x=>obtain ⟨_,b,hb⟩:=s.dom i x.1 x.2 e;rw[hi] at hb;cases hb
 have hle:=IL (w.heap.size,S) hρ;have hrn:∀ j g S',E7 ρ i (w.heap.size,S) j=some (g,S')->(∃ j S',ρ j=some (g,S'))\/w.heap.size<=g:=by
  intro j g S' e;by_cases hj:j=i;·subst hj;rw[Aw] at e;cases e;exact .inr (Af0 _)
  rw[Bx ρ _ hj] at e;exact .inl ⟨j,S',e⟩
 have st:A6 h ρ w h (E7 ρ i (w.heap.size,S)) (w.alloc o):=⟨rfl,rfl,rfl,lC,fun k hk _=>heap_alloc_old w o k hk,Held.le_refl _,fun _ _ _ _=>rfl,hle,hrn⟩;have hpr:∀ b off v,h b off=some v->(w.alloc o).cell? ⟨b,off,none⟩=some v:=au
 refine ⟨⟨hpr,s.glob,?_,?_,?_⟩,st⟩
 ·intro j b e;by_cases hj:j=i;·subst hj;simp[Am] at e;subst e;exact hb
  simp[Am,hj] at e;refine (s.blk j b e).frame st.n hpr (Held.le_refl _) hle (fun g S' hg=>⟨?_,fun _=>rfl⟩) (fun hn=>by rw[Bx ρ _ hj];exact hn);exact heap_alloc_old w o g (s.dom j g S' hg).1
 ·intro j g S' e;by_cases hj:j=i;·subst hj;rw[Aw] at e;cases e;exact ⟨lC,blk,kH⟩
  rw[Bx ρ _ hj] at e;obtain ⟨h1,b,h2⟩:=s.dom j g S' e;exact ⟨jW,b,iF⟩
 intro j k g S1 S2 e1 e2 l1 l2;have old:∀ {x:Nat} {y:Nat × Nat},ρ x=some y->y.1<w.heap.size:=fun {x y} e=>(s.dom x y.1 y.2 e).1;have lv:∀ {x:Nat},x≠i->BC (Am H [(i,blk)]) x->BC H x:=fun {x} hx ⟨b,h1,h2⟩=>⟨b,gv,h2⟩;by_cases hj:j=i<;>by_cases hk:k=i;·omega
 ·subst hj;rw[Aw] at e1;rw[Bx ρ _ hk] at e2;cases e1;have:=old e2;simp at this
 ·subst hk;rw[Aw] at e2;rw[Bx ρ _ hj] at e1;cases e2;have:=old e1;simp at this
 rw[Bx ρ _ hj] at e1;rw[Bx ρ _ hk] at e2;exact s.inj j k g S1 S2 e1 e2 (lv hj l1) (lv hk l2)
def Sim.change (s:Sim G h ρ H w) (i:Nat) (hl:BC H i) (g S:Nat) (hρ:ρ i=some (g,S)) (blk:Ae) (h':Held) (w':World)
  (hh:h.le h') (hother:∀ k,k≠g->(∀ o,h' k o=h k o)/\w'.heap[k]?=w.heap[k]?) (hsize:w'.heap.size=w.heap.size)
  (hos:w'.os=w.os) (htape:w'.tape=w.tape) (hout:w'.output=w.output)
  (hprom:∀ o v,h' g o=some v->w'.cell? ⟨g,o,none⟩=some v) (hb:GO h' ρ w' i blk) :
  Sim G h' ρ (Am H [(i,blk)]) w'/\A6 h ρ w h' ρ w':=by
 have st:A6 h ρ w h' ρ w':=⟨hos,htape,hout,lA,fun k _ hn=>(hother k (fun e=>hn i S (e▸hρ))).2,hh,fun k _ hn o=>(hother k (fun e=>hn i S (e▸hρ))).1 o,Place.le_refl _,fun j g S e=>.inl ⟨j,S,e⟩⟩;have hpr:∀ b o v,h' b o=some v->w'.cell? ⟨b,o,none⟩=some v:=by
  intro b o v e;by_cases hbg:b=g;·subst hbg;exact hprom o v e
  rw[(hother b hbg).1] at e;exact pj
 refine ⟨⟨hpr,?_,?_,?_,?_⟩,st⟩;·intro k ds e;obtain ⟨vs,h1,h2⟩:=s.glob k ds e;exact ⟨vs,fun j x e=>hh _ _ _ (h1 j x e),fun j x e=>(h2 j x e).mono hh⟩
 ·intro j b e;by_cases hj:j=i;·subst hj;simp[Am] at e;subst e;exact hb
  simp[Am,hj] at e;by_cases hbd:b=.dead;·subst hbd;trivial
  refine (s.blk j b e).frame st.n hpr hh (Place.le_refl _) (fun k S' hk=>?_) id;have hne:k≠g:=fun hkg=>hj (s.inj j i g S' S (hkg▸hk) hρ ⟨b,e,hbd⟩ hl);exact p8
 ·intro j k S' e;obtain ⟨h1,b,h2⟩:=s.dom j k S' e;refine ⟨lA,?_⟩;by_cases hj:j=i;·exact ⟨blk,by simp[Am,hj]⟩
  exact ⟨b,iF⟩
 intro j k g' S1 S2 e1 e2 l1 l2;have lv:∀ {x:Nat},BC (Am H [(i,blk)]) x->BC H x:=by
  intro x ⟨b,h1,h2⟩;by_cases hx:x=i;·subst hx;exact hl
  exact ⟨b,gv,h2⟩
 exact s.inj j k g' S1 S2 e1 e2 (lv l1) (lv l2)
end
end Go.Abs
namespace Go.Abs
open Go
inductive TK where
 | int (k:IntKind) | bool | string | slice (e:Nat) | array (n e:Nat) | struct (fs:List (Nat × Nat × Nat)) | ptr (e:Nat) | map (k e:Nat) | func | other
structure TI where
 k:TK
 size:Nat
 bytes:Nat
 zero:List D
def Hl (P:Program):TypeDesc->TK
 | .int k=>.int k
 | .bool=>.bool
 | .string=>.string
 | .slice e=>.slice e
 | .array n e=>.array n e
 | .struct fs=>.struct (fs.toList.map fun f=>(f.offset,f.type,((P.info? f.type).map (·.size)).getD 0))
 | .pointer e=>.ptr e
 | .map k e=>.map k e
 | .func _ _ _=>.func
 | _=>.other
def RP:Value->Option D
 | .int k n=>some (.int k n)
 | .bool b=>some (.bool b)
 | .string s=>some (.str s)
 | .slice none 0 0=>some (.sl 0 true [])
 | .pointer none=>some .nilp
 | .map none=>some .nilm
 | .nilIface=>some .nili
 | .nilFunc=>some .nilf
 | _=>none
def Eh:List Value->Option (List D)
 | []=>some []
 | v::r=>match RP v,Eh r with
   | some x,some l=>some (x::l)
   | _,_=>none
def WX {h:Held} {v:Value} {x:D} (e:RP v=some x):RD h v x:=by unfold RP at e;split at e<;>first | cases e;constructor | cases e
def X9 {v:Value} (e:RP v=some .nilp):v=.pointer none:=bD
def X8 {v:Value} (e:RP v=some (.sl 0 true [])):v=.slice none 0 0:=bD
def X7 {c:Array Value} (e:Eh c.toList=some [.nilp,.sl 0 true []]):c=#[.pointer none,.slice none 0 0]:=by
 obtain ⟨l⟩:=c
 match l,e with
 | [],e=>simp[Eh] at e
 | [a],e =>
  simp only[Eh] at e;split at e;·rename_i x l h1 h2;cases h2;cases e
  cases e
 | [a,b],e =>
  simp only[Eh] at e;split at e
  ·rename_i x l h1 h2;split at h2;·rename_i y m h3 h4;cases h4;cases h2;cases e;rw[X9 h1,X8 h3]
   cases h2
  cases e
 | a::b::d::r,e =>
  simp only[Eh] at e;split at e
  ·rename_i x l h1 h2;split at h2
   ·rename_i y m h3 h4;split at h4;·cases h4;cases h2;cases e
    cases h4
   cases h2
  cases e
def CO {h:Held}:∀ {l:List Value} {ds:List D},Eh l=some ds->l.length=ds.length/\∀ (i:Nat) v x,l[i]?=some v->ds[i]?=some x->RD h v x
 | [],ds,e=>by simp[Eh] at e;subst e;simp
 | v::r,ds,e=>by
   simp only[Eh] at e;split at e
   ·rename_i x l hx hl;cases e;have ih:=CO (h:=h) hl;refine ⟨jX,fun i u y hu hy=>?_⟩;cases i with
    | zero=>simp at hu hy;subst hu;subst hy;exact WX hx
    | succ i=>simp at hu hy;exact ih.2 i u y hu hy
   cases e
def AZ (P:Program) (t:Nat):Option TI :=
 match P.info? t,P.underlying t with
 | some i,some u=>match i.zero with
   | some z=>match Eh z.cells.toList with
     | some ds=>if ds.length=i.size then some ⟨Hl P u,i.size,i.bytes,ds⟩ else none
     | none=>none
   | none=>none
 | _,_=>none
def AO {P:Program} {t:Nat} {ti:TI} (e:AZ P t=some ti) :
  ∃ i u z,P.info? t=some i/\P.underlying t=some u/\i.zero=some z/\Hl P u=ti.k/\i.size=ti.size/\i.bytes=ti.bytes/\Eh z.cells.toList=some ti.zero:=by
 unfold AZ at e;split at e
 ·rename_i i u hi hu;split at e
  ·rename_i z hz;split at e
   ·rename_i ds hds;split at e;·cases e;exact ⟨i,u,z,hi,hu,hz,rfl,rfl,rfl,hds⟩
    cases e
   cases e
  cases e
 cases e
def Nl {P:Program} {t:Nat} {ti:TI} (e:AZ P t=some ti):ti.zero.length=ti.size:=by
 unfold AZ at e;split at e
 ·split at e
  ·split at e
   ·split at e;·cases e;assumption
    cases e
   cases e
  cases e
 cases e
structure Eff where
 res:AV
 w:List (Nat × Ae)
 r:List Nat
def Aj (P:Program) (G:Ah) (o:Oper) (ev:Operand->AV) (H:A9) (e:Eff):Prop :=
 ∀ (h:Held) (ρ:Place) (H':A9) (a:Act) (w:World),Sim G h ρ H' w->(∀ x,x∈o.op.operands.toList->R h ρ (a.eval x) (ev x))->(∀ b,b∈e.r->H' b=H b) ->
  o.wp P a w (fun a' w'=>∃ v h' ρ',a'=a.put o.dst v/\Sim G h' ρ' (Am H' e.w) w'/\R h' ρ' v e.res/\A6 h ρ w h' ρ' w') (fun _ _ _=>False)
section
variable {P:Program} {G:Ah} {o:Oper} {ev:Operand->AV} {H:A9}
def Aj.val {res:AV} {r:List Nat}
  (hq:∀ (h:Held) (ρ:Place) (H':A9) (a:Act) (w:World),Sim G h ρ H' w->(∀ x,x∈o.op.operands.toList->R h ρ (a.eval x) (ev x))->(∀ b,b∈r->H' b=H b) ->
   ∃ v,(execOp a.eval o).run P w=.ok (.value v) w/\R h ρ v res):Aj P G o ev H ⟨res,[],r⟩:=by
 intro h ρ H' a w hs hx hr;obtain ⟨v,h1,h2⟩:=hq h ρ H' a w hs hx hr;unfold Oper.wp;rw[h1];exact ⟨v,h,ρ,rfl,hs,h2,A6.refl h ρ w⟩
def Aj.gen {res:AV} {ws:List (Nat × Ae)} {r:List Nat}
  (hq:∀ (h:Held) (ρ:Place) (H':A9) (a:Act) (w:World),Sim G h ρ H' w->(∀ x,x∈o.op.operands.toList->R h ρ (a.eval x) (ev x))->(∀ b,b∈r->H' b=H b) ->
   ∃ v w' h' ρ',(execOp a.eval o).run P w=.ok (.value v) w'/\Sim G h' ρ' (Am H' ws) w'/\R h' ρ' v res/\A6 h ρ w h' ρ' w'):Aj P G o ev H ⟨res,ws,r⟩:=by
 intro h ρ H' a w hs hx hr;obtain ⟨v,w',h',ρ',h1,h2,h3,h4⟩:=hq h ρ H' a w hs hx hr;unfold Oper.wp;rw[h1];exact ⟨v,h',ρ',rfl,h2,h3,h4⟩
def Aj.genU {ws:List (Nat × Ae)} {r:List Nat}
  (hq:∀ (h:Held) (ρ:Place) (H':A9) (a:Act) (w:World),Sim G h ρ H' w->(∀ x,x∈o.op.operands.toList->R h ρ (a.eval x) (ev x))->(∀ b,b∈r->H' b=H b) ->
   ∃ w' h' ρ',(execOp a.eval o).run P w=.ok .skip w'/\Sim G h' ρ' (Am H' ws) w'/\A6 h ρ w h' ρ' w'):Aj P G o ev H ⟨.undef,ws,r⟩:=by
 intro h ρ H' a w hs hx hr;obtain ⟨w',h',ρ',h1,h2,h4⟩:=hq h ρ H' a w hs hx hr;unfold Oper.wp;rw[h1];exact ⟨undef,h',ρ',rfl,h2,.undef _,h4⟩
end
def R.int_inv {h:Held} {ρ:Place} {v:Value} {k:IntKind} {n:Int} (r:R h ρ v (.d (.int k n))):v=.int k n:=cH
def R.bool_inv {h:Held} {ρ:Place} {v:Value} {b:Bool} (r:R h ρ v (.d (.bool b))):v=.bool b:=cH
def R.str_inv {h:Held} {ρ:Place} {v:Value} {s:ByteArray} (r:R h ρ v (.d (.str s))):v=.string s:=cH
def R.ptr_inv {h:Held} {ρ:Place} {v:Value} {b off:Nat} (r:R h ρ v (.ptr b off)):∃ g S,v=.pointer (some ⟨g,off,none⟩)/\ρ b=some (g,S):=by cases r with | ptr _ _ g S hρ=>exact ⟨g,S,rfl,hρ⟩
def AG:AV->Option (List AV)
 | .agg cs=>some cs
 | .d (.agg cs)=>some (cs.map .d)
 | .d (.tup _)=>none
 | .d (.val _)=>none
 | .tup _=>none
 | .undef=>none
 | x=>some [x]
def Zi {v:Value} (h:v.cells=#[v]) {i:Nat} {u:Value} (e:v.cells[i]?=some u):i=0/\u=v:=by
 rw[h] at e;cases i with
 | zero=>simp at e;exact ⟨rfl,e.symm⟩
 | succ i=>simp at e
def I9 {h:Held} {ρ:Place} {v:Value} {x:AV} {cs:List AV} (r:R h ρ v x) (e:AG x=some cs) :
  v.cells.size=cs.length/\∀ (i:Nat) u y,v.cells[i]?=some u->cs[i]?=some y->R h ρ u y:=by
 have one:∀ {v:Value} {x:AV},v.cells=#[v]->R h ρ v x->cs=[x]->v.cells.size=cs.length/\∀ (i:Nat) u y,v.cells[i]?=some u->cs[i]?=some y->R h ρ u y:=by intro v x hv r e;subst e;refine ⟨by simp[hv],fun i u y hu hy=>?_⟩;obtain ⟨rfl,rfl⟩:=Zi hv hu;simp at hy;subst hy;exact r
 cases r with
 | d v x hx =>
  cases hx with
  | agg vs cells hl hr =>
   simp only[AG,Option.some.injEq] at e;subst e;refine ⟨by simp[Value.cells,hl],fun i u y hu hy=>?_⟩;simp only[Aen] at hy;cases hc:cells[i]? with
   | none=>simp[hc] at hy
   | some z=>simp[hc] at hy;subst hy;exact .d _ _ (hr i u z hu hc)
  | tup=>simp[AG] at e
  | int=>exact one rfl (.d _ _ (.int _ _)) gp
  | bool=>exact one rfl (.d _ _ (.bool _)) gp
  | str=>exact one rfl (.d _ _ (.str _)) gp
  | sl0=>exact one rfl (.d _ _ (.sl0 _ _)) gp
  | sl g off n cap full cells vs a b c d e'=>exact one rfl (.d _ _ (.sl g off n cap full cells vs a b c d e')) gp
  | fn f vs us a b c d x y=>exact one rfl (.d _ _ (.fn f vs us a b c d x y)) gp
  | nilp=>exact one rfl (.d _ _ .nilp) gp
  | nilm=>exact one rfl (.d _ _ .nilm) gp
  | nili=>exact one rfl (.d _ _ .nili) gp
  | ifc t v=>exact one rfl (.d _ _ (.ifc t v)) gp
  | nilf=>exact one rfl (.d _ _ .nilf) gp
  | esl a=>exact one rfl (.d _ _ (.esl a)) gp
  | val v=>simp[AG] at e
 | lsl0 base b sz off=>exact one rfl (.lsl0 base b sz off) gp
 | lsl b sz off n cap g S h1 h2 h3=>exact one rfl (.lsl b sz off n cap g S h1 h2 h3) gp
 | ptr b off g S h1=>exact one rfl (.ptr b off g S h1) gp
 | rptr g base off cells vs h1 h2=>exact one rfl (.rptr g base off cells vs h1 h2) gp
 | mp b g S h1=>exact one rfl (.mp b g S h1) gp
 | ifp t b g S h1=>exact one rfl (.ifp t b g S h1) gp
 | agg vs cells hl hr =>simp only[AG,Option.some.injEq] at e;subst e;exact ⟨hl,hr⟩
 | tup=>simp[AG] at e
 | fn f vs us a b c d x y=>exact one rfl (.fn f vs us a b c d x y) gp
 | undef=>simp[AG] at e
def AV.one:AV->Bool
 | .d x=>x.one
 | .agg _ | .tup _ | .undef=>false
 | _=>true
def AV.one_ok {h:Held} {ρ:Place} {v:Value} {x:AV} (r:R h ρ v x) (e:x.one=true):v.oneCell'=true:=by
 cases r with
 | d v x hx =>
  cases hx with
  | val v=>cases v<;>first | rfl | simp[AV.one,D.one] at e
  | _=>first | rfl | simp[AV.one,D.one] at e
 | agg=>simp[AV.one] at e
 | tup=>simp[AV.one] at e
 | undef=>simp[AV.one] at e
 | _=>rfl
section
variable {P:Program} {G:Ah} {o:Oper} {ev:Operand->AV} {H:List Ae}
abbrev hp (H:List Ae):A9:=fun i=>H[i]?
def TF {x:Operand} {h0:A9} (ho:o.op=.move x\/o.op=.assign x):Aj P G o ev h0 ⟨ev x,[],[]⟩:=by
 refine Aj.val fun h ρ H' a w hs hx _=>⟨a.eval x,?_,hx x ?_⟩;·rcases ho with ho | ho<;>simp[execOp,ho]
 rcases ho with ho | ho<;>simp[Op.operands,ho]
def Z6 {c x y:Operand} {b:Bool} {h0:A9} (ho:o.op=.pick c x y) (hc:ev c=.d (.bool b)):Aj P G o ev h0 ⟨if b then ev x else ev y,[],[]⟩:=by
 refine Aj.val fun h ρ H' a w hs hx _=>⟨if b then a.eval x else a.eval y,?_,?_⟩;·have h1:=hx c gG;rw[hc] at h1;simp[execOp,ho,h1.bool_inv,asBool]
 cases b;·exact hx y gG
 exact hx x gG
def Yo {e:Nat} {ti:TI} (ho:o.op=.alloc e) (ht:AZ P e=some ti) :
  Aj P G o ev (hp H) ⟨.ptr H.length 0,[(H.length,.box (ti.zero.map .d))],[H.length]⟩:=by
 refine Aj.gen fun h ρ H' a w hs hx hr=>?_;obtain ⟨i,u,z,h1,h2,h3,h4,h5,h6,h7⟩:=AO ht;have hn:H' H.length=none:=eW
 have hd:=CO (h:=h) h7;obtain ⟨s1,s2⟩:=hs.alloc H.length hn (.cells z.cells e) z.cells.size (.box (ti.zero.map .d)) (by
  refine ⟨w.heap.size,z.cells.size,z.cells,e,(0,0),Aw _ _ _,heap_alloc_new w _,rfl,fun j _=>lC,AgN (by simp[<-hd.1]),fun j x v hxj hv=>?_,fun j=>hs.held_none j⟩;simp only[Aen] at hxj;cases hc:ti.zero[j]? with
  | none=>simp[hc] at hxj
  | some y=>simp[hc] at hxj;subst hxj;exact .d _ _ (hd.2 j v y iG hc))
 refine ⟨_,_,_,_,?_,s1,.ptr _ _ w.heap.size z.cells.size (Aw _ _ _),s2⟩;exact oT
def VI {e:Nat} {ti:TI} (ho:o.op=.alloc e) (ht:AZ P e=some ti) (hz:ti.zero=[.nilp,.sl 0 true []]) :
  Aj P G o ev (hp H) ⟨.ptr H.length 0,[(H.length,.bld e false 0 none)],[H.length]⟩:=by
 refine Aj.gen fun h ρ H' a w hs hx hr=>?_;obtain ⟨i,u,z,h1,h2,h3,h4,h5,h6,h7⟩:=AO ht;have hn:H' H.length=none:=eW
 have hd:=CO (h:=h) h7;have hzc:z.cells=#[.pointer none,.slice none 0 0]:=by rw[hz] at h7;exact X7 h7
 obtain ⟨s1,s2⟩:=hs.alloc H.length hn (.cells z.cells e) z.cells.size (.bld e false 0 none) (by refine ⟨w.heap.size,z.cells.size,.slice none 0 0,Aw _ _ _,by rw[hzc];exact heap_alloc_new w _,⟨rfl,rfl⟩,fun j=>hs.held_none j⟩);refine ⟨_,_,_,_,?_,s1,.ptr _ _ w.heap.size z.cells.size (Aw _ _ _),s2⟩;exact oT
def Acl {e:Nat} {x:Operand} {cs:List AV} (ho:o.op=.box e x) (hc:AG (ev x)=some cs) :
  Aj P G o ev (hp H) ⟨.ptr H.length 0,[(H.length,.box cs)],[H.length]⟩:=by
 refine Aj.gen fun h ρ H' a w hs hx hr=>?_;have hn:H' H.length=none:=eW
 have hv:=I9 (hx x gG) hc;have hρ:ρ H.length=none:=by
  cases e:ρ H.length with
  | none=>rfl
  | some y=>obtain ⟨_,b,hb⟩:=hs.dom _ y.1 y.2 e;exact qB
 obtain ⟨s1,s2⟩:=hs.alloc H.length hn (.cells (a.eval x).cells e) (a.eval x).cells.size (.box cs) (by refine ⟨w.heap.size,_,(a.eval x).cells,e,(0,0),Aw _ _ _,heap_alloc_new w _,rfl,fun j _=>lC,AgN hv.1.symm,fun j y v hy hv'=>?_,fun j=>hs.held_none j⟩;exact (hv.2 j v y hv' hy).mono (Held.le_refl _) (IL _ hρ));refine ⟨_,_,_,_,?_,s1,.ptr _ _ w.heap.size _ (Aw _ _ _),s2⟩;simp[execOp,ho,Instr.box,newVar,newRow,newObj,Sem.run]
end
end Go.Abs
namespace Go.Abs
open Go
def EI {w:World} {g off:Nat} {c:Array Value} {E:Nat} {fr:Nat × Nat} (h:w.heap[g]?=some (.cells c E fr)):w.cell? ⟨g,off,none⟩=c[off]?:=by simp[World.cell?,h]
def Cd (P:Program) (g off:Nat):∀ (vs:List Value) (i:Nat) (c:Array Value) (E:Nat) (fr:Nat × Nat) (w:World),w.heap[g]?=some (.cells c E fr)->HV c.size fr ->
  off+i+vs.length<=c.size->(∀ v,v∈vs->v.oneCell'=true) ->
  ∃ c',(storeCells ⟨g,off,none⟩ vs i).run P w=.ok () (w.setRow g c')/\c'.size=c.size/\∀ j,c'[j]?=if off+i<=j/\j<off+i+vs.length then vs[j-(off+i)]? else c[j]?
 | [],i,c,E,fr,w,hg,hu,hl,h1=>by
   refine ⟨c,?_,rfl,fun j=>?_⟩;·simp only[storeCells];rw[setRow_self w g c E fr hg];rfl
   rw[if_neg];simp
 | v::rest,i,c,E,fr,w,hg,hu,hl,h1=>by
   have hi:off+i<c.size:=(by simp at hl;omega);have hcell:w.cell? ⟨g,off+i,none⟩=some c[off+i]:=(by simp[World.cell?,hg,hi]);have hfro:w.frozen? ⟨g,off+i,none⟩=false:=(by have:=hu (off+i) hi;simp[World.frozen?,hg];omega);have hst:(store ((⟨g,off,none⟩:Addr).add i) v).run P w=.ok () (w.setRow g (c.setIfInBounds (off+i) v)):=(by rw[Addr.add_lit,run_store P w _ v _ (h1 v lC),hcell];simp[hfro,setCell_eq_setRow w g (off+i) c E fr v hg]);obtain ⟨c',e1,e2,e3⟩:=Cd P g off rest (i+1) (c.setIfInBounds (off+i) v) E fr (w.setRow g (c.setIfInBounds (off+i) v)) (setRow_heap w g c _ E fr hg)
    (by simpa using hu) (by simp at hl ⊢;omega) (fun x hx=>h1 x kI)
   refine ⟨c',?_,iH,fun j=>?_⟩;·simp only[storeCells,Sem.run_bind,hst,Result.andThen_ok,e1,setRow_setRow]
   rw[e3 j];by_cases hj:j=off+i;·subst hj;rw[if_neg lA,if_pos lC];simp[hi]
   by_cases hin:off+(i+1)<=j/\j<off+(i+1)+rest.length
   ·rw[if_pos hin,if_pos jW];have:j-(off+i)=(j-(off+(i+1)))+1:=by omega
    rw[this];simp
   rw[if_neg hin,if_neg jW];simp[Ne.symm hj]
def Cg:TK->Bool
 | .struct _ | .array _ _=>true
 | _=>false
def PB {P:Program} {t:Nat} {ti:TI} (ht:AZ P t=some ti) (w:World):(isAgg t).run P w=.ok (Cg ti.k) w:=by obtain ⟨i,u,z,h1,h2,h3,h4,h5,h6,h7⟩:=AO ht;rw[<-h4];simp only[isAgg,Sem.run_bind,run_underlying h2,Result.andThen_ok];cases u<;>rfl
def run_sizeOf {P:Program} {t:Nat} {ti:TI} (ht:AZ P t=some ti) (w:World):(sizeOf t).run P w=.ok ti.size w:=by obtain ⟨i,u,z,h1,h2,h3,h4,h5,h6,h7⟩:=AO ht;simp[sizeOf,typeInfo,h1,h5]
def LQ {P:Program} {t:Nat} {ti:TI} (ht:AZ P t=some ti) (w:World) (g off:Nat) (f:Nat->Value)
  (hc:∀ j,j<(if Cg ti.k then ti.size else 1)->w.cell? ⟨g,off+j,none⟩=some (f j)) :
  (loadVar t ⟨g,off,none⟩).run P w=.ok (if Cg ti.k then .agg ((Aex ti.size).map f).toArray else f 0) w:=by
 simp only[loadVar,Sem.run_bind,PB ht,Result.andThen_ok];cases ha:Cg ti.k;·have:=hc 0 (by simp[ha]);simp at this;simp[run_load,this]
 have h2:=run_loadCells (P:=P) w ⟨g,off,none⟩ ti.size f (fun j hj=>by rw[Addr.add_lit];exact hc j (by simpa[ha] using hj));simp[run_sizeOf ht,h2]
def mkA (ti:TI) (off:Nat) (cs:List AV):AV:=if Cg ti.k then .agg ((cs.drop off).take ti.size) else cs.getD off .undef
def mkD (ti:TI) (off:Nat) (cs:List D):AV:=if Cg ti.k then .d (.agg ((cs.drop off).take ti.size)) else .d (cs.getD off .nilp)
def XD (P:Program) (H:List Ae) (t:Nat) (p:AV) (k:Eff->Prop):Prop :=
 match AZ P t with
 | some ti=>match p with
   | .ptr b off=>match H[b]? with
     | some (.box cs)=>off+(if Cg ti.k then ti.size else 1)<=cs.length/\k ⟨mkA ti off cs,[],[b]⟩
     | some (.row _ cs)=>off+(if Cg ti.k then ti.size else 1)<=cs.length/\k ⟨mkD ti off cs,[],[b]⟩
     | _=>False
   | .rptr off cs=>off+(if Cg ti.k then ti.size else 1)<=cs.length/\k ⟨mkD ti off cs,[],[]⟩
   | _=>False
 | none=>False
section
variable {P:Program} {G:Ah} {o:Oper} {ev:Operand->AV} {H:List Ae}
def AaM {h:Held} {ρ:Place} {ti:TI} {off:Nat} {cs:List AV} {c:Nat->Value} (hb:off+(if Cg ti.k then ti.size else 1)<=cs.length)
  (hr:∀ (j:Nat) x,cs[j]?=some x->R h ρ (c j) x):R h ρ (if Cg ti.k then .agg ((Aex ti.size).map fun j=>c (off+j)).toArray else c (off+0)) (mkA ti off cs):=by
 unfold mkA;cases ha:Cg ti.k<;>simp[ha] at hb ⊢
 ·have:off<cs.length:=by omega
  rw[AbZ this];exact hr off _ (AbZ this)
 refine .agg _ _ jW (fun i v x hv hx=>?_);simp only[Af2,Aen] at hv;rw[Aeu] at hx;split at hx;·rename_i hlt;simp[hlt] at hv;subst hv;rw[AfI] at hx;exact hr (off+i) x hx
 cases hx
def AaL {h:Held} {ρ:Place} {ti:TI} {off:Nat} {cs:List D} {c:Nat->Value} (hb:off+(if Cg ti.k then ti.size else 1)<=cs.length)
  (hr:∀ (j:Nat) x,cs[j]?=some x->RD h (c j) x):R h ρ (if Cg ti.k then .agg ((Aex ti.size).map fun j=>c (off+j)).toArray else c (off+0)) (mkD ti off cs):=by
 unfold mkD;cases ha:Cg ti.k<;>simp[ha] at hb ⊢
 ·have:off<cs.length:=by omega
  rw[AbZ this];exact .d _ _ (hr off _ (AbZ this))
 refine .d _ _ (.agg _ _ jW (fun i v x hv hx=>?_));simp only[Af2,Aen] at hv;rw[Aeu] at hx;split at hx;·rename_i hlt;simp[hlt] at hv;subst hv;rw[AfI] at hx;exact hr (off+i) x hx
 cases hx
def N7 {t:Nat} {x:Operand} {ti:TI} (ho:o.op=.load t x) (ht:AZ P t=some ti) {a:Act} {w:World} {g off:Nat} (c:Nat->Value)
  (hp:a.eval x=.pointer (some ⟨g,off,none⟩)) (hc:∀ j,j<(if Cg ti.k then ti.size else 1)->w.cell? ⟨g,off+j,none⟩=some (c (off+j))) :
  (execOp a.eval o).run P w=.ok (.value (if Cg ti.k then .agg ((Aex ti.size).map fun j=>c (off+j)).toArray else c (off+0))) w:=by
 have:=LQ ht w g off (fun j=>c (off+j)) hc;simp[execOp,ho,hp,Instr.loadAt,Instr.sureAddr,this]
def AaQ {t:Nat} {x:Operand} {k:Eff->Prop} (ho:o.op=.load t x) (hk:XD P H t (ev x) k):∃ e,Aj P G o ev (hp H) e/\k e:=by
 unfold XD at hk;split at hk
 ·rename_i ti ht;split at hk
  ·rename_i b off hx;split at hk
   ·rename_i cs hb;refine ⟨_,Aj.val fun h ρ H' a w hs hops hr=>?_,hk.2⟩;obtain ⟨g,S,e1,e2⟩:=(hx▸hops x gG).ptr_inv;obtain ⟨g',S',c,E,fr,b1,b2,b3,b4,b5,b6,b7⟩:=hs.blk b (.box cs) eX;rw[e2] at b1;cases b1;have hlen:∀ j,j<cs.length->c[j]?=some (c.getD j undef):=fun j hj=>by
     have:j<c.size:=lA
     simp[Aeg this]
    refine ⟨_,N7 ho ht (fun j=>c.getD j undef) e1 (fun j hj=>?_),AaM (c:=fun j=>c.getD j undef) hk.1 (fun j y hy=>?_)⟩;·rw[EI b2];exact hlen _ lA
    exact b6 j y _ hy (hlen j (AbY.1 hy).1)
   ·rename_i fz cs hb;refine ⟨_,Aj.val fun h ρ H' a w hs hops hr=>?_,hk.2⟩;obtain ⟨g,S,e1,e2⟩:=(hx▸hops x gG).ptr_inv;rcases (hs.blk b (.row fz cs) eX).2 with ⟨b1,_⟩ | ⟨g',S',c,E,fr,b1,b2,b3,b4,b5,b6,b7⟩
    ·rw[e2] at b1;cases b1
    rw[e2] at b1;cases b1;have hlen:∀ j,j<cs.length->c[j]?=some (c.getD j undef):=fun j hj=>by
     have:j<c.size:=lA
     simp[Aeg this]
    refine ⟨_,N7 ho ht (fun j=>c.getD j undef) e1 (fun j hj=>?_),AaL (c:=fun j=>c.getD j undef) hk.1 (fun j y hy=>?_)⟩;·rw[EI b2];exact hlen _ lA
    exact b6 j y _ hy (hlen j (AbY.1 hy).1)
   exact hk.elim
  ·rename_i off cs hx;refine ⟨_,Aj.val fun h ρ H' a w hs hops hr=>?_,hk.2⟩;have hv:=hx▸hops x gG;generalize he:a.eval x=v at hv;cases hv with
   | rptr g base _ _ vs h1 h2 =>
    have hlt:=hk.1;refine ⟨_,N7 ho ht (fun j=>vs (j-base)) he (fun j hj=>?_),?_⟩;·have hj':off+j<cs.length:=lA;have:=hs.prom _ _ _ (h1 (off+j) _ (AbZ hj'));rw[Agz,this];congr 2;omega
    have:=AaL (ρ:=ρ) (c:=vs) hk.1 h2;have e:∀ j,base+off+j-base=off+j:=fun j=>lA
    simpa[e] using this
  exact hk.elim
 exact hk.elim
end
end Go.Abs
namespace Go.Abs
open Go
def cut {α:Type} (cells:List α) (off n:Nat):List α:=(cells.drop off).take n
def GJ {α:Type} {cells:List α} {n:Nat} (h:cells.length=n):cut cells 0 n=cells:=by unfold cut;rw[List.drop_zero,List.take_of_length_le lA]
def Eb {α:Type} {cells:List α} {off n i:Nat} {x:α} (h:(cut cells off n)[i]?=some x):i<n/\cells[off+i]?=some x:=by
 unfold cut at h;rw[Aeu] at h;split at h;·rw[AfI] at h;exact ⟨by assumption,h⟩
 cases h
mutual
def sealA (H:List Ae):AV->Option D
 | .d x=>some x
 | .lsl b sz off n=>match H[b]? with
   | some (.row _ cells)=>some (.sl n false (cut cells off (n*sz)))
   | _=>none
 | .agg cs=>match sealL H cs with | some l=>some (.agg l) | none=>none
 | .tup cs=>match sealL H cs with | some l=>some (.tup l) | none=>none
 | .fn f a b=>match sealL H a,sealL H b with | some l,some m=>some (.fn f l m) | _,_=>none
 | .ptr _ _=>none
 | .rptr _ _=>none
 | .mp _=>none
 | .ifp _ _=>none
 | .undef=>none
def sealL (H:List Ae):List AV->Option (List D)
 | []=>some []
 | x::r=>match sealA H x,sealL H r with | some y,some l=>some (y::l) | _,_=>none
end
mutual
def AY:AV->List Nat
 | .lsl b _ _ _=>[b]
 | .agg cs=>idsL cs
 | .tup cs=>idsL cs
 | .fn _ a b=>idsL a++idsL b
 | _=>[]
def idsL:List AV->List Nat
 | []=>[]
 | x::r=>AY x++idsL r
end
def Ep {H:List Ae}:∀ {cs:List AV} {l:List D},sealL H cs=some l->cs.length=l.length/\∀ (i:Nat) x d,cs[i]?=some x->l[i]?=some d->sealA H x=some d
 | [],l,e=>by simp[sealL] at e;subst e;simp
 | x::r,l,e=>by
   simp only[sealL] at e;split at e
   ·rename_i y m hy hm;cases e;have ih:=Ep hm;refine ⟨jX,fun i u d hu hd=>?_⟩;cases i with
    | zero=>simp at hu hd;subst hu;subst hd;exact hy
    | succ i=>simp at hu hd;exact ih.2 i u d hu hd
   cases e
def GF {b:Nat}:∀ {cs:List AV} {i:Nat} {x:AV},cs[i]?=some x->b∈AY x->b∈idsL cs
 | [],_,_,e,_=>by simp at e
 | y::r,0,x,e,h=>by simp at e;subst e;simp[idsL,h]
 | y::r,i+1,x,e,h=>by simp at e;simp[idsL,GF e h]
def Vk (h:Held) (ρ:Place) (H:List Ae) (b:Nat):Prop :=
 ∀ fz cells,H[b]?=some (.row fz cells)->∀ g S,ρ b=some (g,S)->∀ (j:Nat) x,cells[j]?=some x->x.one=true/\∃ v,h g j=some v/\RD h v x
def Ci {h:Held} {ρ:Place} {H:List Ae} {v:Value} {x:AV} (r:R h ρ v x):∀ {d:D},sealA H x=some d->(∀ b,b∈AY x->Vk h ρ H b)->RD h v d:=by
 induction r with
 | d v x hx=>intro d e _;simp[sealA] at e;subst e;exact hx
 | lsl0 base b sz off =>
  intro d e _;simp only[sealA] at e;split at e;·cases e;simp[cut];exact .sl0 _ _
  cases e
 | lsl b sz off n cap g S hρ hn hc =>
  intro d e hf;simp only[sealA] at e;split at e
  ·rename_i fz cells hb;cases e;have hfx:=hf b (by simp[AY]) fz cells hb g S hρ;refine .sl g off n cap false _ (fun i=>((h g (off+i)).getD undef)) hn lC (fun i x hx=>?_) (fun i x hx=>?_) (fun i x hx=>(hfx _ _ (Eb hx).2).1)
   ·obtain ⟨_,v,e1,e2⟩:=hfx _ _ (Eb hx).2;simp[e1]
   obtain ⟨_,v,e1,e2⟩:=hfx _ _ (Eb hx).2;simpa[e1] using e2
  cases e
 | ptr=>intro d e;simp[sealA] at e
 | rptr=>intro d e;simp[sealA] at e
 | mp=>intro d e;simp[sealA] at e
 | ifp=>intro d e;simp[sealA] at e
 | undef=>intro d e;simp[sealA] at e
 | agg vs cells hl _ ih =>
  intro d e hf;simp only[sealA] at e;split at e
  ·rename_i l hs;cases e;have hg:=Ep hs;refine .agg vs l lA (fun i v y hv hy=>?_);have hi:i<cells.length:=fU
   have hx:=AbZ hi;exact oP
  cases e
 | tup vs cells hl _ ih =>
  intro d e hf;simp only[sealA] at e;split at e
  ·rename_i l hs;cases e;have hg:=Ep hs;refine .tup vs l lA (fun i v y hv hy=>?_);have hi:i<cells.length:=fU
   have hx:=AbZ hi;exact oP
  cases e
 | fn f vs us first captured hl hl' _ _ ih ih' =>
  intro d e hf;simp only[sealA] at e;split at e
  ·rename_i l m hs hs';cases e;have hg:=Ep hs;have hg':=Ep hs';refine .fn f vs us l m lA lA (fun i v y hv hy=>?_) (fun i v y hv hy=>?_)
   ·have hi:i<first.length:=fU
    have hx:=AbZ hi;exact ih i v _ hv hx (hg.2 i _ y hx hy) (fun b hb=>hf b (by simp[AY];exact .inl (GF hx hb)))
   have hi:i<captured.length:=fU;have hx:=AbZ hi;exact ih' i v _ hv hx (hg'.2 i _ y hx hy) (fun b hb=>hf b (by simp[AY];exact .inr (GF hx hb)))
  cases e
def Z7 {H:List Ae} {x:AV} {d:D} (e:sealA H x=some d) (h:x.one=true):d.one=true:=by
 cases x with
 | d y=>simp[sealA] at e;subst e;exact h
 | lsl b sz off n =>
  simp only[sealA] at e;split at e;·cases e;rfl
  cases e
 | ptr=>simp[sealA] at e
 | rptr=>simp[sealA] at e
 | mp=>simp[sealA] at e
 | ifp=>simp[sealA] at e
 | undef=>simp[sealA] at e
 | agg=>simp[AV.one] at h
 | tup=>simp[AV.one] at h
 | fn f a b =>
  simp only[sealA] at e;split at e;·cases e;rfl
  cases e
def Px {H:List Ae} {xs:List AV} {ds:List D} (e:sealL H xs=some ds) (h:xs.all AV.one=true):∀ (j:Nat) d,ds[j]?=some d->d.one=true:=by
 intro j d hd;have hg:=Ep e;have hi:j<xs.length:=by have:=(AbY.1 hd).1;omega
 have hx:=AbZ hi;exact Z7 (hg.2 j _ d hx hd) (AgQ.1 h _ (AgR hi))
def Nw {h:Held} {ρ:Place} {H:List Ae} {vs:Array Value} {xs:List AV} {ds:List D} (r:RL h ρ vs xs) (e:sealL H xs=some ds) (hf:∀ b,b∈idsL xs->Vk h ρ H b) :
  vs.size=ds.length/\∀ (i:Nat) v d,vs[i]?=some v->ds[i]?=some d->RD h v d:=by
 have hg:=Ep e;refine ⟨im,fun i v d hv hd=>?_⟩;have hi:i<xs.length:=by have:=(AbY.1 hd).1;omega
 have hx:=AbZ hi;exact Ci (r.2 i v _ hv hx) (hg.2 i _ d hx hd) (fun b hb=>hf b (GF hx hb))
def unf0:D->D
 | .sl n _ cs=>.sl n false cs
 | x=>x
def unf1:D->D
 | .agg cs=>.agg (cs.map unf0)
 | x=>unf0 x
def unf:D->D
 | .tup cs=>.tup (cs.map unf1)
 | x=>unf1 x
def unf_int (k:IntKind) (n:Int):unf (.int k n)=.int k n:=rfl
def unf_bool (b:Bool):unf (.bool b)=.bool b:=rfl
def unf_str (s:ByteArray):unf (.str s)=.str s:=rfl
def unf_sl (n:Nat) (f:Bool) (cs:List D):unf (.sl n f cs)=.sl n false cs:=rfl
def unf_agg (cs:List D):unf (.agg cs)=.agg (cs.map unf0):=rfl
def unf_tup (cs:List D):unf (.tup cs)=.tup (cs.map unf1):=rfl
def unf1_int (k:IntKind) (n:Int):unf1 (.int k n)=.int k n:=rfl
def unf1_bool (b:Bool):unf1 (.bool b)=.bool b:=rfl
def unf1_str (s:ByteArray):unf1 (.str s)=.str s:=rfl
def unf1_sl (n:Nat) (f:Bool) (cs:List D):unf1 (.sl n f cs)=.sl n false cs:=rfl
def unf1_agg (cs:List D):unf1 (.agg cs)=.agg (cs.map unf0):=rfl
def unf0_int (k:IntKind) (n:Int):unf0 (.int k n)=.int k n:=rfl
def unf0_bool (b:Bool):unf0 (.bool b)=.bool b:=rfl
def unf0_str (s:ByteArray):unf0 (.str s)=.str s:=rfl
def unf0_sl (n:Nat) (f:Bool) (cs:List D):unf0 (.sl n f cs)=.sl n false cs:=rfl
def RD.unf0 {h:Held} {v:Value} {x:D} (r:RD h v x):RD h v (unf0 x):=by
 cases r with
 | sl0 base full=>exact .sl0 base false
 | sl g off n cap full cells vs hn hf hh hr ho=>exact .sl g off n cap false cells vs hn lC hh hr ho
 | int=>exact .int _ _
 | bool=>exact .bool _
 | str=>exact .str _
 | agg vs cells hl hr=>exact .agg vs cells hl hr
 | tup vs cells hl hr=>exact .tup vs cells hl hr
 | fn f vs us a b hl hl' hr hr'=>exact .fn f vs us a b hl hl' hr hr'
 | nilp=>exact .nilp
 | nilm=>exact .nilm
 | nili=>exact .nili
 | ifc t v=>exact .ifc t v
 | nilf=>exact .nilf
 | esl a=>exact .esl a
 | val v=>exact .val v
def RD.mapL {h:Held} {vs:Array Value} {cells:List D} {f:D->D} (hf:∀ {v:Value} {x:D},RD h v x->RD h v (f x)) (hr:∀ (i:Nat) v x,vs[i]?=some v->cells[i]?=some x->RD h v x) :
  ∀ (i:Nat) v x,vs[i]?=some v->(cells.map f)[i]?=some x->RD h v x:=by
 intro i v x hv hx;simp only[Aen] at hx;cases hc:cells[i]? with
 | none=>simp[hc] at hx
 | some y=>simp[hc] at hx;subst hx;exact hf (hr i v y hv hc)
def RD.unf1 {h:Held} {v:Value} {x:D} (r:RD h v x):RD h v (unf1 x):=by
 cases r with
 | agg vs cells hl hr=>exact .agg vs _ iI (RD.mapL RD.unf0 hr)
 | int=>exact RD.unf0 (.int _ _)
 | bool=>exact RD.unf0 (.bool _)
 | str=>exact RD.unf0 (.str _)
 | sl0 base full=>exact RD.unf0 (.sl0 base full)
 | sl g off n cap full cells vs hn hf hh hr ho=>exact RD.unf0 (.sl g off n cap full cells vs hn hf hh hr ho)
 | tup vs cells hl hr=>exact RD.unf0 (.tup vs cells hl hr)
 | fn f vs us a b hl hl' hr hr'=>exact RD.unf0 (.fn f vs us a b hl hl' hr hr')
 | nilp=>exact RD.unf0 .nilp
 | nilm=>exact RD.unf0 .nilm
 | nili=>exact RD.unf0 .nili
 | ifc t v=>exact RD.unf0 (.ifc t v)
 | nilf=>exact RD.unf0 .nilf
 | esl a=>exact RD.unf0 (.esl a)
 | val v=>exact RD.unf0 (.val v)
def RD.unf {h:Held} {v:Value} {x:D} (r:RD h v x):RD h v (unf x):=by
 cases r with
 | tup vs cells hl hr=>exact .tup vs _ iI (RD.mapL RD.unf1 hr)
 | int=>exact RD.unf1 (.int _ _)
 | bool=>exact RD.unf1 (.bool _)
 | str=>exact RD.unf1 (.str _)
 | sl0 base full=>exact RD.unf1 (.sl0 base full)
 | sl g off n cap full cells vs hn hf hh hr ho=>exact RD.unf1 (.sl g off n cap full cells vs hn hf hh hr ho)
 | agg vs cells hl hr=>exact RD.unf1 (.agg vs cells hl hr)
 | fn f vs us a b hl hl' hr hr'=>exact RD.unf1 (.fn f vs us a b hl hl' hr hr')
 | nilp=>exact RD.unf1 .nilp
 | nilm=>exact RD.unf1 .nilm
 | nili=>exact RD.unf1 .nili
 | ifc t v=>exact RD.unf1 (.ifc t v)
 | nilf=>exact RD.unf1 .nilf
 | esl a=>exact RD.unf1 (.esl a)
 | val v=>exact RD.unf1 (.val v)
def sealR (H:List Ae) (xs:List AV):Option (List D):=match sealL H xs with | some l=>some (l.map unf0) | none=>none
def Js {H:List Ae} {xs:List AV} {ds:List D} (e:sealR H xs=some ds):∃ l,sealL H xs=some l/\ds=l.map unf0:=by
 unfold sealR at e;split at e;·rename_i l hl;cases e;exact ⟨l,hl,rfl⟩
 cases e
def Nv {h:Held} {ρ:Place} {H:List Ae} {vs:Array Value} {xs:List AV} {ds:List D} (r:RL h ρ vs xs) (e:sealR H xs=some ds) (hf:∀ b,b∈idsL xs->Vk h ρ H b) :
  vs.size=ds.length/\∀ (i:Nat) v d,vs[i]?=some v->ds[i]?=some d->RD h v d:=by
 obtain ⟨l,hl,rfl⟩:=Js e;have:=Nw r hl hf;exact ⟨by simpa using this.1,RD.mapL RD.unf0 this.2⟩
def Ld {H:List Ae} {xs:List AV} {ds:List D} (e:sealR H xs=some ds) (h:xs.all AV.one=true):∀ (j:Nat) d,ds[j]?=some d->d.one=true:=by
 obtain ⟨l,hl,rfl⟩:=Js e;intro j d hd;simp only[Aen] at hd;cases hc:l[j]? with
 | none=>simp[hc] at hd
 | some y =>simp[hc] at hd;subst hd;have:=Px hl h j y hc;cases y<;>first | exact this | rfl
def CG (H:A9) (a b:List (Nat × Ae)):Am H (a++b)=Am (Am H a) b:=by
 induction a generalizing H with
 | nil=>rfl
 | cons x r ih=>obtain ⟨i,y⟩:=x;simp[Am,ih]
def AD (H:A9):∀ (a:List (Nat × Ae)) (i:Nat),(∀ p,p∈a->p.1≠i)->Am H a i=H i
 | [],_,_=>rfl
 | (j,y)::r,i,hn=>by rw[Am,AD _ r i (fun p hp=>hn p (by simp[hp]))];have:=hn (j,y) lC;simp at this;simp[Ne.symm this]
section
variable {G:Ah} {h:Held} {ρ:Place} {H:A9} {w:World}
def Sim.reblk (s:Sim G h ρ H w) (i:Nat) (hl:BC H i) (blk:Ae) (hb:GO h ρ w i blk):Sim G h ρ (Am H [(i,blk)]) w:=by
 refine ⟨s.prom,s.glob,?_,?_,?_⟩
 ·intro j b e;by_cases hj:j=i;·subst hj;simp[Am] at e;subst e;exact hb
  simp[Am,hj] at e;exact s.blk j b e
 ·intro j g S e;obtain ⟨h1,b,h2⟩:=s.dom j g S e;refine ⟨h1,?_⟩;by_cases hj:j=i;·exact ⟨blk,by simp[Am,hj]⟩
  exact ⟨b,iF⟩
 intro j k g S1 S2 e1 e2 l1 l2;have lv:∀ {x:Nat},BC (Am H [(i,blk)]) x->BC H x:=by
  intro x ⟨b,h1,h2⟩;by_cases hx:x=i;·subst hx;exact hl
  exact ⟨b,gv,h2⟩
 exact s.inj j k g S1 S2 e1 e2 (lv l1) (lv l2)
def XJ (s:Sim G h ρ H w) (b:Nat) (fz:Bool) (cells:List D) (hb:H b=some (.row fz cells)) :
  ∃ h',Sim G h' ρ (Am H [(b,.row true cells)]) w/\A6 h ρ w h' ρ w/\(∀ g S,ρ b=some (g,S)->∀ (j:Nat) x,cells[j]?=some x->x.one=true/\∃ v,h' g j=some v/\RD h' v x):=by
 have hl:BC H b:=⟨_,hb,lC⟩;obtain ⟨ho,hblk⟩:=s.blk b _ hb;rcases hblk with ⟨h1,h2⟩ | ⟨g,S,c,E,fr,h1,h2,h3,h4,h5,h6,h7,h8⟩
 ·exact ⟨h,s.reblk b hl _ ⟨ho,.inl ⟨h1,h2⟩⟩,A6.refl _ _ _,fun g S e=>by rw[h1] at e;cases e⟩
 cases fz with
 | true =>
  refine ⟨h,s.reblk b hl _ ⟨ho,.inr ⟨g,S,c,E,fr,h1,h2,h3,h4,h5,h6,h7,h8⟩⟩,A6.refl _ _ _,fun g' S' e j x hx=>?_⟩;rw[h1] at e;cases e;have hj:=(AbY.1 hx).1;have hc:j<c.size:=lA
  have e2:c[j]?=some c[j]:=Aeg hc;exact ⟨ho j x hx,c[j],by rw[h7 rfl j hj,e2],h6 j x _ hx e2⟩
 | false =>
  let h':Held:=fun k o=>if k=g/\o<cells.length then c[o]? else h k o
  have hno:∀ j,h g j=none:=fun j=>h8 j lC;have hle:h.le h':=by
   intro k o v e;have:¬(k=g/\o<cells.length):=by rintro ⟨rfl,_⟩;rw[hno o] at e;cases e
   simp only[h',this,if_false];exact e
  have hR:∀ (j:Nat) x v,cells[j]?=some x->c[j]?=some v->RD h' v x:=fun j x v a b=>(h6 j x v a b).mono hle;obtain ⟨t1,t2⟩:=s.change b hl g S h1 (.row true cells) h' w hle (fun k hk=>⟨fun o=>by simp[h',hk],rfl⟩) rfl rfl rfl rfl
   (fun o v e=>by
    simp only[h',true_and] at e;split at e;·rw[EI h2];exact e
    rw[hno o] at e;cases e)
   ⟨ho,.inr ⟨g,S,c,E,fr,h1,h2,h3,h4,h5,hR,fun _ j hj=>by simp[h',hj],fun j hj=>by have:=hj rfl;simp only[h',true_and];rw[if_neg lA];exact hno j⟩⟩
  refine ⟨h',t1,t2,fun g' S' e j x hx=>?_⟩;rw[h1] at e;cases e;have hj:=(AbY.1 hx).1;have hc:j<c.size:=lA
  have e2:c[j]?=some c[j]:=Aeg hc;exact ⟨ho j x hx,c[j],by simp[h',hj,e2],hR j x _ hx e2⟩
end
def frz (H:List Ae):List Nat->List (Nat × Ae)
 | []=>[]
 | b::r=>match H[b]? with
   | some (.row false cells)=>(b,.row true cells)::frz H r
   | _=>frz H r
def BV {H:List Ae} {p:Nat × Ae}:∀ {ids:List Nat},p∈frz H ids->p.1∈ids
 | [],e=>by simp[frz] at e
 | b::r,e=>by
   simp only[frz] at e;split at e
   ·rcases AgA.1 e with e | e
    ·subst e;simp
    exact AgI _ (BV e)
   exact AgI _ (BV e)
def B0 {G:Ah} {ρ:Place} {w:World} (H:List Ae):∀ (ids:List Nat) (h:Held) (H':A9),Sim G h ρ H' w ->
  (∀ b,b∈ids->H' b=H[b]?\/∃ cells,H[b]?=some (.row false cells)/\H' b=some (.row true cells)) ->
  ∃ h',Sim G h' ρ (Am H' (frz H ids)) w/\A6 h ρ w h' ρ w/\∀ b,b∈ids->Vk h' ρ H b
 | [],h,H',s,_=>⟨h,s,A6.refl _ _ _,lC⟩
 | b::r,h,H',s,hag=>by
   by_cases hrow:∃ fz cells,H[b]?=some (.row fz cells)
   ·obtain ⟨fz,cells,hb⟩:=hrow;have hH':∃ fz',H' b=some (.row fz' cells):=by
     rcases hag b lC with e | ⟨cells',e1,e2⟩
     ·exact ⟨fz,e.trans hb⟩
     rw[hb] at e1;cases e1;exact ⟨true,e2⟩
    obtain ⟨fz',hb'⟩:=hH';obtain ⟨h1,s1,t1,f1⟩:=XJ s b fz' cells hb';have hsame:fz=true->H' b=some (.row true cells):=by
     intro hf;rcases hag b lC with e | ⟨cells',e1,e2⟩
     ·rw[e,hb,hf]
     rw[hb] at e1;cases e1;exact e2
    have hag':∀ x,x∈r->(Am H' [(b,.row true cells)]) x=H[x]?\/∃ cs,H[x]?=some (.row false cs)/\(Am H' [(b,.row true cells)]) x=some (.row true cs):=by
     intro x hx;by_cases hxb:x=b
     ·subst hxb;cases fz with
      | true=>exact .inl (by simp[Am,hb])
      | false=>exact .inr ⟨cells,hb,kH⟩
     have:=hag x kI;simpa[Am,hxb] using this
    obtain ⟨h2,s2,t2,f2⟩:=B0 H r h1 _ s1 hag';have hupd:Am H' (frz H (b::r))=Am (Am H' [(b,.row true cells)]) (frz H r):=by
     cases fz with
     | false=>simp[frz,hb,Am]
     | true =>
      have e1:Am H' [(b,.row true cells)]=H':=by
       funext j;by_cases hj:j=b;·subst hj;simp[Am,hsame rfl]
       simp[Am,hj]
      rw[e1];simp[frz,hb]
    refine ⟨h2,by rw[hupd];exact s2,t1.trans t2,fun x hx=>?_⟩;rcases AgA.1 hx with rfl | hx
    ·intro fz2 cells2 e g S hρ j y hy;rw[hb] at e;cases e;obtain ⟨e0,v,e1,e2⟩:=f1 g S hρ j y hy;exact ⟨e0,v,t2.mono _ _ _ e1,e2.mono t2.mono⟩
    exact f2 x hx
   have hf:frz H (b::r)=frz H r:=by
    simp only[frz];split;·rename_i cells e;exact absurd ⟨false,cells,e⟩ hrow
    rfl
   obtain ⟨h2,s2,t2,f2⟩:=B0 H r h H' s (fun x hx=>hag x kI);refine ⟨h2,by rw[hf];exact s2,t2,fun x hx=>?_⟩;rcases AgA.1 hx with rfl | hx
   ·intro fz cells e;exact absurd ⟨fz,cells,e⟩ hrow
   exact f2 x hx
end Go.Abs
namespace Go.Abs
open Go
def C2 {α:Type} (cs:List α) (off:Nat):List α->List α
 | [x]=>cs.set off x
 | xs=>cs.take off++xs++cs.drop (off+xs.length)
def DZ {α:Type} {cs:List α} {off:Nat} {xs:List α} (h:off+xs.length<=cs.length):(C2 cs off xs).length=cs.length:=by
 unfold C2;split;·simp
 simp at h ⊢;omega
def D7 {α:Type} {cs:List α} {off:Nat} {xs:List α} (h:off+xs.length<=cs.length) (j:Nat) :
  (C2 cs off xs)[j]?=if off<=j/\j<off+xs.length then xs[j-off]? else cs[j]?:=by
 have key:∀ ys:List α,off+ys.length<=cs.length->(cs.take off++ys++cs.drop (off+ys.length))[j]?=if off<=j/\j<off+ys.length then ys[j-off]? else cs[j]?:=by
  intro ys h;rw[Aew,Aew];simp only[Aev,AgD,Aeu,AfI];have hm:min off cs.length=off:=lA
  rw[hm];by_cases h1:j<off;·rw[if_pos lA,if_pos h1,if_pos h1,if_neg lA]
  by_cases h2:j<off+ys.length;·rw[if_pos h2,if_neg h1,if_pos ⟨lA,h2⟩]
  rw[if_neg h2,if_neg lA];congr 1;omega
 unfold C2;split
 ·rename_i x;rw[AgM];simp at h;by_cases e:off=j;·subst e;simp;omega
  rw[if_neg e,if_neg jW]
 exact key _ h
def RL.put {h:Held} {ρ:Place} {c c' vs:Array Value} {cs xs:List AV} {off:Nat} (r:RL h ρ c cs) (r':RL h ρ vs xs) (hb:off+xs.length<=cs.length) (hs:c'.size=c.size)
  (hc:∀ j,c'[j]?=if off<=j/\j<off+vs.size then vs[j-off]? else c[j]?):RL h ρ c' (C2 cs off xs):=by
 refine ⟨by rw[DZ hb,hs,r.1],fun j v x hv hx=>?_⟩;rw[hc j] at hv;rw[D7 hb] at hx;have e:=r'.1;by_cases hin:off<=j/\j<off+xs.length
 ·exact pu
 rw[if_neg hin] at hx;rw[if_neg lA] at hv;exact r.2 _ v x hv hx
def Agc {h:Held} {ρ:Place} {c c' vs:Array Value} {cs xs:List AV} {off:Nat} (r:∀ (j:Nat) v x,c[j]?=some v->cs[j]?=some x->R h ρ v x) (r':RL h ρ vs xs) (hb:off+xs.length<=cs.length)
  (hc:∀ j,c'[j]?=if off<=j/\j<off+vs.size then vs[j-off]? else c[j]?):∀ (j:Nat) v x,c'[j]?=some v->(C2 cs off xs)[j]?=some x->R h ρ v x:=by
 intro j v x hv hx;rw[hc j] at hv;rw[D7 hb] at hx;have e:=r'.1;by_cases hin:off<=j/\j<off+xs.length
 ·exact pu
 rw[if_neg hin] at hx;rw[if_neg lA] at hv;exact r _ v x hv hx
def RX (P:Program) (H:List Ae) (t:Nat) (p xv:AV) (k:Eff->Prop):Prop :=
 match AZ P t with
 | some ti=>match p with
   | .ptr b off=>match H[b]? with
     | some (.box cs)=>match AG xv with
       | some xs=>xs.length=ti.size/\xs.all AV.one=true/\off+xs.length<=cs.length/\k ⟨.undef,[(b,.box (C2 cs off xs))],[b]⟩
       | none=>False
     | some (.row false cs)=>match AG xv with
       | some xs=>match sealR H xs with
         | some ds=>xs.length=ti.size/\xs.all AV.one=true/\off+ds.length<=cs.length/\b∉idsL xs /\
           k ⟨.undef,frz H (idsL xs)++[(b,.row false (C2 cs off ds))],b::idsL xs⟩
         | none=>False
       | none=>False
     | _=>False
   | _=>False
 | none=>False
section
variable {P:Program} {G:Ah} {o:Oper} {ev:Operand->AV} {H:List Ae}
def Sn {h:Held} {ρ:Place} {vs:Array Value} {xs:List AV} (r:RL h ρ vs xs) (e:xs.all AV.one=true):∀ v,v∈vs.toList->v.oneCell'=true:=by
 intro v hv;obtain ⟨i,hi,rfl⟩:=Agv hv;have hlt:i<xs.length:=by have:=r.1;simp at hi;omega
 refine AV.one_ok (r.2 i _ xs[i] lC (AbZ hlt)) ?_;exact AgQ.1 e _ (AgR hlt)
def Yi {t:Nat} {p x:Operand} {k:Eff->Prop} (ho:o.op=.store t p x) (hk:RX P H t (ev p) (ev x) k):∃ e,Aj P G o ev (hp H) e/\k e:=by
 unfold RX at hk;split at hk
 ·rename_i ti ht;split at hk
  ·rename_i b off hpx;split at hk
   ·rename_i cs hb;split at hk
    ·rename_i xs hxs;obtain ⟨k1,k2,k3,k4⟩:=hk;refine ⟨_,Aj.genU fun h ρ H' a w hs hops hr=>?_,k4⟩;obtain ⟨g,S,e1,e2⟩:=(hpx▸hops p gG).ptr_inv;have hrl:RL h ρ (a.eval x).cells xs:=I9 (hops x gG) hxs;have hblk:=hs.blk b (.box cs) eX;obtain ⟨g',S',c,E,fr,b1,b2,b3,b4,b5,b6,b7⟩:=hblk;rw[e2] at b1;cases b1;obtain ⟨c',r1,r2,r3⟩:=Cd P g off (a.eval x).cells.toList 0 c E fr w b2 io (by have:=hrl.1;simp;omega) (Sn hrl k2);have hl:BC H' b:=⟨_,(hr b lC).trans hb,lC⟩;have hrl2:=Agc (vs:=(a.eval x).cells) (fun j v x hv hx=>b6 j x v hx hv) hrl k3 (fun j=>by simpa using r3 j);obtain ⟨t1,t2⟩:=hs.change b hl g S e2 (.box (C2 cs off xs)) h (w.setRow g c') (Held.le_refl _) (fun k hk=>mn) lC rfl rfl rfl
      (fun o v e=>by rw[b7 o] at e;cases e)
      ⟨g,S,c',E,fr,e2,setRow_heap w g c c' E fr b2,lA,b4,by rw[DZ k3];exact b5,fun j x v hx hv=>hrl2 j v x hv hx,b7⟩
     refine ⟨_,_,_,?_,t1,t2⟩;have hsz:(a.eval x).cells.size=ti.size:=(by have:=hrl.1;omega)
     simp[execOp,ho,e1,Instr.storeAt,Instr.sureAddr,storeVar,run_sizeOf ht,hsz,r1]
    exact hk.elim
   ·rename_i cs hb;split at hk
    ·rename_i xs hxs;split at hk
     ·rename_i ds hds;obtain ⟨k1,k2,k3,k4,k5⟩:=hk;refine ⟨_,Aj.genU fun h ρ H' a w hs hops hr=>?_,k5⟩;obtain ⟨g,S,e1,e2⟩:=(hpx▸hops p gG).ptr_inv;have hrl:RL h ρ (a.eval x).cells xs:=I9 (hops x gG) hxs;obtain ⟨h1,s1,t1,f1⟩:=B0 H (idsL xs) h H' hs (fun y hy=>.inl (hr y kJ));have hds':=Nv (hrl.mono t1.mono (Place.le_refl _)) hds f1;have hbb:Am H' (frz H (idsL xs)) b=some (.row false cs):=by
       rw[AD _ _ b (fun q hq e=>k4 (e▸BV hq)),hr b lC];exact hb
      obtain ⟨ho1,hblk⟩:=s1.blk b _ hbb;rcases hblk with ⟨b1,_⟩ | ⟨g',S',c,E,fr,b1,b2,b3,b4,b5,b6,b7,b8⟩
      ·rw[e2] at b1;cases b1
      rw[e2] at b1;cases b1;have hlen:xs.length=ds.length:=(by have:=hrl.1;have:=hds'.1;omega)
      obtain ⟨c',r1,r2,r3⟩:=Cd P g off (a.eval x).cells.toList 0 c E fr w b2 io (by have:=hds'.1;simp;omega) (Sn hrl k2);have hno:∀ j,h1 g j=none:=fun j=>b8 j lC;obtain ⟨t3,t4⟩:=s1.change b ⟨_,hbb,lC⟩ g S e2 (.row false (C2 cs off ds)) h1 (w.setRow g c') (Held.le_refl _) (fun k hk=>mn) lC rfl rfl rfl
       (fun o v e=>gq)
       ⟨fun j x' hx=>by
        rw[D7 k3] at hx;split at hx;·exact Ld hds k2 _ x' hx
        ·exact ho1 j x' hx,.inr ⟨g,S,c',E,fr,e2,setRow_heap w g c c' E fr b2,lA,b4,by rw[DZ k3];exact b5,fun j x' v hx hv=>by
        rw[D7 k3] at hx;rw[r3 j] at hv;have e:=hds'.1;by_cases hin:off<=j/\j<off+ds.length
        ·rw[if_pos hin] at hx;rw[if_pos jW] at hv;exact hds'.2 _ v x' iG hx
        rw[if_neg hin] at hx;rw[if_neg jW] at hv;exact b6 j x' v hx hv,(fun e=>lh),fun j _=>hno j⟩⟩
      refine ⟨_,_,_,?_,by rw[CG];exact t3,t1.trans t4⟩;have hsz:(a.eval x).cells.size=ti.size:=(by have:=hrl.1;omega)
      simp[execOp,ho,e1,Instr.storeAt,Instr.sureAddr,storeVar,run_sizeOf ht,hsz,r1]
     exact hk.elim
    exact hk.elim
   exact hk.elim
  exact hk.elim
 exact hk.elim
def fillA {α:Type} (place:Nat->Option (Nat × Nat)) (cs:List α):List (Nat × List α)->Option (List α)
 | []=>some cs
 | (i,xs)::rest=>match place i with
   | none=>none
   | some (off,size)=>if xs.length=size/\off+xs.length<=cs.length then fillA place (C2 cs off xs) rest else none
def Q3 (off:Nat):∀ (l:List Value) (n:Nat) (c:Array Value),
  ((l.zipIdx n).foldl (fun (cs:Array Value) (p:Value × Nat)=>cs.setIfInBounds (off+p.2) p.1) c).size=c.size /\
  (off+n+l.length<=c.size->∀ j,((l.zipIdx n).foldl (fun (cs:Array Value) (p:Value × Nat)=>cs.setIfInBounds (off+p.2) p.1) c)[j]?=if off+n<=j/\j<off+n+l.length then l[j-(off+n)]? else c[j]?)
 | [],n,c=>by refine ⟨rfl,fun _ j=>?_⟩;rw[if_neg lC];rfl
 | x::r,n,c=>by
   obtain ⟨h1,h2⟩:=Q3 off r (n+1) (c.setIfInBounds (off+n) x);simp only[List.zipIdx_cons,List.foldl_cons];refine ⟨by rw[h1];simp,fun hl j=>?_⟩;simp at hl;rw[h2 jW j];by_cases hj:j=off+n
   ·subst hj;rw[if_neg lA,if_pos lC];have:off+n<c.size:=by omega
    simp[this]
   by_cases hin:off+(n+1)<=j/\j<off+(n+1)+r.length
   ·rw[if_pos hin,if_pos jW];have:j-(off+n)=(j-(off+(n+1)))+1:=by omega
    rw[this];simp
   rw[if_neg hin,if_neg jW];simp[Ne.symm hj]
def I7 {h:Held} {ρ:Place} (place:Nat->Option (Nat × Nat)):∀ (parts:List (Nat × Value)) (ps:List (Nat × List AV)) (c:Array Value) (cs cs':List AV),
  RL h ρ c cs->parts.length=ps.length->(∀ (i:Nat) p q,parts[i]?=some p->ps[i]?=some q->p.1=q.1/\RL h ρ p.2.cells q.2)->fillA place cs ps=some cs' ->
  ∃ c',Instr.fill place c parts=some c'/\RL h ρ c' cs'
 | [],[],c,cs,cs',r,_,_,e=>by simp[fillA] at e;subst e;exact ⟨c,rfl,r⟩
 | (i,v)::rest,(i',xs)::ps,c,cs,cs',r,hl,hr,e=>by
   obtain ⟨hi,hv⟩:=hr 0 (i,v) (i',xs) rfl rfl;simp only at hi hv;subst hi;simp only[fillA] at e;split at e;·cases e
   rename_i off size hp;split at e
   ·rename_i hc;obtain ⟨z1,z2⟩:=Q3 off v.cells.toList 0 c;have hvs:=hv.1;have hr1:=r.1;have r2:RL h ρ (v.cells.zipIdx.foldl (fun (cs:Array Value) (p:Value × Nat)=>cs.setIfInBounds (off+p.2) p.1) c) (C2 cs off xs):=by
     have ef:v.cells.zipIdx.foldl (fun (cs:Array Value) (p:Value × Nat)=>cs.setIfInBounds (off+p.2) p.1) c=(v.cells.toList.zipIdx 0).foldl (fun (cs:Array Value) (p:Value × Nat)=>cs.setIfInBounds (off+p.2) p.1) c:=(by rw[<-Array.foldl_toList,Array.toList_zipIdx]);rw[ef];exact RL.put r hv hc.2 z1 (fun j=>by simpa using z2 jW j)
    obtain ⟨c',e1,e2⟩:=I7 place rest ps _ _ cs' r2 iI (fun j p q hp hq=>hr (j+1) p q iJ iK) e;refine ⟨c',?_,e2⟩;simp only[Instr.fill,hp];rw[if_neg jW];exact e1
   cases e
 | [],_::_,_,_,_,_,hl,_,_=>jY
 | _::_,[],_,_,_,_,hl,_,_=>jY
def partsA (ev:Operand->AV):List (Nat × Operand)->Option (List (Nat × List AV))
 | []=>some []
 | (i,x)::r=>match AG (ev x),partsA ev r with
   | some xs,some l=>some ((i,xs)::l)
   | _,_=>none
def Fo {h:Held} {ρ:Place} {a:Act}:∀ {parts:List (Nat × Operand)} {ps:List (Nat × List AV)},partsA ev parts=some ps->(∀ x,x∈parts.map (·.2)->R h ρ (a.eval x) (ev x)) ->
  (parts.map fun (i,x)=>(i,a.eval x)).length=ps.length/\∀ (i:Nat) p q,(parts.map fun (i,x)=>(i,a.eval x))[i]?=some p->ps[i]?=some q->p.1=q.1/\RL h ρ p.2.cells q.2
 | [],ps,e,_=>by simp[partsA] at e;subst e;simp
 | (i,x)::r,ps,e,hr=>by
   simp only[partsA] at e;split at e
   ·rename_i xs l hx hl;cases e;have ih:=Fo hl (fun y hy=>hr y (by simp at hy ⊢;exact .inr hy));refine ⟨by simpa using ih.1,fun j p q hp hq=>?_⟩;cases j with
    | zero =>simp at hp hq;subst hp;subst hq;exact ⟨rfl,I9 (hr x lC) hx⟩
    | succ j=>exact ih.2 j p q iJ iK
   cases e
def structPlace (fs:List (Nat × Nat × Nat)) (i:Nat):Option (Nat × Nat):=fs[i]?.map fun f=>(f.1,f.2.2)
def SY (P:Program) (ev:Operand->AV) (t:Nat) (parts:Array (Nat × Operand)) (k:Eff->Prop):Prop :=
 match AZ P t with
 | some ti=>match partsA ev parts.toList with
   | some ps=>match ti.k with
     | .struct fs=>match fillA (structPlace fs) (ti.zero.map AV.d) ps with
       | some cs=>(fs.all fun f=>(AZ P f.2.1).isSome)=true/\k ⟨.agg cs,[],[]⟩
       | none=>False
     | .array _ e=>match fillA (fun i=>some (i*((AZ P e).map (·.size)).getD 0,((AZ P e).map (·.size)).getD 0)) (ti.zero.map AV.d) ps with
       | some cs=>(AZ P e).isSome=true/\k ⟨.agg cs,[],[]⟩
       | none=>False
     | _=>False
   | none=>False
 | none=>False
def X0 {h:Held} {ρ:Place} {z:Value} {ds:List D} (e:Eh z.cells.toList=some ds):RL h ρ z.cells (ds.map AV.d):=by
 have hd:=CO (h:=h) e;refine ⟨hZ,fun i v x hv hx=>?_⟩;simp only[Aen] at hx;cases hc:ds[i]? with
 | none=>simp[hc] at hx
 | some y=>simp[hc] at hx;subst hx;exact .d _ _ (hd.2 i v y iG hc)
def H9 (P:Program):∀ (fs:List Field),((fs.map fun f=>(f.offset,f.type,((P.info? f.type).map (·.size)).getD 0)).all fun f=>(AZ P f.2.1).isSome)=true ->
  fs.mapM (fun f=>(P.info? f.type).map fun i=>(f.offset,i.size))=some (fs.map fun f=>(f.offset,((P.info? f.type).map (·.size)).getD 0))
 | [],_=>lC
 | f::r,h=>by simp only[AgB,List.all_cons,Bool.and_eq_true] at h;obtain ⟨ti,hti⟩:=AgC.1 h.1;obtain ⟨i,u,z,h1,_⟩:=AO hti;have ih:=H9 P r h.2;simp[List.mapM_cons,ih,h1]
def Zl {t:Nat} {parts:Array (Nat × Operand)} {k:Eff->Prop} (ho:o.op=.build t parts) (hk:SY P ev t parts k):∃ e,Aj P G o ev (hp H) e/\k e:=by
 have hmem:∀ x,x∈parts.toList.map (·.2)->x∈o.op.operands.toList:=fun x hx=>dR
 unfold SY at hk;split at hk
 ·rename_i ti ht;obtain ⟨i,u,z,h1,h2,h3,h4,h5,h6,h7⟩:=AO ht;split at hk
  ·rename_i ps hps;split at hk
   ·rename_i fs hfs;split at hk
    ·rename_i cs hcs;refine ⟨_,Aj.val fun h ρ H' a w hs hops hr=>?_,hk.2⟩;have hpa:=Fo (a:=a) hps (fun x hx=>hops x (hmem x hx));obtain ⟨c',e1,e2⟩:=I7 (structPlace fs) _ ps z.cells _ cs (X0 h7) hpa.1 hpa.2 hcs;refine ⟨.agg c',?_,.agg c' cs e2.1 e2.2⟩;rw[hfs] at h4;cases u with
     | struct fields =>
      simp only[Hl,TK.struct.injEq] at h4;subst h4;have hpl:=H9 P fields.toList hk.1;have epl:(fun x=>(fields.toList.map fun f=>(f.offset,((P.info? f.type).map (·.size)).getD 0)).toArray[x]?)=structPlace (fields.toList.map fun f=>(f.offset,f.type,((P.info? f.type).map (·.size)).getD 0)):=(by funext x;simp[structPlace,Function.comp_def])
      have hb:P.built t (parts.map fun (i,x)=>(i,a.eval x)).toList=some c':=aR;exact oO
     | _=>simp[Hl] at h4
    exact hk.elim
   ·rename_i n e he;split at hk
    ·rename_i cs hcs;refine ⟨_,Aj.val fun h ρ H' a w hs hops hr=>?_,hk.2⟩;have hpa:=Fo (a:=a) hps (fun x hx=>hops x (hmem x hx));obtain ⟨c',e1,e2⟩:=I7 _ _ ps z.cells _ cs (X0 h7) hpa.1 hpa.2 hcs;refine ⟨.agg c',?_,.agg c' cs e2.1 e2.2⟩;rw[he] at h4;cases u with
     | array n' e' =>
      simp only[Hl,TK.array.injEq] at h4;obtain ⟨rfl,rfl⟩:=h4;obtain ⟨te,hte⟩:=AgC.1 hk.1;obtain ⟨i',u',z',g1,g2,g3,g4,g5,g6,g7⟩:=AO hte;have hb:P.built t (parts.map fun (i,x)=>(i,a.eval x)).toList=some c':=(by unfold Program.built;simp only[h1,h2,h3,g1];simp only[hte,Aeq,AgE,<-g5] at e1;simpa using e1)
      simp only[execOp,ho,Sem.run_bind,run_build w t _ c' hb,Result.andThen_ok,Sem.run_pure]
     | _=>simp[Hl] at h4
    exact hk.elim
   exact hk.elim
  exact hk.elim
 exact hk.elim
end
end Go.Abs
namespace Go.Abs
open Go
def On {α:Type} (place:Nat->Option (Nat × Nat)):∀ (ps:List (Nat × List α)) (cs cs':List α),fillA place cs ps=some cs'->cs'.length=cs.length
 | [],cs,cs',e=>by simp[fillA] at e;subst e;rfl
 | (i,xs)::r,cs,cs',e=>by
   simp only[fillA] at e;split at e;·cases e
   split at e;·rename_i off size _ hc;rw[On place r _ cs' e,DZ hc.2]
   cases e
def AQ (z:List D) (n:Nat):List D:=(Aex n).map fun i=>z.getD (i % z.length) .nilp
def CW (z:List D) (n:Nat):(AQ z n).length=n:=by simp[AQ]
def Nc (x:D) (n:Nat):AQ [x] n=List.replicate n x:=by
 apply List.ext_getElem;·simp[AQ]
 intro i h1 h2;simp[AQ,Nat.mod_one]
def GM {h:Held} {z:Array Value} {ds:List D} (e:Eh z.toList=some ds) (h0:0<ds.length) (i:Nat):RD h (z[i % z.size]!) (ds.getD (i % ds.length) .nilp):=by
 have hd:=CO (h:=h) e;have hs:z.size=ds.length:=hZ
 have hlt:i % ds.length<ds.length:=Nat.mod_lt _ h0;have h1:i % z.size<z.size:=by rw[hs];exact hlt
 have e1:z[i % z.size]! = z[i % z.size]:=getElem!_pos z _ h1;rw[e1];refine hd.2 (i % z.size) _ _ lC ?_;rw[hs,AbZ hlt];simp[List.getD,AbZ hlt]
def Po:∀ {l:List Value} {ds:List D},Eh l=some ds->∀ x,x∈ds->x.one=true
 | [],ds,e,x,hx=>by simp[Eh] at e;subst e;simp at hx
 | v::r,ds,e,x,hx=>by
   simp only[Eh] at e;split at e
   ·rename_i y l hy hl;cases e;rcases AgA.1 hx with rfl | hx
    ·unfold RP at hy;split at hy<;>first | cases hy;rfl | cases hy
    exact Po hl x hx
   cases e
def HQ {l:List Value} {ds:List D} (e:Eh l=some ds) (n:Nat):∀ (j:Nat) x,(AQ ds n)[j]?=some x->x.one=true:=by
 intro j x hx;simp only[AQ,Aen] at hx;cases hc:(Aex n)[j]? with
 | none=>simp[hc] at hx
 | some i =>
  simp[hc] at hx;subst hx;cases hg:ds[i % ds.length]? with
  | none=>rfl
  | some y=>exact Po e y (List.mem_of_getElem? hg)
def Vr {P:Program} {t e:Nat} {ti:TI} (ht:AZ P t=some ti) (hk:ti.k=.slice e):P.underlying t=some (.slice e):=by obtain ⟨i,u,z,h1,h2,h3,h4,h5,h6,h7⟩:=AO ht;rw[hk] at h4;cases u<;>simp[Hl] at h4;subst h4;exact h2
def Aq (P:Program) (t:Nat):Option (Nat × TI) :=
 match AZ P t with
 | some ti=>match ti.k with
   | .slice e=>match AZ P e with
     | some te=>some (e,te)
     | none=>none
   | _=>none
 | none=>none
def AJ {P:Program} {t e:Nat} {te:TI} (h:Aq P t=some (e,te)):P.underlying t=some (.slice e)/\AZ P e=some te:=by
 unfold Aq at h;split at h
 ·rename_i ti ht;split at h
  ·rename_i e' hk;split at h;·rename_i te' hte;cases h;exact ⟨Vr ht hk,hte⟩
   cases h
  cases h
 cases h
def F8 (P:Program) (ev:Operand->AV) (H:List Ae) (t len:Nat) (parts:Array (Nat × Operand)) (k:Eff->Prop):Prop :=
 match Aq P t with
 | some (_,te)=>match partsA ev parts.toList with
   | some ps=>match fillA (fun i=>some (i*te.size,te.size)) ((AQ te.zero (len*te.size)).map AV.d) ps with
     | some cs=>match sealR H cs with
       | some ds=>len*te.size<=16777216/\0<te.zero.length/\cs.all AV.one=true/\k ⟨.lsl H.length te.size 0 len,frz H (idsL cs)++[(H.length,.row false ds)],H.length::idsL cs⟩
       | none=>False
     | none=>False
   | none=>False
 | none=>False
def G6 (P:Program) (H:List Ae) (t:Nat) (l c:AV) (k:Eff->Prop):Prop :=
 match Aq P t,l,c with
 | some (_,te),.d (.int _ l),.d (.int _ c)=>0<=l/\l<=c/\(te.bytes:Int)*c<=281474976710656/\c<=9223372036854775807/\0<te.zero.length /\
   k ⟨.lsl H.length te.size 0 l.toNat,[(H.length,.row false (AQ te.zero (l.toNat*te.size)))],[H.length]⟩
 | _,_,_=>False
section
variable {P:Program} {G:Ah} {o:Oper} {ev:Operand->AV} {H:List Ae}
def Sim.newRow {h:Held} {ρ:Place} {H':A9} {w:World} (s:Sim G h ρ H' w) (n:Nat) (hn:H' n=none) (c:Array Value) (E:Nat) (fz:Bool) (ds:List D) (hl:ds.length<=c.size)
  (hr:∀ (j:Nat) x v,ds[j]?=some x->c[j]?=some v->RD h v x) (ho:∀ (j:Nat) x,ds[j]?=some x->x.one=true) :
  ∃ h',Sim G h' (E7 ρ n (w.heap.size,c.size)) (Am H' [(n,.row fz ds)]) (w.alloc (.cells c E))/\A6 h ρ w h' (E7 ρ n (w.heap.size,c.size)) (w.alloc (.cells c E)):=by
 obtain ⟨s1,t1⟩:=s.alloc n hn (.cells c E) c.size (.row false ds)
  ⟨ho,.inr ⟨w.heap.size,c.size,c,E,(0,0),Aw _ _ _,heap_alloc_new w _,rfl,fun j _=>lC,hl,hr,(fun e=>lh),fun j _=>s.held_none j⟩⟩
 cases fz with
 | false=>exact ⟨h,s1,t1⟩
 | true =>
  obtain ⟨h',s2,t2,_⟩:=XJ s1 n false ds kH;refine ⟨h',?_,t1.trans t2⟩;have:Am (Am H' [(n,.row false ds)]) [(n,.row true ds)]=Am H' [(n,.row true ds)]:=by funext j;by_cases hj:j=n<;>simp[Am,hj]
  rwa[this] at s2
def AcI {H:List Ae}:∀ {cs:List AV} {ds:List D},sealL H cs=some ds->∀ b,b∈idsL cs->∃ x,H[b]?=some x:=by
 have key:(∀ (x:AV) (d:D),sealA H x=some d->∀ b,b∈AY x->∃ y,H[b]?=some y):=by
  intro x;induction x using AV.rec (motive_2:=fun cs=>∀ ds,sealL H cs=some ds->∀ b,b∈idsL cs->∃ y,H[b]?=some y) with
  | d x=>intro d _ b hb;simp[AY] at hb
  | lsl c sz off n =>
   intro d e b hb;simp[AY] at hb;subst hb;simp only[sealA] at e;split at e;·rename_i hc;exact ⟨_,hc⟩
   cases e
  | ptr=>intro d _ b hb;simp[AY] at hb
  | rptr=>intro d _ b hb;simp[AY] at hb
  | mp=>intro d _ b hb;simp[AY] at hb
  | ifp=>intro d _ b hb;simp[AY] at hb
  | undef=>intro d _ b hb;simp[AY] at hb
  | agg cs ih =>
   intro d e b hb;simp only[sealA] at e;split at e;·rename_i l hl;exact ih l hl b (by simpa[AY] using hb)
   cases e
  | tup cs ih =>
   intro d e b hb;simp only[sealA] at e;split at e;·rename_i l hl;exact ih l hl b (by simpa[AY] using hb)
   cases e
  | fn f a c ih1 ih2 =>
   intro d e b hb;simp only[sealA] at e;split at e
   ·rename_i l m hl hm;simp[AY] at hb;rcases hb with hb | hb
    ·exact ih1 l hl b hb
    exact ih2 m hm b hb
   cases e
  | nil=>rename_i b hb;simp[idsL] at hb
  | cons x r ih1 ih2 =>
   rename_i ds e b hb;simp only[sealL] at e;split at e
   ·rename_i y l hy hl;simp[idsL] at hb;rcases hb with hb | hb
    ·exact ih1 y hy b hb
    exact ih2 l hl b hb
   cases e
 intro cs;induction cs with
 | nil=>intro ds _ b hb;simp[idsL] at hb
 | cons x r ih =>
  intro ds e b hb;simp only[sealL] at e;split at e
  ·rename_i y l hy hl;simp[idsL] at hb;rcases hb with hb | hb
   ·exact key x y hy b hb
   exact ih hl b hb
  cases e
def Ja (P:Program) (ev:Operand->AV) (H:List Ae) (t len:Nat) (parts:Array (Nat × Operand)) (k:Eff->Prop):Prop :=
 match Aq P t with
 | some (_,te)=>match partsA ev parts.toList with
   | some ps=>match fillA (fun i=>some (i*te.size,te.size)) ((AQ te.zero (len*te.size)).map AV.d) ps with
     | some cs=>len*te.size<=16777216/\0<te.zero.length/\k ⟨.lsl H.length te.size 0 len,[(H.length,.box cs)],[H.length]⟩
     | none=>False
   | none=>False
 | none=>False
def S4 {t len:Nat} {parts:Array (Nat × Operand)} {k:Eff->Prop} (ho:o.op=.buildSlice t len parts) (hk:Ja P ev H t len parts k):∃ e,Aj P G o ev (hp H) e/\k e:=by
 have hmem:∀ x,x∈parts.toList.map (·.2)->x∈o.op.operands.toList:=fun x hx=>dR
 unfold Ja at hk;split at hk
 ·rename_i e te hse;obtain ⟨hu,hte⟩:=AJ hse;obtain ⟨i,u,z,h1,h2,h3,h4,h5,h6,h7⟩:=AO hte;split at hk
  ·rename_i ps hps;split at hk
   ·rename_i cs hcs;obtain ⟨k1,k2,k3⟩:=hk;refine ⟨_,Aj.gen fun h ρ H' a w hs hops hr=>?_,k3⟩;have hpa:=Fo (a:=a) hps (fun x hx=>hops x (hmem x hx))
    let zc:Array Value:=(AgY (len*i.size)).map ((if len*i.size=0 then #[] else z.cells)[· % (if len*i.size=0 then #[] else z.cells).size]!)
    have hz:RL h ρ zc ((AQ te.zero (len*te.size)).map AV.d):=by
     refine ⟨by simp[zc,AQ,h5],fun j v x hv hx=>?_⟩;have hj:j<len*te.size:=cy
     have hne:¬len*i.size=0:=jE;exact nQ
    obtain ⟨c',e1,e2⟩:=I7 _ _ ps zc _ cs hz hpa.1 hpa.2 hcs;have hn:H' H.length=none:=eW
    have hρ:ρ H.length=none:=by
     cases e:ρ H.length with
     | none=>rfl
     | some y=>obtain ⟨_,b,hb⟩:=hs.dom _ y.1 y.2 e;exact qB
    have hsz:c'.size=len*te.size:=by
     have:=e2.1;have hfl:cs.length=len*te.size:=ca
     omega
    obtain ⟨s2,t2⟩:=hs.alloc H.length hn (.cells c' e) c'.size (.box cs)
     ⟨w.heap.size,c'.size,c',e,(0,0),Aw _ _ _,heap_alloc_new w _,rfl,fun j _=>lC,AgN e2.1.symm,fun j x v hx hv=>(e2.2 j v x hv hx).mono (Held.le_refl _) (IL _ hρ),fun j=>hs.held_none j⟩
    refine ⟨_,_,h,_,?_,s2,.lsl H.length te.size 0 len len w.heap.size c'.size (Aw _ _ _) (Af0 _) lA,t2⟩;have k1':¬(16777216<len*i.size):=jE
    have e1':Instr.fill (fun x=>some (x*i.size,i.size)) zc (parts.map fun (i,x)=>(i,a.eval x)).toList=some c':=(by rw[h5];simpa using e1);by_cases hz0:len*i.size=0;·simp only[zc,hz0,if_true] at e1';simp[execOp,ho,Instr.buildSlice,run_underlying hu,sizeOf,typeInfo,h1,hz0];simp at e1';simp[e1',newRow,newObj,Sem.run]
    simp only[zc,hz0,if_false] at e1';exact nY
   exact hk.elim
  exact hk.elim
 exact hk.elim
def OI {t len:Nat} {parts:Array (Nat × Operand)} {k:Eff->Prop} (ho:o.op=.buildSlice t len parts) (hk:F8 P ev H t len parts k):∃ e,Aj P G o ev (hp H) e/\k e:=by
 have hmem:∀ x,x∈parts.toList.map (·.2)->x∈o.op.operands.toList:=fun x hx=>dR
 unfold F8 at hk;split at hk
 ·rename_i e te hse;obtain ⟨hu,hte⟩:=AJ hse;obtain ⟨i,u,z,h1,h2,h3,h4,h5,h6,h7⟩:=AO hte;split at hk
  ·rename_i ps hps;split at hk
   ·rename_i cs hcs;split at hk
    ·rename_i ds hds;obtain ⟨k1,k2,k0,k3⟩:=hk;refine ⟨_,Aj.gen fun h ρ H' a w hs hops hr=>?_,k3⟩;have hpa:=Fo (a:=a) hps (fun x hx=>hops x (hmem x hx))
     let zc:Array Value:=(AgY (len*i.size)).map ((if len*i.size=0 then #[] else z.cells)[· % (if len*i.size=0 then #[] else z.cells).size]!)
     have hz:RL h ρ zc ((AQ te.zero (len*te.size)).map AV.d):=by
      refine ⟨by simp[zc,AQ,h5],fun j v x hv hx=>?_⟩;have hj:j<len*te.size:=cy
      have hne:¬len*i.size=0:=jE;exact nQ
     obtain ⟨c',e1,e2⟩:=I7 _ _ ps zc _ cs hz hpa.1 hpa.2 hcs;obtain ⟨h',s1,t1,f1⟩:=B0 H (idsL cs) h H' hs (fun b hb=>.inl (hr b kK));have hds':=Nv (e2.mono t1.mono (Place.le_refl _)) hds f1;have hn:(Am H' (frz H (idsL cs))) H.length=none:=by
      rw[AD,hr _ lC];·simp[hp]
      intro p hp' e;obtain ⟨y,hy⟩:=(by obtain ⟨l,hl,_⟩:=Js hds;exact AcI hl p.1 (BV hp'):∃ x,H[p.1]?=some x);have:=(AbY.1 hy).1;omega
     have hsz:c'.size=len*te.size:=by
      have:=e2.1;have hfl:cs.length=len*te.size:=ca
      omega
     obtain ⟨h'',s2,t2⟩:=s1.newRow H.length hn c' e false ds (by have:=hds'.1;omega) (fun j x v hx hv=>hds'.2 j v x hv hx) (Ld hds k0);refine ⟨_,_,h'',_,?_,by rw[CG];exact s2,.lsl H.length te.size 0 len len w.heap.size c'.size (Aw _ _ _) (Af0 _) lA,t1.trans t2⟩;have k1':¬(16777216<len*i.size):=jE
     have e1':Instr.fill (fun x=>some (x*i.size,i.size)) zc (parts.map fun (i,x)=>(i,a.eval x)).toList=some c':=(by rw[h5];simpa using e1);by_cases hz0:len*i.size=0;·simp only[zc,hz0,if_true] at e1';simp[execOp,ho,Instr.buildSlice,run_underlying hu,sizeOf,typeInfo,h1,hz0];simp at e1';simp[e1',newRow,newObj,Sem.run]
     simp only[zc,hz0,if_false] at e1';exact nY
    exact hk.elim
   exact hk.elim
  exact hk.elim
 exact hk.elim
end
end Go.Abs
namespace Go.Abs
open Go
section
variable {P:Program} {G:Ah} {o:Oper} {ev:Operand->AV} {H:List Ae}
def Pb {t:Nat} {l c:Operand} {k:Eff->Prop} (ho:o.op=.makeSlice t l c) (hk:G6 P H t (ev l) (ev c) k):∃ e,Aj P G o ev (hp H) e/\k e:=by
 unfold G6 at hk;split at hk
 ·rename_i e te kl li kc ci hse hl hc;obtain ⟨hu,hte⟩:=AJ hse;obtain ⟨i,u,z,h1,h2,h3,h4,h5,h6,h7⟩:=AO hte;obtain ⟨k1,k2,k3,k4,k5,k6⟩:=hk;refine ⟨_,Aj.gen fun h ρ H' a w hs hops hr=>?_,k6⟩;have e1:=(hl▸hops l gG).int_inv;have e2:=(hc▸hops c gG).int_inv;have hn:H' H.length=none:=by rw[hr _ lC];simp[hp]
  have hrun:=run_make (P:=P) w t e i z hu h1 h3 kl kc li ci k1 k2 (by rw[h6];exact k3) k4;have hz:z.cells.size=te.zero.length:=cz
  have hle:li.toNat*te.size<=ci.toNat*i.size:=eo
  obtain ⟨h',s1,t1⟩:=hs.newRow H.length hn (madeCells z.cells (ci.toNat*i.size)) e false (AQ te.zero (li.toNat*te.size)) (by rw[size_madeCells,CW];exact hle)
   (fun j x v hx hv=>by have hj:j<li.toNat*te.size:=cy;simp only[madeCells,AfZ,Agp] at hv;rw[if_pos lA] at hv;simp only[Aeq,Option.some.injEq] at hv;simp only[AQ,Aen,Aer hj,Aeq,Option.some.injEq] at hx;subst hv;subst hx;exact GM h7 k5 j) (HQ h7 _)
  refine ⟨_,_,h',_,?_,s1,.lsl H.length te.size 0 li.toNat ci.toNat w.heap.size _ (Aw _ _ _) lA ?_,t1⟩;·simp[execOp,ho,e1,e2,hrun]
  rw[size_madeCells,h5];omega
 exact hk.elim
def Kr (P:Program) (H:List Ae) (t:Nat) (l c:AV) (k:Eff->Prop):Prop :=
 match Aq P t,l,c with
 | some (_,te),.d (.int _ l),.d (.int _ c)=>0<=l/\l<=c/\(te.bytes:Int)*c<=281474976710656/\c<=9223372036854775807/\0<te.zero.length /\
   k ⟨.lsl H.length te.size 0 l.toNat,[(H.length,.box ((AQ te.zero (l.toNat*te.size)).map .d))],[H.length]⟩
 | _,_,_=>False
def Ul {t:Nat} {l c:Operand} {k:Eff->Prop} (ho:o.op=.makeSlice t l c) (hk:Kr P H t (ev l) (ev c) k):∃ e,Aj P G o ev (hp H) e/\k e:=by
 unfold Kr at hk;split at hk
 ·rename_i e te kl li kc ci hse hl hc;obtain ⟨hu,hte⟩:=AJ hse;obtain ⟨i,u,z,h1,h2,h3,h4,h5,h6,h7⟩:=AO hte;obtain ⟨k1,k2,k3,k4,k5,k6⟩:=hk;refine ⟨_,Aj.gen fun h ρ H' a w hs hops hr=>?_,k6⟩;have e1:=(hl▸hops l gG).int_inv;have e2:=(hc▸hops c gG).int_inv;have hn:H' H.length=none:=by rw[hr _ lC];simp[hp]
  have hrun:=run_make (P:=P) w t e i z hu h1 h3 kl kc li ci k1 k2 (by rw[h6];exact k3) k4;have hz:z.cells.size=te.zero.length:=cz
  have hle:li.toNat*te.size<=ci.toNat*i.size:=eo
  obtain ⟨s1,t1⟩:=hs.alloc H.length hn (.cells (madeCells z.cells (ci.toNat*i.size)) e) (madeCells z.cells (ci.toNat*i.size)).size (.box ((AQ te.zero (li.toNat*te.size)).map .d))
   ⟨w.heap.size,_,_,e,(0,0),Aw _ _ _,heap_alloc_new w _,rfl,fun j _=>lC,by rw[size_madeCells,AgT,CW];exact hle,fun j x v hx hv=>by have hj:j<li.toNat*te.size:=cy;simp only[madeCells,AfZ,Agp] at hv;rw[if_pos lA] at hv;simp only[Aeq,Option.some.injEq] at hv;simp only[AQ,AgO,Aen,Aer hj,Aeq,AgJ,Option.some.injEq] at hx;subst hv;subst hx;exact .d _ _ (GM h7 k5 j),fun j=>hs.held_none j⟩
  refine ⟨_,_,h,_,?_,s1,.lsl H.length te.size 0 li.toNat ci.toNat w.heap.size _ (Aw _ _ _) lA ?_,t1⟩;·simp[execOp,ho,e1,e2,hrun]
  rw[size_madeCells,h5];omega
 exact hk.elim
def Dc (H:List Ae) (sz:Nat):AV->Option (Nat × List D × List Nat)
 | .lsl b _ off n=>match H[b]? with
   | some (.row _ cells)=>some (n,cut cells off (n*sz),[b])
   | _=>none
 | .d (.sl n _ cells)=>some (n,cells,[])
 | .d (.str s)=>some (s.size,s.data.toList.map (fun b=>.int .u8 b.toNat),[])
 | _=>none
def Bp (P:Program) (t:Nat):Bool :=
 match AZ P t with
 | some ti=>match ti.k with | .slice _=>true | .string=>true | _=>false
 | none=>false
def FL (P:Program) (H:List Ae) (te:TI) (t':Nat) (s x:AV) (k:Eff->Prop):Prop :=
 match x with
 | .lsl b' _ 0 m=>match H[b']? with
   | some (.box xs)=>Bp P t'=true/\xs.length=m*te.size/\0<te.size/\0<m/\xs.all AV.one=true /\
     match s with
     | .d (.sl n true cells)=>cells.length=n*te.size/\n+m<=9223372036854775807/\(n+m)*te.bytes<=140737488355328 /\
       k ⟨.lsl H.length te.size 0 (n+m),[(H.length,.box (cells.map .d++xs))],[H.length,b']⟩
     | .lsl b sz 0 n=>match H[b]? with
       | some (.box cells)=>sz=te.size/\b≠b'/\cells.length=n*te.size/\n+m<=9223372036854775807/\(n+m)*te.bytes<=140737488355328 /\
         k ⟨.lsl H.length te.size 0 (n+m),[(b,.dead),(H.length,.box (cells++xs))],[H.length,b,b']⟩
       | some (.row false [])=>n=0/\sz=te.size/\m<=9223372036854775807/\m*te.bytes<=140737488355328 /\
         k ⟨.lsl H.length te.size 0 m,[(b,.dead),(H.length,.box xs)],[H.length,b,b']⟩
       | _=>False
     | _=>False
   | _=>False
 | _=>False
def C5 (P:Program) (H:List Ae) (ts:Array TypeId) (s x:AV) (k:Eff->Prop):Prop :=
 match ts.toList with
 | [t,t']=>match Aq P t with
   | some (_,te)=>match Dc H te.size x with
     | some (m,ds,ids)=>Bp P t'=true/\ds.length=m*te.size/\0<te.size /\
       match s with
       | .d (.sl n true cells)=>cells.length=n*te.size/\(n=0\/0<m)/\n+m<=9223372036854775807/\(n+m)*te.bytes<=140737488355328 /\
         k ⟨.lsl H.length te.size 0 (n+m),[(H.length,.row false (cells++ds))],H.length::ids⟩
       | .lsl b sz 0 n=>match H[b]? with
         | some (.row fz cells)=>sz=te.size/\cells.length=n*te.size/\n+m<=9223372036854775807/\(n+m)*te.bytes<=140737488355328 /\
           k ⟨.lsl H.length te.size 0 (n+m),[(b,.dead),(H.length,.row fz (cells++ds))],H.length::b::ids⟩
         | _=>False
       | _=>False
     | none=>FL P H te t' s x k
   | none=>False
 | _=>False
def RY {h:Held} {ρ:Place} {H':A9} {w:World} {sz m:Nat} {x:AV} {v:Value} {ds:List D} {ids:List Nat} (hs:Sim G h ρ H' w) (hv:R h ρ v x) (e:Dc H sz x=some (m,ds,ids))
  (hr:∀ b,b∈ids->H' b=H[b]?) (hl:ds.length=m*sz) :
  Builtin.lenOf v=pure m/\∃ vs:List Value,vs.length=m*sz/\(∀ (j:Nat) d u,ds[j]?=some d->vs[j]?=some u->RD h u d)/\(∀ (j:Nat) d,ds[j]?=some d->d.one=true) /\
   (∀ w':World,(∀ g:Nat,w'.heap[g]?=w.heap[g]?)->(Builtin.firstCells sz m v).run P w'=.ok vs.toArray w'):=by
 cases hv with
 | d v y hy =>
  cases hy with
  | str s =>
   simp only[Dc,Option.some.injEq,Prod.mk.injEq] at e;obtain ⟨rfl,rfl,rfl⟩:=e;refine ⟨rfl,s.data.toList.map (fun b=>Value.int .u8 b.toNat),iI,fun j d u hd hu=>?_,fun j d hd=>?_,fun w' _=>?_⟩
   ·simp only[Aen] at hd hu;cases hc:s.data.toList[j]? with
    | none=>simp[hc] at hd
    | some b=>simp[hc] at hd hu;subst hd;subst hu;exact .int _ _
   ·simp only[Aen] at hd;cases hc:s.data.toList[j]? with
    | none=>simp[hc] at hd
    | some b=>simp[hc] at hd;subst hd;rfl
   simp only[Builtin.firstCells,Sem.run_pure];congr 1;apply AgZ;have:(s.extract 0 s.size)=s:=lC
   rw[this];simp
  | sl0 base full =>
   simp only[Dc,Option.some.injEq,Prod.mk.injEq] at e;obtain ⟨rfl,rfl,rfl⟩:=e;refine ⟨rfl,[],lC,lC,lC,fun w' _=>?_⟩;cases base with
   | none=>simp[Builtin.firstCells]
   | some b=>simp[Builtin.firstCells,loadCells,loadCellsFrom]
  | sl g off n cap full cells vs hn hf hh hr' ho =>
   simp only[Dc,Option.some.injEq,Prod.mk.injEq] at e;obtain ⟨rfl,rfl,rfl⟩:=e;refine ⟨rfl,(Aex cells.length).map vs,iI,fun j d u hd hu=>?_,ho,fun w' hw'=>?_⟩;·have hj:=(AbY.1 hd).1;simp[Aer hj] at hu;subst hu;exact hr' j d hd
   refine run_firstCells_some w' sz n _ _ _ _ iI (fun j u hu=>?_);have hj:j<cells.length:=cQ
   simp[Aer hj] at hu;subst hu;rw[Addr.add_lit];have:=hs.prom _ _ _ (hh j _ (AbZ hj));rw[<-this];simp[World.cell?,hw' g]
  | _=>simp[Dc] at e
 | lsl0 base b sz' off =>
  simp only[Dc] at e;split at e
  ·cases e;refine ⟨rfl,[],lC,lC,ko,fun w' _=>?_⟩;cases base with
   | none=>simp[Builtin.firstCells]
   | some b=>simp[Builtin.firstCells,loadCells,loadCellsFrom]
  cases e
 | lsl b sz' off n cap g S hρ hn hc =>
  simp only[Dc] at e;split at e
  ·rename_i fz cells hb;cases e;obtain ⟨ho,hblk⟩:=hs.blk b (.row fz cells) eX;rcases hblk with ⟨b1,_⟩ | ⟨g',S',c,E,fr,b1,b2,b3,b4,b5,b6,b7,b8⟩
   ·exact qC
   rw[hρ] at b1;cases b1;have hin:∀ j,j<(cut cells off (m*sz)).length->off+j<cells.length:=fun j hj=>by have:=Eb (AbZ hj);exact (AbY.1 this.2).1
   refine ⟨rfl,(Aex (cut cells off (m*sz)).length).map (fun j=>c.getD (off+j) undef),iI,fun j d u hd hu=>?_,fun j d hd=>ho _ d (Eb hd).2,fun w' hw'=>?_⟩
   ·have hj:=(AbY.1 hd).1;simp only[Aen,Aer hj,Aeq,Option.some.injEq] at hu;subst hu;have hlt:=hin j hj;have hcl:off+j<c.size:=lA
    exact b6 (off+j) d _ (Eb hd).2 (by simp[Aeg hcl])
   refine run_firstCells_some w' sz m _ _ _ _ iI (fun j u hu=>?_);have hj:j<(cut cells off (m*sz)).length:=cQ
   simp only[Aen,Aer hj,Aeq,Option.some.injEq] at hu;subst hu;have hlt:=hin j hj;have hcl:off+j<c.size:=lA
   rw[Addr.add_lit];have e1:w'.cell? ⟨g,off+j,none⟩=w.cell? ⟨g,off+j,none⟩:=(by simp[World.cell?,hw' g])
   rw[e1,EI b2];simp[Aeg hcl]
  cases e
 | _=>simp[Dc] at e
def AaC {t':Nat} (h:Bp P t'=true):∃ u,P.underlying t'=some u/\((∃ e',u=.slice e')\/u=.string):=by
 unfold Bp at h;split at h;·rename_i ti ht;obtain ⟨i,u,z,h1,h2,h3,h4,h5,h6,h7⟩:=AO ht;refine ⟨u,h2,?_⟩;rw[<-h4] at h;cases u<;>simp[Hl] at h ⊢
 cases h
def Fv {w:World} {t t' ty e:Nat} {i:TypeInfo} {z:Value} {u:TypeDesc} (ht:P.underlying t=some (.slice e)) (hu:P.underlying t'=some u) (hni:(∃ e',u=.slice e')\/u=.string)
  (hi:P.info? e=some i) (hz:i.zero=some z) {base:Option Addr} {sLen sCap m:Nat} {x:Value} {olds news:List Value} (hx:Builtin.lenOf x=pure m)
  (ho:(Builtin.firstCells i.size sLen (.slice base sLen sCap)).run P w.drew=.ok olds.toArray w.drew) (hn:(Builtin.firstCells i.size m x).run P w.drew=.ok news.toArray w.drew)
  (hg:sCap<sLen+m) (h63:sLen+m<=9223372036854775807) (hb:(sLen+m)*i.bytes<=140737488355328) :
  (Builtin.append_ #[t,t'] ty #[.slice base sLen sCap,x]).run P w =
   .ok (.slice (some ⟨w.heap.size,0,none⟩) (sLen+m) (grownCap w (sLen+m) sCap e))
    (w.drew.alloc (.cells (olds.toArray++news.toArray++Builtin.zeroCells z.cells (grownCap w (sLen+m) sCap e-(sLen+m))) e)):=by
 have hn':¬(sLen+m<=sCap):=lA
 have h63':¬(9223372036854775807<((sLen:Int)+(m:Int))):=lA
 have h48':¬(281474976710656<Builtin.nextslicecap (sLen+m) sCap*i.bytes):=by have:=growslice_fits hg hb;omega
 rcases hni with ⟨e',rfl⟩ | rfl <;>
 ·simp[Builtin.append_,run_underlying ht,run_underlying hu,sizeOf,typeInfo,zeroValue,hi,hz,hx,hn',h63',h48',Question.forced,ho,hn,newRow,grownCap];congr 2;apply AgZ;simp[List.append_assoc]
def ED {w:World} {t t' ty e:Nat} {i:TypeInfo} {u:TypeDesc} (ht:P.underlying t=some (.slice e)) (hu:P.underlying t'=some u) (hni:(∃ e',u=.slice e')\/u=.string)
  (hi:P.info? e=some i) {base:Option Addr} {sLen sCap m:Nat} {x:Value} {news:List Value} (hx:Builtin.lenOf x=pure m)
  (hn:(Builtin.firstCells i.size m x).run P w=.ok news.toArray w) (hg:sLen+m<=sCap) {w':World}
  (hst:(match base with | some a=>storeCells (a.add (sLen*i.size)) news | none=>pure ()).run P w=.ok () w') :
  (Builtin.append_ #[t,t'] ty #[.slice base sLen sCap,x]).run P w=.ok (.slice base (sLen+m) sCap) w':=by
 cases base with
 | none =>simp at hst;subst hst;rcases hni with ⟨e',rfl⟩ | rfl<;>simp[Builtin.append_,run_underlying ht,run_underlying hu,sizeOf,typeInfo,hi,hx,hg,hn]
 | some a =>simp only at hst;rcases hni with ⟨e',rfl⟩ | rfl<;>simp[Builtin.append_,run_underlying ht,run_underlying hu,sizeOf,typeInfo,hi,hx,hg,hn,hst]
end
end Go.Abs
namespace Go.Abs
open Go
section
variable {G:Ah} {h:Held} {ρ:Place} {H:A9} {w:World}
def Sim.adopt (s:Sim G h ρ H w) (n:Nat) (hn:H n=none) (g S i0:Nat) (h0:ρ i0=some (g,S)) (hd:∀ i S',ρ i=some (g,S')->¬BC H i) (blk:Ae) (h':Held) (w':World)
  (hh:h.le h') (hother:∀ k,k≠g->(∀ o,h' k o=h k o)/\w'.heap[k]?=w.heap[k]?) (hsize:w'.heap.size=w.heap.size)
  (hos:w'.os=w.os) (htape:w'.tape=w.tape) (hout:w'.output=w.output)
  (hprom:∀ o v,h' g o=some v->w'.cell? ⟨g,o,none⟩=some v) (hb:GO h' (E7 ρ n (g,S)) w' n blk) :
  Sim G h' (E7 ρ n (g,S)) (Am H [(n,blk)]) w'/\A6 h ρ w h' (E7 ρ n (g,S)) w':=by
 have hρ:ρ n=none:=by
  cases e:ρ n with
  | none=>rfl
  | some x=>obtain ⟨_,b,hb⟩:=s.dom n x.1 x.2 e;exact qB
 have hle:=IL (g,S) hρ;have hrn:∀ j k S',E7 ρ n (g,S) j=some (k,S')->(∃ j S',ρ j=some (k,S'))\/w.heap.size<=k:=by
  intro j k S' e;by_cases hj:j=n;·subst hj;rw[Aw] at e;cases e;exact .inl ⟨i0,S,h0⟩
  rw[Bx ρ _ hj] at e;exact .inl ⟨j,S',e⟩
 have st:A6 h ρ w h' (E7 ρ n (g,S)) w':=⟨hos,htape,hout,lA,fun k _ hk=>(hother k (fun e=>hk i0 S (e▸h0))).2,hh,fun k _ hk o=>(hother k (fun e=>hk i0 S (e▸h0))).1 o,hle,hrn⟩;have hpr:∀ b o v,h' b o=some v->w'.cell? ⟨b,o,none⟩=some v:=by
  intro b o v e;by_cases hbg:b=g;·subst hbg;exact hprom o v e
  rw[(hother b hbg).1] at e;exact pj
 refine ⟨⟨hpr,?_,?_,?_,?_⟩,st⟩;·intro k ds e;obtain ⟨vs,h1,h2⟩:=s.glob k ds e;exact ⟨vs,fun j x e=>hh _ _ _ (h1 j x e),fun j x e=>(h2 j x e).mono hh⟩
 ·intro j b e;by_cases hj:j=n;·subst hj;simp[Am] at e;subst e;exact hb
  simp[Am,hj] at e;by_cases hbd:b=.dead;·subst hbd;trivial
  refine (s.blk j b e).frame st.n hpr hh hle (fun k S' hk=>?_) (fun hx=>by rw[Bx ρ _ hj];exact hx);have hne:k≠g:=fun hkg=>hd j S' (hkg▸hk) ⟨b,e,hbd⟩;exact p8
 ·intro j k S' e;by_cases hj:j=n;·subst hj;rw[Aw] at e;cases e;exact ⟨by have:=(s.dom i0 g S h0).1;omega,blk,kH⟩
  rw[Bx ρ _ hj] at e;obtain ⟨h1,b,h2⟩:=s.dom j k S' e;exact ⟨lA,b,iF⟩
 intro j k g' S1 S2 e1 e2 l1 l2;have lv:∀ {x:Nat},x≠n->BC (Am H [(n,blk)]) x->BC H x:=fun {x} hx ⟨b,h1,h2⟩=>⟨b,gv,h2⟩;by_cases hj:j=n<;>by_cases hk:k=n;·omega
 ·subst hj;rw[Aw] at e1;rw[Bx ρ _ hk] at e2;cases e1;exact absurd (lv hk l2) (hd k S2 e2)
 ·subst hk;rw[Aw] at e2;rw[Bx ρ _ hj] at e1;cases e2;exact absurd (lv hj l1) (hd j S1 e1)
 rw[Bx ρ _ hj] at e1;rw[Bx ρ _ hk] at e2;exact s.inj j k g' S1 S2 e1 e2 (lv hj l1) (lv hk l2)
def Sim.virt (s:Sim G h ρ H w) (n:Nat) (hn:H n=none) (fz:Bool):Sim G h ρ (Am H [(n,.row fz [])]) w:=by
 have hρ:ρ n=none:=by
  cases e:ρ n with
  | none=>rfl
  | some x=>obtain ⟨_,b,hb⟩:=s.dom n x.1 x.2 e;exact qB
 refine ⟨s.prom,s.glob,?_,?_,?_⟩
 ·intro j b e;by_cases hj:j=n;·subst hj;simp[Am] at e;subst e;exact ⟨lC,.inl ⟨hρ,rfl⟩⟩
  simp[Am,hj] at e;exact s.blk j b e
 ·intro j g S e;obtain ⟨h1,b,h2⟩:=s.dom j g S e;refine ⟨h1,?_⟩;by_cases hj:j=n;·exact ⟨.row fz [],by simp[Am,hj]⟩
  exact ⟨b,iF⟩
 intro j k g S1 S2 e1 e2 l1 l2;have lv:∀ {x:Nat} {y:Nat × Nat},ρ x=some y->BC (Am H [(n,.row fz [])]) x->BC H x:=by
  intro x y e ⟨b,h1,h2⟩;by_cases hx:x=n;·subst hx;rw[hρ] at e;cases e
  exact ⟨b,gv,h2⟩
 exact s.inj j k g S1 S2 e1 e2 (lv e1 l1) (lv e2 l2)
end
section
variable {P:Program} {G:Ah} {o:Oper} {ev:Operand->AV} {H:List Ae}
def Gh {h:Held} {ρ:Place} {H':A9} {w w':World} (hs:Sim G h ρ H' w) {g off n cap sz:Nat} {cells:List D} {vs:Nat->Value} (hl:cells.length=n*sz)
  (hh:∀ (i:Nat) x,cells[i]?=some x->h g (off+i)=some (vs i)) (hw:∀ g:Nat,w'.heap[g]?=w.heap[g]?) :
  (Builtin.firstCells sz n (.slice (some ⟨g,off,none⟩) n cap)).run P w'=.ok ((Aex cells.length).map vs).toArray w':=by
 refine run_firstCells_some w' sz n _ _ _ _ iI (fun j u hu=>?_);have hj:j<cells.length:=cQ
 simp[Aer hj] at hu;subst hu;rw[Addr.add_lit];have:=hs.prom _ _ _ (hh j _ (AbZ hj));rw[<-this];simp[World.cell?,hw g]
def AbR {h:Held} {ars bs:List Value} {xs ys:List D} (h1:ars.length=xs.length) (ha:∀ (j:Nat) d u,xs[j]?=some d->ars[j]?=some u->RD h u d)
  (hb:∀ (j:Nat) d u,ys[j]?=some d->bs[j]?=some u->RD h u d) (rest:Array Value) (hl:bs.length=ys.length) :
  ∀ (j:Nat) x v,(xs++ys)[j]?=some x->(ars.toArray++bs.toArray++rest)[j]?=some v->RD h v x:=by
 intro j x v hx hv;rw[Aew] at hx;rw[Af7,Af7] at hv;simp only[Aga,Agb,Af2] at hv;by_cases hj:j<xs.length;·rw[if_pos hj] at hx;rw[if_pos lA,if_pos lA] at hv;exact ha j x v hx hv
 rw[if_neg hj] at hx;exact oI
def MT {xs ys:List D} (h1:∀ (j:Nat) x,xs[j]?=some x->x.one=true) (h2:∀ (j:Nat) x,ys[j]?=some x->x.one=true):∀ (j:Nat) x,(xs++ys)[j]?=some x->x.one=true:=by
 intro j x hx;rw[Aew] at hx;split at hx;·exact h1 _ x hx
 exact h2 _ x hx
def RD.one_ok {h:Held} {v:Value} {x:D} (r:RD h v x) (e:x.one=true):v.oneCell'=true:=by
 cases r with
 | val v=>cases v<;>first | rfl | simp[D.one] at e
 | _=>first | rfl | simp[D.one] at e
def Ach {h:Held} {ρ:Place} {v:Value} {n:Nat} {full:Bool} {cells:List D} (r:R h ρ v (.d (.sl n full cells))):∀ (j:Nat) x,cells[j]?=some x->x.one=true:=by
 cases r with
 | d _ _ hx=>cases hx with
   | sl0=>simp
   | sl _ _ _ _ _ _ _ _ _ _ _ ho=>exact ho
def Sim.newBox {h:Held} {ρ:Place} {H':A9} {w:World} (s:Sim G h ρ H' w) (n:Nat) (hn:H' n=none) (c:Array Value) (E:Nat) (cs:List AV) (hl:cs.length<=c.size)
  (hr:∀ (j:Nat) x v,cs[j]?=some x->c[j]?=some v->R h ρ v x) :
  Sim G h (E7 ρ n (w.heap.size,c.size)) (Am H' [(n,.box cs)]) (w.alloc (.cells c E))/\A6 h ρ w h (E7 ρ n (w.heap.size,c.size)) (w.alloc (.cells c E)):=by
 have hρ:ρ n=none:=by
  cases e:ρ n with
  | none=>rfl
  | some x=>obtain ⟨_,b,hb⟩:=s.dom n x.1 x.2 e;exact qB
 exact s.alloc n hn (.cells c E) c.size (.box cs)
  ⟨w.heap.size,c.size,c,E,(0,0),Aw _ _ _,heap_alloc_new w _,rfl,fun j _=>lC,hl,fun j x v hx hv=>(hr j x v hx hv).mono (Held.le_refl _) (IL _ hρ),fun j=>s.held_none j⟩
def Agd {h:Held} {ρ:Place} {ars bs:List Value} {xs ys:List AV} (h1:ars.length=xs.length) (ha:∀ (j:Nat) d u,xs[j]?=some d->ars[j]?=some u->R h ρ u d)
  (hb:∀ (j:Nat) d u,ys[j]?=some d->bs[j]?=some u->R h ρ u d) (rest:Array Value) (hl:bs.length=ys.length) :
  ∀ (j:Nat) x v,(xs++ys)[j]?=some x->(ars.toArray++bs.toArray++rest)[j]?=some v->R h ρ v x:=by
 intro j x v hx hv;rw[Aew] at hx;rw[Af7,Af7] at hv;simp only[Aga,Agb,Af2] at hv;by_cases hj:j<xs.length;·rw[if_pos hj] at hx;rw[if_pos lA,if_pos lA] at hv;exact ha j x v hx hv
 rw[if_neg hj] at hx;exact oI
def S5 {h:Held} {ρ:Place} {H':A9} {w:World} {sz sz' m b:Nat} {v:Value} {xs:List AV} (hs:Sim G h ρ H' w) (hv:R h ρ v (.lsl b sz' 0 m)) (hb:H' b=some (.box xs)) (hl:xs.length=m*sz) :
  Builtin.lenOf v=pure m/\∃ vs:List Value,vs.length=m*sz/\(∀ (j:Nat) d u,xs[j]?=some d->vs[j]?=some u->R h ρ u d) /\
   (∀ w':World,(∀ g:Nat,w'.heap[g]?=w.heap[g]?)->(Builtin.firstCells sz m v).run P w'=.ok vs.toArray w'):=by
 cases hv with
 | lsl0 base _ _ _ =>
  refine ⟨rfl,[],lC,lC,fun w' _=>?_⟩;cases base with
  | none=>simp[Builtin.firstCells]
  | some b=>simp[Builtin.firstCells,loadCells,loadCellsFrom]
 | lsl _ _ _ _ cap g S hρ hn hc =>
  obtain ⟨g',S',c,E,fr,b1,b2,b3,b4,b5,b6,b7⟩:=hs.blk b (.box xs) hb;rw[hρ] at b1;cases b1;refine ⟨rfl,(Aex xs.length).map (fun j=>c.getD j undef),iI,fun j d u hd hu=>?_,fun w' hw'=>?_⟩
  ·have hj:=(AbY.1 hd).1;simp only[Aen,Aer hj,Aeq,Option.some.injEq] at hu;subst hu;have hcl:j<c.size:=lA
   exact b6 j d _ hd (by simp[Aeg hcl])
  refine run_firstCells_some w' sz m _ _ _ _ iI (fun j u hu=>?_);have hj:j<xs.length:=cQ
  simp only[Aen,Aer hj,Aeq,Option.some.injEq] at hu;subst hu;have hcl:j<c.size:=lA
  rw[Addr.add_lit,Agw];have e1:w'.cell? ⟨g,j,none⟩=w.cell? ⟨g,j,none⟩:=by simp[World.cell?,hw' g]
  rw[e1,EI b2];simp[Aeg hcl]
set_option maxHeartbeats 1000000 in
def Pi {t t' e:Nat} {te:TI} {s x:Operand} {k:Eff->Prop} (ho:o.op=.call {callee:=.builtin .append,args:=#[s,x],argTypes:=#[t,t']}) (hse:Aq P t=some (e,te))
  (hk:FL P H te t' (ev s) (ev x) k):∃ e,Aj P G o ev (hp H) e/\k e:=by
 obtain ⟨hu,hte⟩:=AJ hse;obtain ⟨i,u,z,h1,h2,h3,h4,h5,h6,h7⟩:=AO hte;have exec:∀ (a:Act) (w w':World) (v:Value),(Builtin.append_ #[t,t'] o.type #[a.eval s,a.eval x]).run P w=.ok v w'->(execOp a.eval o).run P w=.ok (.value v) w':=by intro a w w' v hr;simp only[execOp,ho,resolve,invoke,builtin,Sem.run_bind,Sem.run_pure,Result.andThen_ok,AgS,AgB,AgX,hr]
 have mx:x∈o.op.operands.toList:=cV
 have ms:s∈o.op.operands.toList:=cV
 unfold FL at hk;split at hk
 ·rename_i b' sz' m hx;split at hk
  ·rename_i xs hb';obtain ⟨k1,k2,k3,k4,k5,hk⟩:=hk;obtain ⟨u',hu',hni⟩:=AaC k1
   have grow:∀ (h:Held) (ρ:Place) (Hx:A9) (w:World) (a:Act) (v:Value) (vs:List Value),Sim G h ρ Hx w->Hx H.length=none->a.eval x=v->Builtin.lenOf v=pure m->vs.length=m*te.size ->
     (∀ (j:Nat) d u,xs[j]?=some d->vs[j]?=some u->R h ρ u d)->(∀ w':World,(∀ g:Nat,w'.heap[g]?=w.heap[g]?)->(Builtin.firstCells te.size m v).run P w'=.ok vs.toArray w') ->
     ∀ (base:Option Addr) (n sCap:Nat) (olds:List Value) (cells:List AV),a.eval s=.slice base n sCap->sCap<n+m->cells.length=n*te.size->n+m<=9223372036854775807->(n+m)*te.bytes<=140737488355328 ->
     olds.length=cells.length->(∀ (j:Nat) d u,cells[j]?=some d->olds[j]?=some u->R h ρ u d)->(Builtin.firstCells i.size n (.slice base n sCap)).run P w.drew=.ok olds.toArray w.drew ->
     ∃ v w' h' ρ',(execOp a.eval o).run P w=.ok (.value v) w'/\Sim G h' ρ' (Am Hx [(H.length,.box (cells++xs))]) w'/\R h' ρ' v (.lsl H.length te.size 0 (n+m))/\A6 h ρ w h' ρ' w':=by
    intro h ρ Hx w a v vs hs hn hax q1 q2 q3 q4 base n sCap olds cells hb hm c1 c3 c4 hlo hro hfo;have hzl:z.cells.size=te.size:=bf
    have hrun:=Fv (P:=P) (w:=w) (ty:=o.type) hu hu' hni h1 h3 (base:=base) (sLen:=n) (sCap:=sCap) q1 hfo cR hm c3 ip;have hge:=grownCap_ge w (n+m) sCap e;have hcs:(olds.toArray++vs.toArray++Builtin.zeroCells z.cells (grownCap w (n+m) sCap e-(n+m))).size=grownCap w (n+m) sCap e*te.size:=aJ
    have hle:(n+m)*te.size<=grownCap w (n+m) sCap e*te.size:=Aet _ hge;obtain ⟨s1,t1⟩:=hs.drew.newBox H.length hn (olds.toArray++vs.toArray++Builtin.zeroCells z.cells (grownCap w (n+m) sCap e-(n+m))) e (cells++xs)
     dy (Agd hlo hro q3 _ lA)
    exact ⟨_,_,h,_,exec a w _ _ (by rw[hb,hax];exact hrun),s1,.lsl H.length te.size 0 (n+m) _ w.heap.size _ (Aw _ _ _) hge jh,A6.drew.trans t1⟩
   have place:∀ (h:Held) (ρ:Place) (H':A9) (w:World) (a:Act) (v:Value) (vs:List Value),Sim G h ρ H' w->H' H.length=none->a.eval x=v->Builtin.lenOf v=pure m->vs.length=m*te.size ->
     (∀ (j:Nat) d u,xs[j]?=some d->vs[j]?=some u->R h ρ u d)->(∀ w':World,(∀ g:Nat,w'.heap[g]?=w.heap[g]?)->(Builtin.firstCells te.size m v).run P w'=.ok vs.toArray w') ->
     ∀ (b n cap g S E:Nat) (c:Array Value) (fr:Nat × Nat) (cells:List AV),BC H' b->b≠H.length->a.eval s=.slice (some ⟨g,0,none⟩) n cap->ρ b=some (g,S)->w.heap[g]?=some (.cells c E fr)->c.size=S->HV S fr ->
     n<=cap->0+cap*te.size<=S->cells.length=n*te.size->n+m<=9223372036854775807->(n+m)*te.bytes<=140737488355328->(∀ (j:Nat) x v,cells[j]?=some x->c[j]?=some v->R h ρ v x)->(∀ j,h g j=none) ->
     ∃ v w' h' ρ',(execOp a.eval o).run P w=.ok (.value v) w'/\Sim G h' ρ' (Am H' [(b,.dead),(H.length,.box (cells++xs))]) w'/\R h' ρ' v (.lsl H.length te.size 0 (n+m))/\A6 h ρ w h' ρ' w':=by
    intro h ρ H' w a v vs hs hn hax q1 q2 q3 q4 b n cap g S E c fr cells hlive hbn hav hρ b2 b3 b4 hnc hcap c1 c3 c4 b6 b7;have s0:=hs.reblk b hlive .dead trivial;have hn0:(Am H' [(b,.dead)]) H.length=none:=gc
    have hupd:Am (Am H' [(b,.dead)]) [(H.length,Ae.box (cells++xs))]=Am H' [(b,.dead),(H.length,.box (cells++xs))]:=rfl;by_cases hroom:n+m<=cap
    ·have hfit:n*te.size+m*te.size<=cap*te.size:=eY;have hones:∀ v,v∈vs->v.oneCell'=true:=(by intro v hv;obtain ⟨j,hj,rfl⟩:=Agv hv;exact Sn (vs:=vs.toArray) (xs:=xs) (h:=h) (ρ:=ρ) ⟨jW,fun j v x hv hx=>q3 j x v hx iG⟩ k5 _ lC);obtain ⟨c',r1,r2,r3⟩:=Cd P g (0+n*i.size) vs 0 c E fr w b2 io jE hones;have hrun:=ED (P:=P) (w:=w) (t:=t) (t':=t') (ty:=o.type) hu hu' hni h1 (base:=some ⟨g,0,none⟩) (sLen:=n) (sCap:=cap) q1 dS hroom dD;have hsame:∀ j,j<cells.length->c'[j]?=c[j]?:=fun j hj=>by rw[r3 j,if_neg jE]
     have hR0:∀ (j:Nat) x v,(cells++xs)[j]?=some x->c'[j]?=some v->R h ρ v x:=by
      intro j x v hx hv;rw[Aew] at hx;by_cases hj:j<cells.length;·rw[if_pos hj] at hx;rw[hsame j hj] at hv;exact b6 j x v hx hv
      rw[if_neg hj] at hx;have hlt:=(AbY.1 hx).1;rw[r3 j,if_pos jE] at hv;refine q3 (j-cells.length) x v hx ?_;have e9:j-(0+n*i.size+0)=j-cells.length:=jE
      rw[<-e9];exact hv
     have hdead:∀ i S',ρ i=some (g,S')->¬BC (Am H' [(b,.dead)]) i:=by
      intro j S' hj ⟨y,hy1,hy2⟩;by_cases hjb:j=b;·subst hjb;simp[Am] at hy1;exact hy2 hy1.symm
      exact hjb (hs.inj j b g S' S hj hρ mH hlive)
     have hρn:ρ H.length=none:=by
      cases e:ρ H.length with
      | none=>rfl
      | some x=>obtain ⟨_,b,hb⟩:=hs.dom _ x.1 x.2 e;exact qB
     have hlen2:(cells++xs).length<=S:=(by rw[Aev];omega);obtain ⟨s1,t1⟩:=s0.adopt H.length hn0 g S b hρ hdead (.box (cells++xs)) h (w.setRow g c') (Held.le_refl _) (fun k hk=>mn) lC rfl rfl rfl
      (fun o v e=>by rw[b7 o] at e;cases e)
      ⟨g,S,c',E,fr,Aw _ _ _,setRow_heap w g c c' E fr b2,lA,b4,hlen2,fun j x v hx hv=>(hR0 j x v hx hv).mono (Held.le_refl _) (IL _ hρn),b7⟩
     exact ⟨_,_,h,_,exec a w _ _ (by rw[hav,hax];exact hrun),s1,.lsl H.length te.size 0 (n+m) cap g S (Aw _ _ _) hroom hcap,t1⟩
    have hc:∀ j,j<cells.length->c[j]?=some (c.getD j undef):=fun j hj=>by
     have hle:n*te.size<=cap*te.size:=Aet _ hnc;have:j<c.size:=lA
     simp[Aeg this]
    rw[<-hupd];refine grow h ρ _ w a v vs s0 hn0 hax q1 q2 q3 q4 (some ⟨g,0,none⟩) n cap ((Aex cells.length).map fun j=>c.getD j undef) cells hav lA c1 c3 c4 lC (fun j d u hd hu=>?_) ?_;·have hj:=(AbY.1 hd).1;simp only[Aen,Aer hj,Aeq,Option.some.injEq] at hu;subst hu;exact b6 j d _ hd (hc j hj)
    rw[h5];refine run_firstCells_some w.drew te.size n _ _ _ _ iL (fun j u hu=>?_);have hj:j<cells.length:=cQ
    simp only[Aen,Aer hj,Aeq,Option.some.injEq] at hu;exact po
   split at hk
   ·rename_i n cells hsv;obtain ⟨c1,c3,c4,c5⟩:=hk;refine ⟨_,Aj.gen fun h ρ H' a w hs hops hr=>?_,c5⟩;have hn:H' H.length=none:=eW
    obtain ⟨q1,vs,q2,q3,q4⟩:=S5 (P:=P) hs (hx▸hops x mx) eA k2;have hvs:=hsv▸hops s ms;have hmap:(cells.map AV.d).length=n*te.size:=iL
    generalize hav:a.eval s=av at hvs;cases hvs with
    | d _ _ hx2 =>
     cases hx2 with
     | sl0 base full =>
      refine grow h ρ H' w a _ vs hs hn rfl q1 q2 q3 q4 base 0 0 [] _ hav lA hmap c3 c4 lC lC ?_;cases base with
      | none=>simp[Builtin.firstCells]
      | some b=>simp[Builtin.firstCells,loadCells,loadCellsFrom]
     | sl g off n' cap full' cells' us hn' hf hh hr' _ =>
      have hcap:=hf rfl;subst hcap;refine grow h ρ H' w a _ vs hs hn rfl q1 q2 q3 q4 _ _ _ ((Aex cells.length).map us) _ hav lA hmap c3 c4 lC (fun j d u hd hu=>?_) cI;have hj:=(AbY.1 hd).1;have hj':j<cells.length:=iM
      simp[Aer hj'] at hu;subst hu;simp only[Aen,AbZ hj',Aeq,Option.some.injEq] at hd;subst hd;exact .d _ _ (hr' j _ (AbZ hj'))
   ·rename_i b sz n hsv;split at hk
    ·rename_i cells hb;obtain ⟨c0,cb,c1,c3,c4,c5⟩:=hk;refine ⟨_,Aj.gen fun h ρ H' a w hs hops hr=>?_,c5⟩;have hn:H' H.length=none:=eW
     have hHb:H' b=some (.box cells):=eX;have hlt:b<H.length:=(AbY.1 hb).1;obtain ⟨q1,vs,q2,q3,q4⟩:=S5 (P:=P) hs (hx▸hops x mx) eA k2;have hvs:=hsv▸hops s ms;have hlive:BC H' b:=⟨_,hHb,lC⟩;have hbn:b≠H.length:=lA
     subst c0;generalize hav:a.eval s=av at hvs;cases hvs with
     | lsl0 base _ _ _ =>
      have s0:=hs.reblk b hlive .dead trivial;have hn0:(Am H' [(b,.dead)]) H.length=none:=gc
      have hupd:Am (Am H' [(b,.dead)]) [(H.length,Ae.box (cells++xs))]=Am H' [(b,.dead),(H.length,.box (cells++xs))]:=rfl;rw[<-hupd];have e1:cells=[]:=Aes lA;subst e1;refine grow h ρ _ w a _ vs s0 hn0 rfl q1 q2 q3 q4 base 0 0 [] [] hav lA lC c3 c4 lC lC ?_;cases base with
      | none=>simp[Builtin.firstCells]
      | some b=>simp[Builtin.firstCells,loadCells,loadCellsFrom]
     | lsl _ _ _ _ cap g S hρ hnc hcap =>obtain ⟨g',S',c,E,fr,b1,b2,b3,b4,b5,b6,b7⟩:=hs.blk b _ hHb;rw[hρ] at b1;cases b1;exact place h ρ H' w a _ vs hs hn rfl q1 q2 q3 q4 b n cap g S E c fr cells hlive hbn hav hρ b2 b3 b4 hnc hcap c1 c3 c4 b6 b7
    ·rename_i hb;obtain ⟨c0,c00,c3,c4,c5⟩:=hk;subst c0;refine ⟨_,Aj.gen fun h ρ H' a w hs hops hr=>?_,c5⟩;have hn:H' H.length=none:=eW
     have hHb:H' b=some (.row false []):=eX;have hlt:b<H.length:=(AbY.1 hb).1;obtain ⟨q1,vs,q2,q3,q4⟩:=S5 (P:=P) hs (hx▸hops x mx) eA k2;have hvs:=hsv▸hops s ms;have hlive:BC H' b:=⟨_,hHb,lC⟩;have hbn:b≠H.length:=lA
     subst c00;have c3':0+m<=9223372036854775807:=lA
     have c4':(0+m)*te.bytes<=140737488355328:=(by rw[Agw];exact c4);have key:∃ v w' h' ρ',(execOp a.eval o).run P w=.ok (.value v) w'/\Sim G h' ρ' (Am H' [(b,.dead),(H.length,.box ([]++xs))]) w'/\R h' ρ' v (.lsl H.length te.size 0 (0+m))/\A6 h ρ w h' ρ' w':=by
      generalize hav:a.eval s=av at hvs;cases hvs with
      | lsl0 base _ _ _ =>
       have s0:=hs.reblk b hlive .dead trivial;have hn0:(Am H' [(b,.dead)]) H.length=none:=gc
       have hupd:Am (Am H' [(b,.dead)]) [(H.length,Ae.box ([]++xs))]=Am H' [(b,.dead),(H.length,.box ([]++xs))]:=rfl;rw[<-hupd];refine grow h ρ _ w a _ vs s0 hn0 rfl q1 q2 q3 q4 base 0 0 [] [] hav lA lC c3' c4' lC lC ?_;cases base with
       | none=>simp[Builtin.firstCells]
       | some b=>simp[Builtin.firstCells,loadCells,loadCellsFrom]
      | lsl _ _ _ _ cap g S hρ hnc hcap =>
       rcases (hs.blk b _ hHb).2 with ⟨b1,_⟩ | ⟨g',S',c,E,fr,b1,b2,b3,b4,b5,b6,b7,b8⟩
       ·exact qC
       rw[hρ] at b1;cases b1;exact place h ρ H' w a _ vs hs hn rfl q1 q2 q3 q4 b 0 cap g S E c fr [] hlive hbn hav hρ b2 b3 b4 hnc hcap lC c3' c4' lC (fun j=>b8 j lC)
     rw[Agw] at key;exact key
    exact hk.elim
   exact hk.elim
  exact hk.elim
 exact hk.elim
def Hi {ts:Array TypeId} {s x:Operand} {k:Eff->Prop} (ho:o.op=.call {callee:=.builtin .append,args:=#[s,x],argTypes:=ts})
  (hk:C5 P H ts (ev s) (ev x) k):∃ e,Aj P G o ev (hp H) e/\k e:=by
 unfold C5 at hk;split at hk
 ·rename_i t t' hts;have hts':ts=#[t,t']:=by rw[<-Array.toArray_toList (xs:=ts),hts]
  subst hts';split at hk
  ·rename_i e te hse;obtain ⟨hu,hte⟩:=AJ hse;obtain ⟨i,u,z,h1,h2,h3,h4,h5,h6,h7⟩:=AO hte;split at hk
   ·rename_i m ds ids hsrc;obtain ⟨k1,k2,k3,hk⟩:=hk;obtain ⟨u',hu',hni⟩:=AaC k1;have exec:∀ (a:Act) (w w':World) (v:Value),(Builtin.append_ #[t,t'] o.type #[a.eval s,a.eval x]).run P w=.ok v w'->(execOp a.eval o).run P w=.ok (.value v) w':=by
     intro a w w' v hr;simp only[execOp,ho,resolve,invoke,builtin,Sem.run_bind,Sem.run_pure,Result.andThen_ok,AgS,AgB,AgX,hr]
    split at hk
    ·rename_i n cells hsv;obtain ⟨c1,c2,c3,c4,c5⟩:=hk;refine ⟨_,Aj.gen fun h ρ H' a w hs hops hr=>?_,c5⟩;have hn:H' H.length=none:=eW
     have hvx:=hops x cV;obtain ⟨q1,vs,q2,q3,q5,q4⟩:=RY hs hvx hsrc (fun b hb=>by rw[hr b kK]) k2;have hvs:=hsv▸hops s cV;have hzl:z.cells.size=te.size:=bf
     have hone:∀ (j:Nat) x,cells[j]?=some x->x.one=true:=Ach hvs
     have grow:∀ (base:Option Addr) (olds:List Value),a.eval s=.slice base n n->0<m->olds.length=cells.length->(∀ (j:Nat) d u,cells[j]?=some d->olds[j]?=some u->RD h u d) ->
       (Builtin.firstCells i.size n (.slice base n n)).run P w.drew=.ok olds.toArray w.drew ->
       ∃ v w' h' ρ',(execOp a.eval o).run P w=.ok (.value v) w'/\Sim G h' ρ' (Am H' [(H.length,.row false (cells++ds))]) w'/\R h' ρ' v (.lsl H.length te.size 0 (n+m))/\A6 h ρ w h' ρ' w':=by
      intro base olds hb hm hlo hro hfo;have hrun:=Fv (P:=P) (w:=w) (ty:=o.type) hu hu' hni h1 h3 (base:=base) (sLen:=n) (sCap:=n) q1 hfo cR lA c3 ip;have hge:=grownCap_ge w (n+m) n e;have hcs:(olds.toArray++vs.toArray++Builtin.zeroCells z.cells (grownCap w (n+m) n e-(n+m))).size=grownCap w (n+m) n e*te.size:=aJ
      have hle:(n+m)*te.size<=grownCap w (n+m) n e*te.size:=Aet _ hge;obtain ⟨h',s1,t1⟩:=hs.drew.newRow H.length hn (olds.toArray++vs.toArray++Builtin.zeroCells z.cells (grownCap w (n+m) n e-(n+m))) e false (cells++ds)
       dy (AbR hlo hro q3 _ lA) (MT hone q5)
      refine lK
     have idle:∀ (base:Option Addr),a.eval s=.slice base 0 0->n=0->m=0 ->
       ∃ v w' h' ρ',(execOp a.eval o).run P w=.ok (.value v) w'/\Sim G h' ρ' (Am H' [(H.length,.row false (cells++ds))]) w'/\R h' ρ' v (.lsl H.length te.size 0 (n+m))/\A6 h ρ w h' ρ' w':=by
      intro base hb h0 hm;subst h0;subst hm;have e1:cells=[]:=Aes lA;have e2:ds=[]:=Aes lA;have e3:vs=[]:=Aes lA;subst e1;subst e2;subst e3;refine ⟨.slice base 0 0,w,h,ρ,exec a w _ _ ?_,hs.virt _ hn false,.lsl0 _ _ _ _,A6.refl _ _ _⟩;rw[hb];exact pa
     generalize hav:a.eval s=av at hvs;cases hvs with
     | d _ _ hx =>
      cases hx with
      | sl0 base full =>
       rcases Agx m with hm | hm
       ·exact idle base hav rfl hm
       refine grow base [] hav hm rfl lC ?_;cases base with
       | none=>simp[Builtin.firstCells]
       | some b=>simp[Builtin.firstCells,loadCells,loadCellsFrom]
      | sl g off n' cap full' cells' us hn' hf hh hr' _ =>
       have hcap:=hf rfl;subst hcap;rcases c2 with h0 | hm
       ·rcases Agx m with hm | hm
        ·subst h0;exact idle _ hav rfl hm
        exact grow _ ((Aex cells.length).map us) hav hm lC (fun j d u hd hu=>aL) cI
       exact grow _ ((Aex cells.length).map us) hav hm lC (fun j d u hd hu=>aL) cI
    ·rename_i b sz' n hsv;split at hk
     ·rename_i fz cells hb;obtain ⟨c0,c1,c3,c4,c5⟩:=hk;refine ⟨_,Aj.gen fun h ρ H' a w hs hops hr=>?_,c5⟩;have hn:H' H.length=none:=eW
      have hHb:H' b=some (.row fz cells):=eX;have hlt:b<H.length:=(AbY.1 hb).1;have hvx:=hops x cV;obtain ⟨q1,vs,q2,q3,q5,q4⟩:=RY hs hvx hsrc (fun b hb=>by rw[hr b kK]) k2;have hvs:=hsv▸hops s cV;have hzl:z.cells.size=te.size:=bf
      have hlive:BC H' b:=⟨_,hHb,lC⟩;have s0:=hs.reblk b hlive .dead trivial;have hone:∀ (j:Nat) x,cells[j]?=some x->x.one=true:=(hs.blk b _ hHb).1;have hn0:(Am H' [(b,.dead)]) H.length=none:=by
       have:H.length≠b:=lA
       simp[Am,this,hn]
      have grow:∀ (base:Option Addr) (sCap:Nat) (olds:List Value),a.eval s=.slice base n sCap->sCap<n+m->olds.length=cells.length->(∀ (j:Nat) d u,cells[j]?=some d->olds[j]?=some u->RD h u d) ->
        (Builtin.firstCells i.size n (.slice base n sCap)).run P w.drew=.ok olds.toArray w.drew ->
        ∃ v w' h' ρ',(execOp a.eval o).run P w=.ok (.value v) w'/\Sim G h' ρ' (Am H' [(b,.dead),(H.length,.row fz (cells++ds))]) w'/\R h' ρ' v (.lsl H.length te.size 0 (n+m))/\A6 h ρ w h' ρ' w':=by
       intro base sCap olds hb hm hlo hro hfo;have hrun:=Fv (P:=P) (w:=w) (ty:=o.type) hu hu' hni h1 h3 (base:=base) (sLen:=n) (sCap:=sCap) q1 hfo cR hm c3 ip;have hge:=grownCap_ge w (n+m) sCap e;have hcs:(olds.toArray++vs.toArray++Builtin.zeroCells z.cells (grownCap w (n+m) sCap e-(n+m))).size=grownCap w (n+m) sCap e*te.size:=aJ
       have hle:(n+m)*te.size<=grownCap w (n+m) sCap e*te.size:=Aet _ hge;obtain ⟨h',s1,t1⟩:=s0.drew.newRow H.length hn0 (olds.toArray++vs.toArray++Builtin.zeroCells z.cells (grownCap w (n+m) sCap e-(n+m))) e fz (cells++ds)
        dy (AbR hlo hro q3 _ lA) (MT hone q5)
       refine lK
      generalize hav:a.eval s=av at hvs;cases hvs with
      | lsl0 base _ _ _ =>
       have e1:cells=[]:=Aes lA;subst e1;rcases Agx m with hm | hm
       ·subst hm;have e2:ds=[]:=Aes lA;have e3:vs=[]:=Aes lA;subst e2;subst e3;refine ⟨.slice base 0 0,w,h,ρ,exec a w _ _ ?_,s0.virt _ hn0 fz,.lsl0 _ _ _ _,A6.refl _ _ _⟩;rw[hav];exact pa
       refine grow base 0 [] hav lA rfl lC ?_;cases base with
       | none=>simp[Builtin.firstCells]
       | some b=>simp[Builtin.firstCells,loadCells,loadCellsFrom]
      | lsl _ _ _ _ cap g S hρ hnc hcap =>
       subst c0;rcases (hs.blk b _ hHb).2 with ⟨b1,_⟩ | ⟨g',S',c,E,fr,b1,b2,b3,b4,b5,b6,b7,b8⟩
       ·exact qC
       rw[hρ] at b1;cases b1;by_cases hroom:n+m<=cap
       ·
        have hfit:n*te.size+m*te.size<=cap*te.size:=eY;have hones:∀ v,v∈vs->v.oneCell'=true:=by
         intro v hv;obtain ⟨j,hj,rfl⟩:=Agv hv;have hj':j<ds.length:=lA
         exact (q3 j _ _ (AbZ hj') (AbZ hj)).one_ok (q5 j _ (AbZ hj'))
        obtain ⟨c',r1,r2,r3⟩:=Cd P g (0+n*i.size) vs 0 c E fr w b2 io jE hones;have hrun:=ED (P:=P) (w:=w) (t:=t) (t':=t') (ty:=o.type) hu hu' hni h1 (base:=some ⟨g,0,none⟩) (sLen:=n) (sCap:=cap) q1 dS hroom dD;have hsame:∀ j,j<cells.length->c'[j]?=c[j]?:=fun j hj=>by rw[r3 j,if_neg jE]
        have hRD:∀ (j:Nat) x v,(cells++ds)[j]?=some x->c'[j]?=some v->RD h v x:=by
         intro j x v hx hv;rw[Aew] at hx;by_cases hj:j<cells.length;·rw[if_pos hj] at hx;rw[hsame j hj] at hv;exact b6 j x v hx hv
         rw[if_neg hj] at hx;have hlt:=(AbY.1 hx).1;rw[r3 j,if_pos jE] at hv;refine q3 (j-cells.length) x v hx ?_;have e9:j-(0+n*i.size+0)=j-cells.length:=jE
         rw[<-e9];exact hv
        have hdead:∀ i S',ρ i=some (g,S')->¬BC (Am H' [(b,.dead)]) i:=by
         intro j S' hj ⟨y,hy1,hy2⟩;by_cases hjb:j=b;·subst hjb;simp[Am] at hy1;exact hy2 hy1.symm
         exact hjb (hs.inj j b g S' S hj hρ mH hlive)
        have hlen2:(cells++ds).length<=S:=(by rw[Aev];omega);have hR:∀ h' ρ',h.le h'->R h' (E7 ρ' H.length (g,S)) (.slice (some ⟨g,0,none⟩) (n+m) cap) (.lsl H.length te.size 0 (n+m)):=fun h' ρ' _ =>.lsl H.length te.size 0 (n+m) cap g S (Aw _ _ _) hroom hcap;cases fz with
        | false =>
         have hno:∀ j,h g j=none:=fun j=>b8 j lC;obtain ⟨s1,t1⟩:=s0.adopt H.length hn0 g S b hρ hdead (.row false (cells++ds)) h (w.setRow g c') (Held.le_refl _) (fun k hk=>mn) lC rfl rfl rfl
          (fun o v e=>gq)
          ⟨MT hone q5,.inr ⟨g,S,c',E,fr,Aw _ _ _,setRow_heap w g c c' E fr b2,lA,b4,hlen2,hRD,(fun e=>lh),fun j _=>hno j⟩⟩
         exact ⟨_,_,h,_,exec a w _ _ (by rw[hav];exact hrun),s1,hR h ρ (Held.le_refl _),t1⟩
        | true =>
         let h':Held:=fun k o=>if k=g/\o<(cells++ds).length then c'[o]? else h k o
         have hle:h.le h':=by
          intro k o v e;by_cases hk:k=g/\o<(cells++ds).length
          ·obtain ⟨rfl,ho⟩:=hk;simp only[h',ho,and_self,if_true];by_cases hc:o<cells.length;·rw[hsame o hc,<-b7 rfl o hc];exact e
           rw[b8 o (fun _=>lA)] at e;cases e
          simp only[h',hk,if_false];exact e
         obtain ⟨s1,t1⟩:=s0.adopt H.length hn0 g S b hρ hdead (.row true (cells++ds)) h' (w.setRow g c') hle (fun k hk=>⟨fun o=>by simp[h',hk],setRow_other w g k c' hk⟩) lC rfl rfl rfl
          (fun o v e=>by
           rw[EI (setRow_heap w g c c' E fr b2)];simp only[h',true_and] at e;split at e;·exact e
           have:=s0.prom g o v e;rw[EI b2] at this;rename_i hno;rw[b8 o (fun _=>by rw[Aev] at hno;omega)] at e;cases e)
          ⟨MT hone q5,.inr ⟨g,S,c',E,fr,Aw _ _ _,setRow_heap w g c c' E fr b2,lA,b4,hlen2,fun j x v a b=>(hRD j x v a b).mono hle,fun _ j hj=>by simp only[h',hj,and_self,if_true],fun j hj=>by have:=hj rfl;simp only[h',true_and];rw[if_neg lA];exact b8 j (fun _=>by rw[Aev] at this;omega)⟩⟩
         exact ⟨_,_,h',_,exec a w _ _ (by rw[hav];exact hrun),s1,hR h' ρ hle,t1⟩
       have hc:∀ j,j<cells.length->c[j]?=some (c.getD j undef):=fun j hj=>by
        have:j<c.size:=lA
        simp[Aeg this]
       refine grow (some ⟨g,0,none⟩) cap ((Aex cells.length).map fun j=>c.getD j undef) hav lA lC (fun j d u hd hu=>?_) ?_;·have hj:=(AbY.1 hd).1;simp only[Aen,Aer hj,Aeq,Option.some.injEq] at hu;subst hu;exact b6 j d _ hd (hc j hj)
       rw[h5];refine run_firstCells_some w.drew te.size n _ _ _ _ iL (fun j u hu=>?_);have hj:j<cells.length:=cQ
       simp only[Aen,Aer hj,Aeq,Option.some.injEq] at hu;exact po
     exact hk.elim
    exact hk.elim
   exact Pi ho hse hk
  exact hk.elim
 exact hk.elim
end
def Pp (H H':A9):∀ (w:List (Nat × Ae)) (b:Nat),(H b=H' b\/b∈w.map (·.1))->Am H w b=Am H' w b
 | [],b,h=>cJ
 | (i,x)::r,b,h=>by
   rw[Am,Am];refine Pp _ _ r b ?_;by_cases hb:b=i;·exact .inl kK
   rcases h with h | h
   ·exact .inl (by simp[hb,h])
   simp[hb] at h;exact .inr ji
def KP (P:Program) (H:List Ae) (ts:Array TypeId) (s x:AV) (k:Eff->Prop):Prop :=
 match s with
 | .lsl b sz 0 n=>match H[b]? with
   | some (.row false cells)=>(match x with | .lsl b' _ _ _=>b'≠b | _=>True)/\C5 P (H.set b (.row false (cells.take (n*sz)))) ts s x k
   | some (.box cells)=>(match x with | .lsl b' _ _ _=>b'≠b | _=>True)/\C5 P (H.set b (.box (cells.take (n*sz)))) ts s x k
   | _=>False
 | _=>False
def U4 {P:Program} {H:List Ae} {ts:Array TypeId} {b sz n:Nat} {x:AV} {k:Eff->Prop} (hk:C5 P H ts (.lsl b sz 0 n) x k) :
  C5 P H ts (.lsl b sz 0 n) x (fun e=>k e/\b∈e.w.map (·.1)/\b∈e.r):=by
 unfold C5 at hk ⊢;split at hk
 ·rename_i t t' hts;split at hk
  ·rename_i e te hse;split at hk
   ·rename_i m ds ids hsrc;obtain ⟨k1,k2,k3,hk⟩:=hk;simp only at hk;refine ⟨k1,k2,k3,?_⟩;simp only;split at hk;·rename_i fz cells hb;obtain ⟨c1,c2,c3,c4,c5⟩:=hk;exact ⟨c1,c2,c3,c4,c5,lC,lC⟩
    exact hk.elim
   unfold FL at hk ⊢;split at hk
   ·rename_i b' sz' m;split at hk
    ·rename_i xs hb';obtain ⟨k1,k2,k3,k4,k5,hk⟩:=hk;refine ⟨k1,k2,k3,k4,k5,?_⟩;simp only at hk ⊢;split at hk;·obtain ⟨c1,c2,c3,c4,c5,c6⟩:=hk;exact ⟨c1,c2,c3,c4,c5,c6,lC,lC⟩
     ·obtain ⟨c1,c2,c3,c4,c6⟩:=hk;exact ⟨c1,c2,c3,c4,c6,lC,lC⟩
     exact hk.elim
    exact hk.elim
   exact hk.elim
  exact hk.elim
 exact hk.elim
def U3 {P:Program} {G:Ah} {o:Oper} {ev:Operand->AV} {H:List Ae} {ts:Array TypeId} {s x:Operand} {k:Eff->Prop} (ho:o.op=.call {callee:=.builtin .append,args:=#[s,x],argTypes:=ts})
  (hk:KP P H ts (ev s) (ev x) k):∃ e,Aj P G o ev (hp H) e/\k e:=by
 unfold KP at hk;split at hk
 ·rename_i b sz n hsv;have go:∀ blk blk':Ae,H[b]?=some blk->blk≠.dead->(∀ (h:Held) (ρ:Place) (w:World),GO h ρ w b blk->GO h ρ w b blk')->C5 P (H.set b blk') ts (.lsl b sz 0 n) (ev x) k->∃ e,Aj P G o ev (hp H) e/\k e:=by
   intro blk blk' hb hnd hconv hk;have hk2:=U4 hk;rw[<-hsv] at hk2;obtain ⟨e,hop,hke,hw,hr0⟩:=Hi (P:=P) (G:=G) (ev:=ev) ho hk2;refine ⟨e,?_,hke⟩;intro h ρ H' a w hs hops hr;have hbl:b<H.length:=(AbY.1 hb).1;have hbb:H' b=some blk:=(by rw[hr b hr0];exact hb)
   have hblk:=hs.blk b _ hbb;have hs2:=hs.reblk b ⟨_,hbb,hnd⟩ blk' (hconv h ρ w hblk);have hq:=hop h ρ _ a w hs2 hops (fun c hc=>by
    by_cases hcb:c=b;·subst hcb;simp[Am,hp,hbl]
    simp only[Am,if_neg hcb,hp];rw[List.getElem?_set_ne (fun e=>hcb e.symm)];exact hr c hc)
   have e1:Am (Am H' [(b,blk')]) e.w=Am H' e.w:=by
    funext c;refine Pp _ _ e.w c ?_;by_cases hcb:c=b;·exact .inr (hcb▸hw)
    exact .inl (by simp[Am,hcb])
   rw[e1] at hq;exact hq
  split at hk
  ·rename_i cells hb;obtain ⟨_,hk⟩:=hk;rw[hsv] at hk;refine go _ _ hb lC (fun h ρ w hblk=>?_) hk;obtain ⟨o1,o2⟩:=hblk;refine ⟨fun j x hx=>?_,?_⟩
   ·rw[Aeu] at hx;split at hx;·exact o1 j x hx
    cases hx
   rcases o2 with ⟨p1,p2⟩ | ⟨g,S,c,E,fr,b1,b2,b3,b4,b5,b6,b7,b8⟩
   ·exact .inl ⟨p1,by rw[p2];simp⟩
   refine .inr ⟨g,S,c,E,fr,b1,b2,b3,b4,by rw[AgD];omega,fun j x v hx hv=>?_,(fun f=>by cases f),fun j _=>b8 j (fun f=>by cases f)⟩;rw[Aeu] at hx;split at hx;·exact b6 j x v hx hv
   cases hx
  ·rename_i cells hb;obtain ⟨_,hk⟩:=hk;rw[hsv] at hk;refine go _ _ hb lC (fun h ρ w hblk=>?_) hk;obtain ⟨g,S,c,E,fr,b1,b2,b3,b4,b5,b6,b7⟩:=hblk;refine ⟨g,S,c,E,fr,b1,b2,b3,b4,by rw[AgD];omega,fun j x v hx hv=>?_,b7⟩;rw[Aeu] at hx;split at hx;·exact b6 j x v hx hv
   cases hx
  exact hk.elim
 exact hk.elim
end Go.Abs
namespace Go.Abs
open Go
def CH (op:BinOp) (k:IntKind) (x y:Int):Int :=
 let a:=BitVec.ofInt k.bits x
 let b:=BitVec.ofInt k.bits y
 match op with
 | .and=>k.wrap (a &&& b).toNat
 | .or=>k.wrap (a ||| b).toNat
 | .xor=>k.wrap (a ^^^ b).toNat
 | _=>k.wrap (a &&& ~~~b).toNat
def YS (op:BinOp) (k:IntKind) (a b:Int) (K:D->Prop):Prop :=
 match op with
 | .add=>K (.int k (k.wrap (a+b)))
 | .sub=>K (.int k (k.wrap (a-b)))
 | .mul=>K (.int k (k.wrap (a*b)))
 | .quo=>b≠0/\K (.int k (k.wrap (a.tdiv b)))
 | .rem=>b≠0/\K (.int k (a.tmod b))
 | .and=>K (.int k (CH .and k a b))
 | .or=>K (.int k (CH .or k a b))
 | .xor=>K (.int k (CH .xor k a b))
 | .andNot=>K (.int k (CH .andNot k a b))
 | .eql=>K (.bool (a == b))
 | .neq=>K (.bool (a != b))
 | .lss=>K (.bool (decide (a<b)))
 | .leq=>K (.bool (decide (a<=b)))
 | .gtr=>K (.bool (decide (b<a)))
 | .geq=>K (.bool (decide (b<=a)))
 | _=>False
def Z2 (op:BinOp) (a b:ByteArray) (K:D->Prop):Prop :=
 match op with
 | .add=>a.size+b.size<=9223372036854775807/\K (.str (a++b))
 | .eql=>K (.bool (a.toList == b.toList))
 | .neq=>K (.bool (!(a.toList == b.toList)))
 | .lss=>K (.bool (Op.bytesLess a.toList b.toList))
 | .leq=>K (.bool (Op.bytesLess a.toList b.toList || a.toList == b.toList))
 | .gtr=>K (.bool (!(Op.bytesLess a.toList b.toList || a.toList == b.toList)))
 | .geq=>K (.bool (!(Op.bytesLess a.toList b.toList)))
 | _=>False
def K9 (op:BinOp) (k:IntKind) (a b:Int) (K:D->Prop):Prop :=
 match op with
 | .shl=>0<=b/\K (.int k (k.wrap (a*2^min b.toNat k.bits)))
 | .shr=>0<=b/\K (.int k (a.fdiv (2^min b.toNat k.bits)))
 | _=>False
def BU:BinOp->Bool
 | .shl | .shr=>true
 | _=>false
def M3 (P:Program) (t:Nat):Bool :=
 match AZ P t with
 | some ti=>match ti.k with | .bool=>true | _=>false
 | none=>false
def Hv:List Nat->List D->List D->Option Bool
 | [],_,_=>some true
 | 0::ks,.int ka a::r,.int kb b::s=>if ka=kb then (match Hv ks r s with | some q=>some ((a == b) && q) | none=>none) else none
 | 1::ks,.str a::r,.str b::s=>match Hv ks r s with | some q=>some ((a.toList == b.toList) && q) | none=>none
 | 2::ks,.bool a::r,.bool b::s=>match Hv ks r s with | some q=>some ((a == b) && q) | none=>none
 | _,_,_=>none
def ID:List AV->Option (List D)
 | []=>some []
 | .d x::r=>match ID r with | some l=>some (x::l) | none=>none
 | _::_=>none
def EZ:AV->Option (List D)
 | .d (.agg cs)=>some cs
 | .agg cs=>ID cs
 | _=>none
def WN (_:Program) (_:BinOp) (_:Nat) (_ _:AV) (_:Eff->Prop):Prop:=False
def Ac6 (P:Program) (op:BinOp) (t:Nat) (x y:AV) (k:Eff->Prop):Prop :=
 match x,y with
 | .d (.int ka a),.d (.int kb b)=>if BU op then K9 op ka a b (fun d=>k ⟨.d d,[],[]⟩) else ka=kb/\YS op ka a b (fun d=>k ⟨.d d,[],[]⟩)
 | .d (.str a),.d (.str b)=>Z2 op a b (fun d=>k ⟨.d d,[],[]⟩)
 | .d (.bool a),.d (.bool b)=>M3 P t=true/\match op with
   | .eql=>k ⟨.d (.bool (a == b)),[],[]⟩
   | .neq=>k ⟨.d (.bool (!(a == b))),[],[]⟩
   | _=>False
 | x,y=>WN P op t x y k
section
variable {P:Program} {G:Ah} {o:Oper} {ev:Operand->AV} {H:List Ae}
def AcH {op:BinOp} {kk:IntKind} {a b:Int} {K:D->Prop} (t:Nat) (hn:BU op=false) (h:YS op kk a b K) :
  ∃ d,K d/\∃ v,(∀ w:World,(binOp op t (.int kk a) (.int kk b)).run P w=.ok v w)/\∀ hh:Held,RD hh v d:=by
 cases op<;>simp only[YS] at h;case add=>exact ⟨_,h,.int kk (kk.wrap (a+b)),fun w=>gd,fun _=>.int _ _⟩
 case sub=>exact ⟨_,h,.int kk (kk.wrap (a-b)),fun w=>gd,fun _=>.int _ _⟩
 case mul=>exact ⟨_,h,.int kk (kk.wrap (a*b)),fun w=>gd,fun _=>.int _ _⟩
 case quo=>exact ⟨_,h.2,.int kk (kk.wrap (a.tdiv b)),fun w=>fJ,fun _=>.int _ _⟩
 case rem=>exact ⟨_,h.2,.int kk (a.tmod b),fun w=>fJ,fun _=>.int _ _⟩
 case and=>exact ⟨_,h,.int kk (CH .and kk a b),fun w=>fK,fun _=>.int _ _⟩
 case or=>exact ⟨_,h,.int kk (CH .or kk a b),fun w=>fK,fun _=>.int _ _⟩
 case xor=>exact ⟨_,h,.int kk (CH .xor kk a b),fun w=>fK,fun _=>.int _ _⟩
 case andNot=>exact ⟨_,h,.int kk (CH .andNot kk a b),fun w=>fK,fun _=>.int _ _⟩
 case eql=>exact ⟨_,h,.bool (a == b),fun w=>gx,fun _=>.bool _⟩
 case neq=>exact ⟨_,h,.bool (a != b),fun w=>gx,fun _=>.bool _⟩
 case lss=>exact ⟨_,h,.bool (decide (a<b)),fun w=>gx,fun _=>.bool _⟩
 case leq=>exact ⟨_,h,.bool (decide (a<=b)),fun w=>gx,fun _=>.bool _⟩
 case gtr=>exact ⟨_,h,.bool (decide (b<a)),fun w=>gx,fun _=>.bool _⟩
 case geq=>exact ⟨_,h,.bool (decide (b<=a)),fun w=>gx,fun _=>.bool _⟩
def Ym {op:BinOp} {kk kb:IntKind} {a b:Int} {K:D->Prop} (t:Nat) (h:K9 op kk a b K) :
  ∃ d,K d/\∃ v,(∀ w:World,(binOp op t (.int kk a) (.int kb b)).run P w=.ok v w)/\∀ hh:Held,RD hh v d:=by
 unfold K9 at h;split at h;·exact ⟨_,h.2,.int kk (kk.wrap (a*2^min b.toNat kk.bits)),fun w=>bE,fun _=>.int _ _⟩
 ·exact ⟨_,h.2,.int kk (a.fdiv (2^min b.toNat kk.bits)),fun w=>bE,fun _=>.int _ _⟩
 exact h.elim
def Ace {op:BinOp} {a b:ByteArray} {K:D->Prop} (t:Nat) (h:Z2 op a b K) :
  ∃ d,K d/\∃ v,(∀ w:World,(binOp op t (.string a) (.string b)).run P w=.ok v w)/\∀ hh:Held,RD hh v d:=by
 unfold Z2 at h;split at h
 ·exact ⟨_,h.2,.string (a++b),fun w=>by
   have:=h.1;have h':¬(9223372036854775807<((a.size:Int)+(b.size:Int))):=lA
   simp[binOp,Op.stringOp,h'],fun _=>.str _⟩
 ·exact ⟨_,h,.bool (a.toList == b.toList),fun w=>gh,fun _=>.bool _⟩
 ·exact ⟨_,h,.bool (!(a.toList == b.toList)),fun w=>gh,fun _=>.bool _⟩
 ·exact ⟨_,h,.bool (Op.bytesLess a.toList b.toList),fun w=>gh,fun _=>.bool _⟩
 ·exact ⟨_,h,.bool (Op.bytesLess a.toList b.toList || a.toList == b.toList),fun w=>gh,fun _=>.bool _⟩
 ·exact ⟨_,h,.bool (!(Op.bytesLess a.toList b.toList || a.toList == b.toList)),fun w=>gh,fun _=>.bool _⟩
 ·exact ⟨_,h,.bool (!(Op.bytesLess a.toList b.toList)),fun w=>gh,fun _=>.bool _⟩
 exact h.elim
def Zr {op:BinOp} {t yt:Nat} {x y:Operand} {k:Eff->Prop} (ho:o.op=.binOp op t x y yt) (hk:WN P op t (ev x) (ev y) k):∃ e,Aj P G o ev (hp H) e/\k e:=False.elim hk
def Ac5 {op:BinOp} {t yt:Nat} {x y:Operand} {k:Eff->Prop} (ho:o.op=.binOp op t x y yt) (hk:Ac6 P op t (ev x) (ev y) k):∃ e,Aj P G o ev (hp H) e/\k e:=by
 have mx:x∈o.op.operands.toList:=gG
 have my:y∈o.op.operands.toList:=gG
 unfold Ac6 at hk;split at hk
 ·rename_i ka a kb b hx hy;have fin:∀ d:D,(∃ v,(∀ w:World,(binOp op t (.int ka a) (.int kb b)).run P w=.ok v w)/\∀ hh:Held,RD hh v d)->Aj P G o ev (hp H) ⟨.d d,[],[]⟩:=by
   rintro d ⟨v,h1,h2⟩;refine Aj.val fun h ρ H' a' w hs hops hr=>⟨v,?_,.d _ _ (h2 h)⟩;have e1:=(hx▸hops x mx).int_inv;have e2:=(hy▸hops y my).int_inv;have hg:(eqGuard op t x y (.int ka a) (.int kb b)).run P w=.ok () w:=(by cases op<;>rfl)
   simp[execOp,ho,e1,e2,hg,h1 w]
  split at hk;·obtain ⟨d,hd,hv⟩:=Ym (P:=P) (kb:=kb) t hk;exact ⟨_,fin d hv,hd⟩
  rename_i hsh;obtain ⟨hab,hk⟩:=hk;subst hab;obtain ⟨d,hd,hv⟩:=AcH (P:=P) t (by simpa using hsh) hk;exact ⟨_,fin d hv,hd⟩
 ·rename_i a b hx hy;obtain ⟨d,hd,v,h1,h2⟩:=Ace (P:=P) t hk;refine ⟨_,Aj.val fun h ρ H' a' w hs hops hr=>⟨v,?_,.d _ _ (h2 h)⟩,hd⟩;have e1:=(hx▸hops x mx).str_inv;have e2:=(hy▸hops y my).str_inv;have hg:(eqGuard op t x y (.string a) (.string b)).run P w=.ok () w:=by cases op<;>rfl
  simp[execOp,ho,e1,e2,hg,h1 w]
 ·rename_i a b hx hy;obtain ⟨ht,hk⟩:=hk;have hu:P.underlying t=some .bool:=by
   unfold M3 at ht;split at ht
   ·rename_i ti hti;obtain ⟨i,u,z,h1,h2,h3,h4,_⟩:=AO hti;split at ht;·rename_i hkb;rw[hkb] at h4;cases u<;>simp[Hl] at h4;exact h2
    cases ht
   cases ht
  split at hk;·refine ⟨_,Aj.val fun h ρ H' a' w hs hops hr=>⟨.bool (a == b),?_,.d _ _ (.bool _)⟩,hk⟩;have e1:=(hx▸hops x mx).bool_inv;have e2:=(hy▸hops y my).bool_inv;have hg:(eqGuard .eql t x y (.bool a) (.bool b)).run P w=.ok () w:=rfl;simp[execOp,ho,e1,e2,hg,run_eql_bool w t a b hu]
  ·refine ⟨_,Aj.val fun h ρ H' a' w hs hops hr=>⟨.bool (!(a == b)),?_,.d _ _ (.bool _)⟩,hk⟩;have e1:=(hx▸hops x mx).bool_inv;have e2:=(hy▸hops y my).bool_inv;have hg:(eqGuard .neq t x y (.bool a) (.bool b)).run P w=.ok () w:=rfl;simp[execOp,ho,e1,e2,hg,run_neq_bool w t a b hu]
  exact hk.elim
 exact Zr ho hk
def unK (op:UnOp) (x:AV) (k:Eff->Prop):Prop :=
 match op,x with
 | .neg,.d (.int kk n)=>k ⟨.d (.int kk (kk.wrap (0-n))),[],[]⟩
 | .xor,.d (.int kk n)=>k ⟨.d (.int kk (CH .xor kk (if kk.signed then -1 else kk.max) n)),[],[]⟩
 | .not,.d (.bool b)=>k ⟨.d (.bool (!b)),[],[]⟩
 | _,_=>False
def AdE {op:UnOp} {t:Nat} {x:Operand} {k:Eff->Prop} (ho:o.op=.unOp op t x) (hk:unK op (ev x) k):∃ e,Aj P G o ev (hp H) e/\k e:=by
 have mx:x∈o.op.operands.toList:=gG
 unfold unK at hk;split at hk;·rename_i kk n hx;refine ⟨_,Aj.val fun h ρ H' a' w hs hops hr=>⟨.int kk (kk.wrap (0-n)),?_,.d _ _ (.int _ _)⟩,hk⟩;simp[execOp,ho,(hx▸hops x mx).int_inv,Op.unary,Op.intArith]
 ·rename_i kk n hx;refine ⟨_,Aj.val fun h ρ H' a' w hs hops hr=>⟨.int kk (CH .xor kk (if kk.signed then -1 else kk.max) n),?_,.d _ _ (.int _ _)⟩,hk⟩;simp[execOp,ho,(hx▸hops x mx).int_inv,Op.unary,Op.intBits,CH]
 ·rename_i b hx;refine ⟨_,Aj.val fun h ρ H' a' w hs hops hr=>⟨.bool (!b),?_,.d _ _ (.bool _)⟩,hk⟩;simp[execOp,ho,(hx▸hops x mx).bool_inv,Op.unary]
 exact hk.elim
def I0 (x:AV) (k:Eff->Prop):Prop :=
 match x with
 | .ptr b off=>k ⟨.ptr b off,[],[]⟩
 | .rptr off cs=>k ⟨.rptr off cs,[],[]⟩
 | .fn (.func f) a b=>k ⟨.fn (.func f) a b,[],[]⟩
 | .d (.fn (.func f) a b)=>k ⟨.d (.fn (.func f) a b),[],[]⟩
 | _=>False
def Sr {x:Operand} {k:Eff->Prop} (ho:o.op=.nilCheck x) (hk:I0 (ev x) k):∃ e,Aj P G o ev (hp H) e/\k e:=by
 have mx:x∈o.op.operands.toList:=gG
 have fin:(∀ (h:Held) (ρ:Place) (v:Value),R h ρ v (ev x)->(execOp (fun _=>v) o=pure (.value v)))->Aj P G o ev (hp H) ⟨ev x,[],[]⟩:=by intro hf;refine Aj.val fun h ρ H' a' w hs hops hr=>⟨a'.eval x,?_,hops x mx⟩;have:=hf h ρ (a'.eval x) (hops x mx);simp only[execOp,ho] at this ⊢;rw[this];rfl
 unfold I0 at hk;split at hk<;>rename_i hx;·refine ⟨_,fin fun h ρ v hv=>?_,hx▸hk⟩;rw[hx] at hv;cases hv;simp[execOp,ho]
 ·exact o8
 ·exact o8
 ·refine ⟨_,fin fun h ρ v hv=>?_,hx▸hk⟩;rw[hx] at hv;cases hv with | d _ _ hd=>cases hd;simp[execOp,ho]
 exact hk.elim
def R4 {fn:Fn} {a b:Array Operand} {h0:A9} (ho:o.op=.makeFunc fn a b):Aj P G o ev h0 ⟨.fn fn (a.toList.map ev) (b.toList.map ev),[],[]⟩:=by
 refine Aj.val fun h ρ H' act w hs hops _=>⟨.func fn (a.map act.eval) (b.map act.eval),?_,.fn _ _ _ _ _ lC lC (fun i v x hv hx=>?_) (fun i v x hv hx=>?_)⟩;·simp[execOp,ho,Instr.makeFunc]
 ·simp only[AfZ] at hv;simp only[Aen,Af1] at hx;cases hc:a[i]? with
  | none=>simp[hc] at hv
  | some z =>simp[hc] at hv hx;subst hv;subst hx;exact hops z (by simp[Op.operands,ho];exact .inl (AgH hc))
 simp only[AfZ] at hv;simp only[Aen,Af1] at hx;cases hc:b[i]? with
 | none=>simp[hc] at hv
 | some z =>simp[hc] at hv hx;subst hv;subst hx;exact hops z (by simp[Op.operands,ho];exact .inr (AgH hc))
def KA (x:AV) (i:Nat) (k:Eff->Prop):Prop :=
 match x with
 | .tup vs=>i<vs.length/\k ⟨vs.getD i .undef,[],[]⟩
 | .d (.tup vs)=>i<vs.length/\k ⟨.d (vs.getD i .nilp),[],[]⟩
 | _=>False
def UI {x:Operand} {i:Nat} {k:Eff->Prop} (ho:o.op=.extract x i) (hk:KA (ev x) i k):∃ e,Aj P G o ev (hp H) e/\k e:=by
 have mx:x∈o.op.operands.toList:=gG
 unfold KA at hk;split at hk
 ·rename_i vs hx;refine ⟨_,Aj.val fun h ρ H' a' w hs hops hr=>?_,hk.2⟩;have hv:=hx▸hops x mx;generalize he:a'.eval x=v at hv;cases hv with
  | tup us _ hl hrr =>
   have hi:i<us.size:=(by rw[hl];exact hk.1);refine ⟨us[i],?_,?_⟩;·simp[execOp,ho,he,Instr.extract,Aeg hi]
   simp only[AeB,AbZ hk.1,AgE];exact hrr i _ _ (Aeg hi) (AbZ hk.1)
 ·rename_i vs hx;refine ⟨_,Aj.val fun h ρ H' a' w hs hops hr=>?_,hk.2⟩;have hv:=hx▸hops x mx;generalize he:a'.eval x=v at hv;cases hv with
  | d _ _ hd=>cases hd with
    | tup us _ hl hrr =>
     have hi:i<us.size:=(by rw[hl];exact hk.1);refine ⟨us[i],?_,?_⟩;·simp[execOp,ho,he,Instr.extract,Aeg hi]
     simp only[AeB,AbZ hk.1,AgE];exact .d _ _ (hrr i _ _ (Aeg hi) (AbZ hk.1))
 exact hk.elim
end
end Go.Abs
namespace Go.Abs
open Go
def AL (P:Program) (t f:Nat):Option (Nat × Nat × Nat) :=
 match AZ P t with
 | some ti=>match ti.k with
   | .struct fs=>fs[f]?
   | _=>none
 | none=>none
def RV {P:Program} {t f off ty sz:Nat} (h:AL P t f=some (off,ty,sz)) :
  ∃ fields:Array Field,P.underlying t=some (.struct fields)/\∃ fl,fields[f]?=some fl/\fl.offset=off/\fl.type=ty/\((P.info? ty).map (·.size)).getD 0=sz:=by
 unfold AL at h;split at h
 ·rename_i ti ht;obtain ⟨i,u,z,h1,h2,h3,h4,_⟩:=AO ht;split at h
  ·rename_i fs hfs;rw[hfs] at h4;cases u<;>simp[Hl] at h4;rename_i fields;refine ⟨fields,h2,?_⟩;subst h4;simp only[Aen,Af1] at h;cases hc:fields[f]? with
   | none=>simp[hc] at h
   | some fl =>simp[hc] at h;obtain ⟨rfl,rfl,rfl⟩:=h;exact ⟨fl,rfl,rfl,rfl,rfl⟩
  cases h
 cases h
def Hb (P:Program) (t:Nat) (x:AV) (f:Nat) (k:Eff->Prop):Prop :=
 match AL P t f with
 | some (o,_,sz)=>0<sz/\match x with
   | .ptr b off=>k ⟨.ptr b (off+o),[],[]⟩
   | .rptr off cs=>k ⟨.rptr (off+o) cs,[],[]⟩
   | _=>False
 | none=>False
def VY (P:Program) (ty off:Nat) (cs:List AV) (k:Eff->Prop):Prop :=
 match AZ P ty with
 | some ti=>if Cg ti.k then k ⟨.agg ((cs.drop off).take ti.size),[],[]⟩ else off<cs.length/\k ⟨cs.getD off .undef,[],[]⟩
 | none=>False
def Aaq (P:Program) (ty off:Nat) (cs:List D) (k:Eff->Prop):Prop :=
 match AZ P ty with
 | some ti=>if Cg ti.k then k ⟨.d (.agg ((cs.drop off).take ti.size)),[],[]⟩ else off<cs.length/\k ⟨.d (cs.getD off .nilp),[],[]⟩
 | none=>False
def fieldK (P:Program) (t:Nat) (x:AV) (f:Nat) (k:Eff->Prop):Prop:=False
def EY (P:Program) (t:Nat):Option (Nat × Nat × Nat) :=
 match AZ P t with
 | some ti=>match ti.k with
   | .array n e=>match AZ P e with
     | some te=>some (n,e,te.size)
     | none=>none
   | _=>none
 | none=>none
def ER {P:Program} {t n e sz:Nat} (h:EY P t=some (n,e,sz)):P.underlying t=some (.array n e)/\∃ te,AZ P e=some te/\te.size=sz:=by
 unfold EY at h;split at h
 ·rename_i ti ht;obtain ⟨i,u,z,h1,h2,h3,h4,_⟩:=AO ht;split at h
  ·rename_i n' e' hk;split at h;·rename_i te hte;cases h;rw[hk] at h4;cases u<;>simp[Hl] at h4;obtain ⟨rfl,rfl⟩:=h4;exact ⟨h2,te,hte,rfl⟩
   cases h
  cases h
 cases h
def G9 (P:Program) (t:Nat) (x i:AV) (k:Eff->Prop):Prop :=
 match i with
 | .d (.int _ i)=>match Aq P t with
   | some (_,te)=>match x with
     | .lsl b sz off n=>sz=te.size/\0<=i/\i<n/\k ⟨.ptr b (off+i.toNat*sz),[],[]⟩
     | .d (.sl n _ cs)=>0<=i/\i<n/\k ⟨.rptr (i.toNat*te.size) cs,[],[]⟩
     | _=>False
   | none=>match EY P t with
     | some (n,_,sz)=>0<=i/\i<n/\match x with
       | .ptr b off=>k ⟨.ptr b (off+i.toNat*sz),[],[]⟩
       | .rptr off cs=>k ⟨.rptr (off+i.toNat*sz) cs,[],[]⟩
       | _=>False
     | none=>False
 | _=>False
def Dy (P:Program) (t:Nat):Bool :=
 match AZ P t with
 | some ti=>match ti.k with | .string=>true | _=>false
 | none=>false
def Cw {P:Program} {t:Nat} (h:Dy P t=true):P.underlying t=some .string:=by
 unfold Dy at h;split at h
 ·rename_i ti ht;obtain ⟨i,u,z,h1,h2,h3,h4,_⟩:=AO ht;split at h;·rename_i hk;rw[hk] at h4;cases u<;>simp[Hl] at h4;exact h2
  cases h
 cases h
def Iz (s:ByteArray) (i:Nat):Int:=((s.data.toList.getD i 0).toNat:Int)
def Sx (P:Program) (t:Nat) (x i:AV) (k:Eff->Prop):Prop :=
 match i with
 | .d (.int _ i)=>match x with
   | .d (.str s)=>Dy P t=true/\0<=i/\i<s.size/\k ⟨.d (.int .u8 (Iz s i.toNat)),[],[]⟩
   | .agg cs=>match EY P t with
     | some (n,e,sz)=>0<=i/\i<n/\VY P e (i.toNat*sz) cs k
     | none=>False
   | .d (.agg cs)=>match EY P t with
     | some (n,e,sz)=>0<=i/\i<n/\Aaq P e (i.toNat*sz) cs k
     | none=>False
   | _=>False
 | _=>False
section
variable {P:Program} {G:Ah} {o:Oper} {ev:Operand->AV} {H:List Ae}
def Pf {t f:Nat} {x:Operand} {k:Eff->Prop} (ho:o.op=.fieldAddr t x f) (hk:Hb P t (ev x) f k):∃ e,Aj P G o ev (hp H) e/\k e:=by
 have mx:x∈o.op.operands.toList:=gG
 unfold Hb at hk;split at hk
 ·rename_i fo ty sz hf;obtain ⟨fields,hu,fl,h1,h2,h3,h4⟩:=RV hf;obtain ⟨hsz,hk⟩:=hk;have hsize:∀ w:World,(sizeOf fl.type).run P w=.ok sz w:=by
   intro w;rw[h3];cases hi:P.info? ty with
   | none=>simp[hi] at h4;omega
   | some i=>simp[hi] at h4;simp[sizeOf,typeInfo,hi,h4]
  have run:∀ (w:World) (g off:Nat),(Instr.fieldAt t (.pointer (some ⟨g,off,none⟩)) f).run P w=.ok (.pointer (some ⟨g,off+fo,none⟩)) w:=by
   intro w g off;have hne:sz≠0:=lA
   simp[Instr.fieldAt,run_underlying hu,h1,Instr.sureAddr,fieldPlace,hsize,hne,h2,Addr.add_lit]
  split at hk;·rename_i b off hx;refine ⟨_,Aj.val fun h ρ H' a' w hs hops hr=>?_,hk⟩;obtain ⟨g,S,e1,e2⟩:=(hx▸hops x mx).ptr_inv;exact ⟨_,by simp[execOp,ho,e1,run w g off],.ptr b _ g S e2⟩
  ·rename_i off cs hx;refine ⟨_,Aj.val fun h ρ H' a' w hs hops hr=>?_,hk⟩;have hv:=hx▸hops x mx;generalize he:a'.eval x=v at hv;cases hv with
   | rptr g base _ _ vs q1 q2 =>exact ⟨.pointer (some ⟨g,base+(off+fo),none⟩),by simp[execOp,ho,he,run w g (base+off),Agz],.rptr g base _ cs vs q1 q2⟩
  exact hk.elim
 exact hk.elim
def TJ {w:World} {ty:Nat} {ti:TI} (ht:AZ P ty=some ti) (cs:Array Value) (off:Nat) (hb:Cg ti.k=false->off<cs.size) :
  (part ty cs off).run P w=.ok (if Cg ti.k then .agg (cs.extract off (off+ti.size)) else cs.getD off undef) w:=by
 simp only[part,Sem.run_bind,PB ht,Result.andThen_ok];cases ha:Cg ti.k;·have:=hb ha;simp[Aeg this]
 simp[run_sizeOf ht]
def YC {h:Held} {ρ:Place} {us:Array Value} {cs:List AV} (r:RL h ρ us cs) {ti:TI} {off:Nat} (hb:Cg ti.k=false->off<cs.length) :
  R h ρ (if Cg ti.k then .agg (us.extract off (off+ti.size)) else us.getD off undef) (if Cg ti.k then .agg ((cs.drop off).take ti.size) else cs.getD off .undef):=by
 cases ha:Cg ti.k
 ·have h1:=hb ha;have h2:off<us.size:=by rw[r.1];exact h1
  simp[AbZ h1,Aeg h2];exact r.2 off _ _ (Aeg h2) (AbZ h1)
 simp only[if_true];refine .agg _ _ ?_ (fun i v x hv hx=>?_);·have:=r.1;simp;omega
 rw[Aeu] at hx;split at hx
 ·rw[AfI] at hx;rw[AgF] at hv;split at hv;·exact r.2 _ v x hv hx
  cases hv
 cases hx
def Aap {h:Held} {us:Array Value} {cs:List D} (hl:us.size=cs.length) (r:∀ (i:Nat) v x,us[i]?=some v->cs[i]?=some x->RD h v x) {ti:TI} {off:Nat} (hb:Cg ti.k=false->off<cs.length) :
  RD h (if Cg ti.k then .agg (us.extract off (off+ti.size)) else us.getD off undef) (if Cg ti.k then .agg ((cs.drop off).take ti.size) else cs.getD off .nilp):=by
 cases ha:Cg ti.k
 ·have h1:=hb ha;have h2:off<us.size:=by rw[hl];exact h1
  simp[AbZ h1,Aeg h2];exact r off _ _ (Aeg h2) (AbZ h1)
 simp only[if_true];refine .agg _ _ ?_ (fun i v x hv hx=>?_);·simp;omega
 rw[Aeu] at hx;split at hx
 ·rw[AfI] at hx;rw[AgF] at hv;split at hv;·exact r _ v x hv hx
  cases hv
 cases hx
def T7 {ty off:Nat} {x:Operand} (mx:x∈o.op.operands.toList) {k:Eff->Prop}
  (hrun:∀ (a:Act) (w:World) (us:Array Value) (v:Value),a.eval x=.agg us->(∀ y,y∈o.op.operands.toList->∃ (h:Held) (ρ:Place),R h ρ (a.eval y) (ev y))->(part ty us off).run P w=.ok v w->(execOp a.eval o).run P w=.ok (.value v) w) :
  (∀ cs,ev x=.agg cs->VY P ty off cs k->∃ e,Aj P G o ev (hp H) e/\k e)/\(∀ cs,ev x=.d (.agg cs)->Aaq P ty off cs k->∃ e,Aj P G o ev (hp H) e/\k e):=by
 constructor
 ·intro cs hx hk;unfold VY at hk;split at hk
  ·rename_i ti ht;have key:(Cg ti.k=false->off<cs.length)->Aj P G o ev (hp H) ⟨if Cg ti.k then .agg ((cs.drop off).take ti.size) else cs.getD off .undef,[],[]⟩:=by
    intro hb;refine Aj.val fun h ρ H' a' w hs hops hr=>?_;have hv:=hx▸hops x mx;generalize he:a'.eval x=v at hv;cases hv with
    | agg us _ hl hrr =>exact ⟨_,hrun a' w us _ he (fun y hy=>⟨h,ρ,hops y hy⟩) (TJ ht us off (fun hf=>by rw[hl];exact hb hf)),YC ⟨hl,hrr⟩ hb⟩
   cases ha:Cg ti.k<;>simp only[ha,if_true,if_false,AgL] at hk key;·exact ⟨_,key (fun _=>hk.1),hk.2⟩
   exact ⟨_,key (fun hf=>by cases hf),hk⟩
  exact hk.elim
 intro cs hx hk;unfold Aaq at hk;split at hk
 ·rename_i ti ht;have key:(Cg ti.k=false->off<cs.length)->Aj P G o ev (hp H) ⟨.d (if Cg ti.k then .agg ((cs.drop off).take ti.size) else cs.getD off .nilp),[],[]⟩:=by
   intro hb;refine Aj.val fun h ρ H' a' w hs hops hr=>?_;have hv:=hx▸hops x mx;generalize he:a'.eval x=v at hv;cases hv with
   | d _ _ hd=>cases hd with
     | agg us _ hl hrr =>exact ⟨_,hrun a' w us _ he (fun y hy=>⟨h,ρ,hops y hy⟩) (TJ ht us off (fun hf=>by rw[hl];exact hb hf)),.d _ _ (Aap hl hrr hb)⟩
  cases ha:Cg ti.k<;>simp only[ha,if_true,if_false,AgL] at hk key;·exact ⟨_,key (fun _=>hk.1),hk.2⟩
  exact ⟨_,key (fun hf=>by cases hf),hk⟩
 exact hk.elim
def Y2 {t f:Nat} {x:Operand} {k:Eff->Prop} (ho:o.op=.field t x f) (hk:fieldK P t (ev x) f k):∃ e,Aj P G o ev (hp H) e/\k e:=False.elim hk
def Pd {t:Nat} {x i:Operand} {k:Eff->Prop} (ho:o.op=.indexAddr t x i) (hk:G9 P t (ev x) (ev i) k):∃ e,Aj P G o ev (hp H) e/\k e:=by
 have mx:x∈o.op.operands.toList:=gG
 have mi:i∈o.op.operands.toList:=gG
 unfold G9 at hk;split at hk
 ·rename_i kk iv hi;split at hk
  ·rename_i e te hse;obtain ⟨hu,hte⟩:=AJ hse;have run:∀ (w:World) (g off n cap:Nat),0<=iv->iv<n->(Instr.indexAt t (.slice (some ⟨g,off,none⟩) n cap) (.int kk iv)).run P w=.ok (.pointer (some ⟨g,off+iv.toNat*te.size,none⟩)) w:=by
    intro w g off n cap h0 h1;simp[Instr.indexAt,asIntOf,run_underlying hu,h0,h1,run_sizeOf hte,Addr.add_lit]
   split at hk
   ·rename_i b sz off n hx;obtain ⟨e0,c1,c2,c3⟩:=hk;refine ⟨_,Aj.val fun h ρ H' a' w hs hops hr=>?_,c3⟩;have e2:=(hi▸hops i mi).int_inv;have hv:=hx▸hops x mx;generalize he:a'.eval x=v at hv;cases hv with
    | lsl0=>simp at c2;omega
    | lsl _ _ _ _ cap g S q1 q2 q3 =>exact ⟨.pointer (some ⟨g,off+iv.toNat*te.size,none⟩),bV,by rw[e0];exact .ptr b _ g S q1⟩
   ·rename_i n full cs hx;obtain ⟨c1,c2,c3⟩:=hk;refine ⟨_,Aj.val fun h ρ H' a' w hs hops hr=>?_,c3⟩;have e2:=(hi▸hops i mi).int_inv;have hv:=hx▸hops x mx;generalize he:a'.eval x=v at hv;cases hv with
    | d _ _ hd=>cases hd with
      | sl0=>simp at c2;omega
      | sl g off _ cap _ _ vs q1 q2 q3 q4 q5 =>exact ⟨_,bV,.rptr g off _ cs vs q3 q4⟩
   exact hk.elim
  split at hk
  ·rename_i n e sz hae;obtain ⟨hu,te,hte,hsz⟩:=ER hae;subst hsz;obtain ⟨c1,c2,hk⟩:=hk;have run:∀ (w:World) (g off:Nat),(Instr.indexAt t (.pointer (some ⟨g,off,none⟩)) (.int kk iv)).run P w=.ok (.pointer (some ⟨g,off+iv.toNat*te.size,none⟩)) w:=by
    intro w g off;simp[Instr.indexAt,asIntOf,run_underlying hu,c1,c2,run_sizeOf hte,Addr.add_lit,Instr.sureAddr]
   split at hk;·rename_i b off hx;refine ⟨_,Aj.val fun h ρ H' a' w hs hops hr=>?_,hk⟩;have e2:=(hi▸hops i mi).int_inv;obtain ⟨g,S,e1,e3⟩:=(hx▸hops x mx).ptr_inv;exact ⟨_,by simp[execOp,ho,e1,e2,run w g off],.ptr b _ g S e3⟩
   ·rename_i off cs hx;refine ⟨_,Aj.val fun h ρ H' a' w hs hops hr=>?_,hk⟩;have e2:=(hi▸hops i mi).int_inv;have hv:=hx▸hops x mx;generalize he:a'.eval x=v at hv;cases hv with
    | rptr g base _ _ vs q1 q2 =>exact ⟨.pointer (some ⟨g,base+(off+iv.toNat*te.size),none⟩),by simp[execOp,ho,he,e2,run w g (base+off),Agz],.rptr g base _ cs vs q1 q2⟩
   exact hk.elim
  exact hk.elim
 exact hk.elim
def YT {t:Nat} {x i:Operand} {k:Eff->Prop} (ho:o.op=.index t x i) (hk:Sx P t (ev x) (ev i) k):∃ e,Aj P G o ev (hp H) e/\k e:=by
 have mx:x∈o.op.operands.toList:=gG
 have mi:i∈o.op.operands.toList:=gG
 unfold Sx at hk;split at hk
 ·rename_i kk iv hi;split at hk
  ·rename_i s hx;obtain ⟨c0,c1,c2,c3⟩:=hk;have hu:=Cw c0;refine ⟨_,Aj.val fun h ρ H' a' w hs hops hr=>?_,c3⟩;have e2:=(hi▸hops i mi).int_inv;have e1:=(hx▸hops x mx).str_inv;have hlt:iv.toNat<s.size:=lA
   refine ⟨.int .u8 (Iz s iv.toNat),?_,.d _ _ (.int _ _)⟩;have hb:s[iv.toNat]?=some s[iv.toNat]:=(by simp[hlt])
   have hq:Iz s iv.toNat=((s[iv.toNat]:UInt8).toNat:Int):=by
    unfold Iz;have hl:iv.toNat<s.data.toList.length:=ir
    rw[AeB,AbZ hl];rfl
   simp[execOp,ho,e1,e2,Instr.index,asIntOf,run_underlying hu,c1,hb,hq]
  ·rename_i cs hx;split at hk
   ·rename_i n e sz hae;obtain ⟨hu,te,hte,hsz⟩:=ER hae;subst hsz;obtain ⟨c1,c2,hk⟩:=hk;have pe:=T7 (P:=P) (G:=G) (H:=H) (ev:=ev) (ty:=e) (off:=iv.toNat*te.size) mx (k:=k) (fun a w us v he hr hp=>by
     obtain ⟨h,ρ,hri⟩:=hr i mi;have e2:=(hi▸hri).int_inv;simp[execOp,ho,he,e2,Instr.index,asIntOf,run_underlying hu,c1,c2,run_sizeOf hte,hp])
    exact pe.1 cs hx hk
   exact hk.elim
  ·rename_i cs hx;split at hk
   ·rename_i n e sz hae;obtain ⟨hu,te,hte,hsz⟩:=ER hae;subst hsz;obtain ⟨c1,c2,hk⟩:=hk;have pe:=T7 (P:=P) (G:=G) (H:=H) (ev:=ev) (ty:=e) (off:=iv.toNat*te.size) mx (k:=k) (fun a w us v he hr hp=>by
     obtain ⟨h,ρ,hri⟩:=hr i mi;have e2:=(hi▸hri).int_inv;simp[execOp,ho,he,e2,Instr.index,asIntOf,run_underlying hu,c1,c2,run_sizeOf hte,hp])
    exact pe.2 cs hx hk
   exact hk.elim
  exact hk.elim
 exact hk.elim
end
end Go.Abs
namespace Go.Abs
open Go
def bnd (ev:Operand->AV) (dflt:Int):Option Operand->Option Int
 | none=>some dflt
 | some x=>match ev x with
   | .d (.int _ n)=>some n
   | _=>none
def RZ (P:Program) (H:List Ae) (ev:Operand->AV) (t:Nat) (x:AV) (lo hi mx:Option Operand) (k:Eff->Prop):Prop :=
 match x with
 | .d (.str s)=>match bnd ev 0 lo,bnd ev s.size hi with
   | some l,some h=>Dy P t=true/\mx.isNone=true/\0<=l/\l<=h/\h<=s.size/\k ⟨.d (.str (s.extract l.toNat h.toNat)),[],[]⟩
   | _,_=>False
 | .d (.sl n full cs)=>match Aq P t with
   | some (_,te)=>match mx with
     | none=>match bnd ev 0 lo,bnd ev n hi with
       | some l,some h=>0<=l/\l<=h/\h<=n/\k ⟨.d (.sl (h.toNat-l.toNat) (full && hi.isNone) (cut cs (l.toNat*te.size) ((h.toNat-l.toNat)*te.size))),[],[]⟩
       | _,_=>False
     | some m=>match bnd ev 0 lo,bnd ev n hi,bnd ev 0 (some m) with
       | some l,some h,some m=>hi.isSome=true/\0<=l/\l<=h/\h<=m/\m<=n /\
         k ⟨.d (.sl (h.toNat-l.toNat) (decide (h=m)) (cut cs (l.toNat*te.size) ((h.toNat-l.toNat)*te.size))),[],[]⟩
       | _,_,_=>False
   | none=>False
 | .lsl b sz off n=>match Aq P t with
   | some (_,te)=>sz=te.size/\match mx with
     | none=>match bnd ev 0 lo,bnd ev n hi with
       | some l,some h=>0<=l/\l<=h/\h<=n/\k ⟨.lsl b sz (off+l.toNat*sz) (h.toNat-l.toNat),[],[]⟩
       | _,_=>False
     | some m=>match H[b]? with
       | some (.row _ cs)=>match bnd ev 0 lo,bnd ev n hi,bnd ev 0 (some m) with
         | some l,some h,some m=>hi.isSome=true/\0<=l/\l<=h/\h<=m/\m<=n /\
           k ⟨.d (.sl (h.toNat-l.toNat) (decide (h=m)) (cut cs (off+l.toNat*sz) ((h.toNat-l.toNat)*sz))),frz H [b],[b]⟩
         | _,_,_=>False
       | _=>False
   | none=>False
 | _=>False
def Lu (P:Program) (t:Nat):Option IntKind :=
 match AZ P t with
 | some ti=>match ti.k with | .int k=>some k | _=>none
 | none=>none
def BD (P:Program) (t:Nat):Bool:=(Aq P t).isSome
def AcB (P:Program) (ts:Array TypeId) (x:AV) (k:Eff->Prop):Prop :=
 match ts.toList with
 | [t]=>match x with
   | .d (.str s)=>Dy P t=true/\k ⟨.d (.int .i64 s.size),[],[]⟩
   | .d (.sl n _ _)=>BD P t=true/\k ⟨.d (.int .i64 n),[],[]⟩
   | .lsl _ _ _ n=>BD P t=true/\k ⟨.d (.int .i64 n),[],[]⟩
   | .d .esl=>BD P t=true/\k ⟨.d (.int .i64 0),[],[]⟩
   | .d (.val (.slice _ n _))=>BD P t=true/\k ⟨.d (.int .i64 n),[],[]⟩
   | _=>match EY P t with
     | some (n,_,_)=>k ⟨.d (.int .i64 n),[],[]⟩
     | none=>False
 | _=>False
def mmK (greatest:Bool):List AV->(Eff->Prop)->Prop
 | [.d (.int k a),.d (.int _ b)],K=>K ⟨.d (.int k (if greatest then (if b > a then b else a) else (if b<a then b else a))),[],[]⟩
 | [.d (.int k a),.d (.int _ b),.d (.int _ c)],K =>K ⟨.d (.int k (if greatest then (if c > (if b > a then b else a) then c else (if b > a then b else a)) else (if c<(if b<a then b else a) then c else (if b<a then b else a)))),[],[]⟩
 | _,_=>False
section
variable {P:Program} {G:Ah} {o:Oper} {ev:Operand->AV} {H:List Ae}
def WF {dflt n:Int} {x:Option Operand} {a:Act} {h:Held} {ρ:Place} (hb:bnd ev dflt x=some n) (hr:∀ y,x=some y->R h ρ (a.eval y) (ev y)) :
  (x=none/\n=dflt)\/∃ y kk,x=some y/\a.eval y=.int kk n:=by
 cases x with
 | none=>simp[bnd] at hb;exact .inl ⟨rfl,hb.symm⟩
 | some y =>
  simp only[bnd] at hb;split at hb;·rename_i kk m hy;cases hb;exact .inr ⟨y,kk,rfl,(hy▸hr y rfl).int_inv⟩
  cases hb
def NA (w:World) (kk:IntKind) (n:Int) (y:Nat) (c:BoundsCode) (h0:0<=n) (h1:n<=y):(Instr.sliceBound (.int kk n) y c).run P w=.ok n.toNat w:=by simp[Instr.sliceBound,asIntOf,h0,h1]
def DS {a:Act} {h:Held} {ρ:Place} (w:World) (isS:Bool) (len cap:Nat) (lo hi mx:Option Operand) (l hh m:Int)
  (hl:bnd ev 0 lo=some l) (hH:bnd ev len hi=some hh) (hm:bnd ev cap mx=some m) (hlr:∀ y,lo=some y->R h ρ (a.eval y) (ev y)) (hhr:∀ y,hi=some y->R h ρ (a.eval y) (ev y))
  (hmr:∀ y,mx=some y->R h ρ (a.eval y) (ev y)) (c0:0<=l) (c1:l<=hh) (c2:hh<=m) (c3:m<=cap) (c4:mx.isSome=true->hi.isSome=true) :
  (Instr.sliceBounds isS len cap (lo.map a.eval) (hi.map a.eval) (mx.map a.eval)).run P w=.ok (l.toNat,hh.toNat,m.toNat) w:=by
 have b:∀ (kk:IntKind) (n:Int) (y:Nat) (c:BoundsCode),0<=n->n<=y->(Instr.sliceBound (.int kk n) y c).run P w=.ok n.toNat w:=fun kk n y c=>NA w kk n y c;have t1:((m.toNat:Nat):Int)=m:=lA
 have t2:((hh.toNat:Nat):Int)=hh:=lA
 rcases WF hm hmr with ⟨rfl,rfl⟩ | ⟨ym,km,rfl,em⟩<;>rcases WF hH hhr with ⟨rfl,rfl⟩ | ⟨yh,kh,rfl,eh⟩<;>rcases WF hl hlr with ⟨rfl,rfl⟩ | ⟨yl,kl,rfl,el⟩<;>first
  | (simp at c4;done)
  | (simp only[Instr.sliceBounds,Aeq,AgU,Option.isSome_some,Option.isSome_none,Sem.run_bind,Sem.run_pure,Result.andThen_ok]
     try simp only[em]
     try simp only[eh]
     try simp only[el]
     try rw[b km m cap _ lA lA]
     try simp only[Result.andThen_ok]
     try rw[b kh hh _ _ lA lA]
     try simp only[Result.andThen_ok]
     try rw[b kl l _ _ lA lA]
     simp)
def Yk {t:Nat} {x:Operand} {lo hi mx:Option Operand} {k:Eff->Prop} (ho:o.op=.slice t x lo hi mx) (hk:RZ P H ev t (ev x) lo hi mx k):∃ e,Aj P G o ev (hp H) e/\k e:=by
 have memx:x∈o.op.operands.toList:=gG
 have meml:∀ y,lo=some y->y∈o.op.operands.toList:=dA
 have memh:∀ y,hi=some y->y∈o.op.operands.toList:=dA
 have memm:∀ y,mx=some y->y∈o.op.operands.toList:=dA
 have runS:∀ {e:Nat} {te:TI},Aq P t=some (e,te)->∀ (a:Act) (w:World) (base:Option Addr) (len cap l h m:Nat),
   (Instr.sliceBounds true len cap (lo.map a.eval) (hi.map a.eval) (mx.map a.eval)).run P w=.ok (l,h,m) w->a.eval x=.slice base len cap ->
   (execOp a.eval o).run P w=.ok (.value (.slice (if m=l then base else base.map (·.add (l*te.size))) (h-l) (m-l))) w:=by
  intro e te hse a w base len cap l h m hb hx;exact ou
 unfold RZ at hk;split at hk
 ·rename_i s hx;split at hk
  ·rename_i l h hl hh;obtain ⟨c0,cm,c1,c2,c3,c4⟩:=hk;have hu:=Cw c0;have hmx:mx=none:=(by cases mx<;>simp at cm ⊢)
   subst hmx;refine ⟨_,Aj.val fun hd ρ H' a w hs hops hr=>⟨.string (s.extract l.toNat h.toNat),?_,.d _ _ (.str _)⟩,c4⟩;have e1:=(hx▸hops x memx).str_inv;have hb:=DS (P:=P) (ev:=ev) (a:=a) w false s.size s.size lo hi none l h s.size hl hh rfl (fun y e=>hops y (meml y e)) (fun y e=>hops y (memh y e)) (fun y e=>lh) c1 c2 c3 lA lC;simp at hb;simp[execOp,ho,e1,Instr.sliceAt,run_underlying hu,Instr.slice,hb]
  exact hk.elim
 ·rename_i n full cs hx;split at hk
  ·rename_i e te hse
   have fin:∀ (l h m:Int) (fl:Bool),bnd ev 0 lo=some l->bnd ev n hi=some h->(∀ cap:Nat,n<=cap->(full=true->cap=n)->bnd ev cap mx=some m\/(mx=none/\m=n))->0<=l->l<=h->h<=m->m<=n ->
     (mx.isSome=true->hi.isSome=true)->(mx=none->fl=true->full=true/\hi=none)->(mx≠none->fl=true->h=m) ->
     Aj P G o ev (hp H) ⟨.d (.sl (h.toNat-l.toNat) fl (cut cs (l.toNat*te.size) ((h.toNat-l.toNat)*te.size))),[],[]⟩:=by
    intro l h m fl hl hh hm c1 c2 c3 c4 c5 c6 c7;refine Aj.val fun hd ρ H' a w hs hops hr=>?_;have hv:=hx▸hops x memx;generalize he:a.eval x=v at hv
    have bounds:∀ cap:Nat,n<=cap->(full=true->cap=n)->∃ mm:Int,m<=mm/\(mx=none->mm=cap)/\(mx≠none->mm=m)/\mm<=cap /\
      (Instr.sliceBounds true n cap (lo.map a.eval) (hi.map a.eval) (mx.map a.eval)).run P w=.ok (l.toNat,h.toNat,mm.toNat) w:=by
     intro cap hc hf;cases hmx:mx with
     | none =>subst hmx;exact ⟨cap,lA,fun _=>rfl,fun e=>absurd rfl e,Agu _,DS (P:=P) (ev:=ev) (a:=a) w true n cap lo hi none l h cap hl hh rfl (fun y e=>hops y (meml y e)) (fun y e=>hops y (memh y e)) (fun y e=>lh) c1 c2 lA (Agu _) lC⟩
     | some y =>
      subst hmx;rcases hm cap hc hf with hm' | ⟨e,_⟩
      ·exact ⟨m,Agu _,(fun e=>lh),fun _=>rfl,lA,DS (P:=P) (ev:=ev) (a:=a) w true n cap lo hi (some y) l h m hl hh hm' (fun y e=>hops y (meml y e)) (fun y e=>hops y (memh y e)) (fun y e=>hops y (memm y e)) c1 c2 c3 lA c5⟩
      cases e
    cases hv with
    | d _ _ hd' =>
     cases hd' with
     | sl0 base _ =>
      obtain ⟨mm,d1,d2,d3,d4,d5⟩:=bounds 0 (Af0 _) (fun _=>rfl);have hl0:l.toNat=0:=lA
      have hh0:h.toNat=0:=lA;have hm0:mm.toNat=0:=lA;refine ⟨_,runS hse a w base 0 0 _ _ _ d5 he,?_⟩;simp only[hl0,hh0,hm0,if_true,Agq,AgG];have:cut ([]:List D) 0 0=[]:=rfl;rw[this];exact qy
     | sl g off _ cap _ _ vs q1 q2 q3 q4 q5 =>
      obtain ⟨mm,d1,d2,d3,d4,d5⟩:=bounds cap q1 q2;refine ⟨_,runS hse a w _ n cap _ _ _ d5 he,?_⟩;have hcut:∀ (i:Nat) y,(cut cs (l.toNat*te.size) ((h.toNat-l.toNat)*te.size))[i]?=some y->cs[l.toNat*te.size+i]?=some y:=fun i y e=>(Eb e).2;by_cases hml:mm.toNat=l.toNat
      ·have e0:h.toNat-l.toNat=0:=lA;have e1:mm.toNat-l.toNat=0:=lA;simp only[hml,if_true,e0,Agq,AgG];have:cut cs (l.toNat*te.size) 0=[]:=by simp[cut]
       rw[this];exact qy
      simp only[hml,if_false,Aeq,Addr.add_lit];refine .d _ _ (.sl g _ _ _ _ _ (fun i=>vs (l.toNat*te.size+i)) lA (fun hf=>?_) (fun i y e=>by rw[Agz];exact q3 _ y (hcut i y e)) (fun i y e=>q4 _ y (hcut i y e)) (fun i y e=>q5 _ y (hcut i y e)));cases hmx:mx with
      | none =>obtain ⟨f1,f2⟩:=c6 hmx hf;subst f2;simp[bnd] at hh;have:=d2 hmx;have:=q2 f1;omega
      | some y =>have:=c7 (by simp[hmx]) hf;have:=d3 (by simp[hmx]);omega
   split at hk
   ·split at hk;·rename_i l h hl hh;obtain ⟨c1,c2,c3,c4⟩:=hk;exact ⟨_,fin l h n _ hl hh (fun cap _ _=>.inr ⟨rfl,rfl⟩) c1 c2 c3 (Agu _) lC (fun _ hf=>by simpa using hf) (fun e=>absurd rfl e),c4⟩
    exact hk.elim
   rename_i m;split at hk;·rename_i l h mv hl hh hm;obtain ⟨c0,c1,c2,c3,c4,c5⟩:=hk;exact ⟨_,fin l h mv _ hl hh (fun cap _ _=>.inl gM) c1 c2 c3 c4 (fun _=>c0) (fun e=>lh) (fun _ hf=>by simpa using hf),c5⟩
   exact hk.elim
  exact hk.elim
 ·rename_i b sz off n hx;split at hk
  ·rename_i e te hse;obtain ⟨hsz,hk⟩:=hk;subst hsz;split at hk
   ·split at hk
    ·rename_i l h hl hh;obtain ⟨c1,c2,c3,c4⟩:=hk;refine ⟨_,Aj.val fun hd ρ H' a w hs hops hr=>?_,c4⟩;have hv:=hx▸hops x memx;generalize he:a.eval x=v at hv;have bounds:∀ cap:Nat,n<=cap->(Instr.sliceBounds true n cap (lo.map a.eval) (hi.map a.eval) (AgV a.eval none)).run P w=.ok (l.toNat,h.toNat,((cap:Int)).toNat) w:=fun cap hc =>
      DS (P:=P) (ev:=ev) (a:=a) w true n cap lo hi none l h cap hl hh rfl (fun y e=>hops y (meml y e)) (fun y e=>hops y (memh y e)) (fun y e=>lh) c1 c2 lA (Agu _) lC
     cases hv with
     | lsl0 base =>have hl0:l.toNat=0:=lA;have hh0:h.toNat=0:=lA;refine ⟨_,runS hse a w base 0 0 _ _ _ (bounds 0 (Af0 _)) he,?_⟩;simp[hl0,hh0];exact .lsl0 _ _ _ _
     | lsl _ _ _ _ cap g S q1 q2 q3 =>
      refine ⟨_,runS hse a w _ n cap _ _ _ (bounds cap q2) he,?_⟩;simp only[AgP];by_cases hml:cap=l.toNat;·have e0:h.toNat-l.toNat=0:=lA;have e1:cap-l.toNat=0:=lA;simp only[hml,if_true,e0,Agq];exact .lsl0 _ _ _ _
      simp only[hml,if_false,Aeq,Addr.add_lit];refine .lsl b _ _ _ (cap-l.toNat) g S q1 lA ?_;have hle:l.toNat<=cap:=lA
      have:l.toNat*te.size+(cap-l.toNat)*te.size=cap*te.size:=gi
      omega
    exact hk.elim
   rename_i m;split at hk
   ·rename_i fz cs hb;split at hk
    ·rename_i l h mv hl hh hm;obtain ⟨c0,c1,c2,c3,c4,c5⟩:=hk;refine ⟨_,Aj.gen fun hd ρ H' a w hs hops hr=>?_,c5⟩;obtain ⟨h1,s1,t1,f1⟩:=B0 H [b] hd H' hs (fun y hy=>.inl (hr y hy));have hv:=hx▸hops x memx;generalize he:a.eval x=v at hv;have bounds:∀ cap:Nat,n<=cap->(Instr.sliceBounds true n cap (lo.map a.eval) (hi.map a.eval) (AgV a.eval (some m))).run P w=.ok (l.toNat,h.toNat,mv.toNat) w:=fun cap hc =>
      DS (P:=P) (ev:=ev) (a:=a) w true n cap lo hi (some m) l h mv hl hh gM (fun y e=>hops y (meml y e)) (fun y e=>hops y (memh y e)) (fun y e=>hops y (memm y e)) c1 c2 c3 lA (fun _=>c0)
     have hfx:=f1 b lC fz cs hb;cases hv with
     | lsl0 base =>
      have hl0:l.toNat=0:=lA;have hh0:h.toNat=0:=lA;have hm0:mv.toNat=0:=lA;refine ⟨_,_,h1,ρ,runS hse a w base 0 0 _ _ _ (bounds 0 (Af0 _)) he,s1,?_,t1⟩;simp only[hl0,hh0,hm0,if_true,Agq,AgG,Nat.add_zero];have:cut cs off 0=[]:=ko
      rw[this];exact qy
     | lsl _ _ _ _ cap g S q1 q2 q3 =>
      refine ⟨_,_,h1,ρ,runS hse a w _ n cap _ _ _ (bounds cap q2) he,s1,?_,t1⟩;have hfx':=hfx g S q1;by_cases hml:mv.toNat=l.toNat
      ·have e0:h.toNat-l.toNat=0:=lA;simp only[hml,if_true,e0,Agq,AgG];have:cut cs (off+l.toNat*te.size) 0=[]:=by simp[cut]
       rw[this];exact qy
      simp only[hml,if_false,Aeq,Addr.add_lit];refine .d _ _ (.sl g _ _ _ _ _ (fun i=>((h1 g (off+l.toNat*te.size+i)).getD undef)) lA (fun hf=>by simp at hf;omega) (fun i y e=>?_) (fun i y e=>?_) (fun i y e=>(hfx' _ y (Eb e).2).1));·obtain ⟨_,v,e1,e2⟩:=hfx' _ y (Eb e).2;simp[e1]
      obtain ⟨_,v,e1,e2⟩:=hfx' _ y (Eb e).2;simpa[e1] using e2
    exact hk.elim
   exact hk.elim
  exact hk.elim
 exact hk.elim
def MQ (P:Program) (ev:Operand->AV) (t:Nat) (x:AV) (lo hi mx:Option Operand) (k:Eff->Prop):Prop :=
 match x with
 | .lsl b sz off n=>match Aq P t with
   | some (_,te)=>sz=te.size/\match mx with
     | some m=>match bnd ev 0 lo,bnd ev n hi,bnd ev 0 (some m) with
       | some l,some h,some m=>hi.isSome=true/\0<=l/\l<=h/\h<=m/\m<=n/\k ⟨.lsl b sz (off+l.toNat*sz) (h.toNat-l.toNat),[],[]⟩
       | _,_,_=>False
     | none=>False
   | none=>False
 | _=>False
def VB {t:Nat} {x:Operand} {lo hi mx:Option Operand} {k:Eff->Prop} (ho:o.op=.slice t x lo hi mx) (hk:MQ P ev t (ev x) lo hi mx k):∃ e,Aj P G o ev (hp H) e/\k e:=by
 have memx:x∈o.op.operands.toList:=gG
 have meml:∀ y,lo=some y->y∈o.op.operands.toList:=dA
 have memh:∀ y,hi=some y->y∈o.op.operands.toList:=dA
 have memm:∀ y,mx=some y->y∈o.op.operands.toList:=dA
 have runS:∀ {e:Nat} {te:TI},Aq P t=some (e,te)->∀ (a:Act) (w:World) (base:Option Addr) (len cap l h m:Nat),
   (Instr.sliceBounds true len cap (lo.map a.eval) (hi.map a.eval) (mx.map a.eval)).run P w=.ok (l,h,m) w->a.eval x=.slice base len cap ->
   (execOp a.eval o).run P w=.ok (.value (.slice (if m=l then base else base.map (·.add (l*te.size))) (h-l) (m-l))) w:=by
  intro e te hse a w base len cap l h m hb hx;exact ou
 unfold MQ at hk;split at hk
 ·rename_i b sz off n hx;split at hk
  ·rename_i e te hse;obtain ⟨hsz,hk⟩:=hk;subst hsz;split at hk
   ·rename_i m;split at hk
    ·rename_i l h mv hl hh hm;obtain ⟨c0,c1,c2,c3,c4,c5⟩:=hk;refine ⟨_,Aj.val fun hd ρ H' a w hs hops hr=>?_,c5⟩;have hv:=hx▸hops x memx;generalize he:a.eval x=v at hv;have bounds:∀ cap:Nat,n<=cap->(Instr.sliceBounds true n cap (lo.map a.eval) (hi.map a.eval) (AgV a.eval (some m))).run P w=.ok (l.toNat,h.toNat,mv.toNat) w:=fun cap hc =>
      DS (P:=P) (ev:=ev) (a:=a) w true n cap lo hi (some m) l h mv hl hh gM (fun y e=>hops y (meml y e)) (fun y e=>hops y (memh y e)) (fun y e=>hops y (memm y e)) c1 c2 c3 lA (fun _=>c0)
     cases hv with
     | lsl0 base =>have hl0:l.toNat=0:=lA;have hh0:h.toNat=0:=lA;have hm0:mv.toNat=0:=lA;refine ⟨_,runS hse a w base 0 0 _ _ _ (bounds 0 (Af0 _)) he,?_⟩;simp[hl0,hh0,hm0];exact .lsl0 _ _ _ _
     | lsl _ _ _ _ cap g S q1 q2 q3 =>
      refine ⟨_,runS hse a w _ n cap _ _ _ (bounds cap q2) he,?_⟩;by_cases hml:mv.toNat=l.toNat;·have e0:h.toNat-l.toNat=0:=lA;simp only[hml,if_true,e0,Agq];exact .lsl0 _ _ _ _
      simp only[hml,if_false,Aeq,Addr.add_lit];refine .lsl b _ _ _ (mv.toNat-l.toNat) g S q1 lA ?_;have:l.toNat*te.size+(mv.toNat-l.toNat)*te.size=mv.toNat*te.size:=gi
      have:mv.toNat*te.size<=cap*te.size:=Aet _ lA;omega
    exact hk.elim
   exact hk.elim
  exact hk.elim
 exact hk.elim
def BS:List AV->Option (List D)
 | []=>some []
 | .d x::r=>match x.one,BS r with
   | true,some l=>some (x::l)
   | _,_=>none
 | _::_=>none
def Rx:∀ {cs:List AV} {ds:List D},BS cs=some ds->cs=ds.map .d/\∀ (i:Nat) x,ds[i]?=some x->x.one=true
 | [],ds,h=>by simp only[BS,Option.some.injEq] at h;subst h;exact ⟨rfl,lC⟩
 | .d x::r,ds,h=>by
   rw[BS] at h;split at h
   ·rename_i l h1 h2;cases h;obtain ⟨e1,e2⟩:=Rx h2;refine ⟨by rw[AgB,<-e1],fun i y hy=>?_⟩;cases i with
    | zero=>simp at hy;rw[<-hy];exact h1
    | succ i=>exact e2 i y (by simpa using hy)
   cases h
 | .lsl _ _ _ _::_,_,h=>jk
 | .ptr _ _::_,_,h=>jk
 | .rptr _ _::_,_,h=>jk
 | .mp _::_,_,h=>jk
 | .ifp _ _::_,_,h=>jk
 | .agg _::_,_,h=>jk
 | .tup _::_,_,h=>jk
 | .fn _ _ _::_,_,h=>jk
 | .undef::_,_,h=>jk
def MS (P:Program) (H:List Ae) (ev:Operand->AV) (t b off:Nat) (lo hi mx:Option Operand) (k:Eff->Prop):Prop :=
 match mx with
 | some _=>False
 | none=>match EY P t with
   | some (n,_,sz)=>match bnd ev 0 lo,bnd ev n hi with
     | some l,some h=>0<=l/\l<=h/\h<=n/\match H[b]? with
       | some (.row false cs)=>off+n*sz<=cs.length/\k ⟨.lsl b sz (off+l.toNat*sz) (h.toNat-l.toNat),[],[b]⟩
       | some (.box cs)=>match BS cs with
         | some ds=>off+n*sz<=ds.length/\k ⟨.lsl b sz (off+l.toNat*sz) (h.toNat-l.toNat),[(b,.row false ds)],[b]⟩
         | none=>False
       | _=>False
     | _,_=>False
   | none=>False
def VC {t b off:Nat} {x:Operand} {lo hi mx:Option Operand} {k:Eff->Prop} (ho:o.op=.slice t x lo hi mx) (hx:ev x=.ptr b off) (hk:MS P H ev t b off lo hi mx k):∃ e,Aj P G o ev (hp H) e/\k e:=by
 have memx:x∈o.op.operands.toList:=gG
 have meml:∀ y,lo=some y->y∈o.op.operands.toList:=dA
 have memh:∀ y,hi=some y->y∈o.op.operands.toList:=dA
 unfold MS at hk;split at hk;·exact hk.elim
 split at hk
 ·rename_i n e sz hae;obtain ⟨hu,te,hte,hsz⟩:=ER hae;subst hsz;split at hk
  ·rename_i l h hl hh;obtain ⟨c1,c2,c3,hk⟩:=hk
   have run:∀ (hd:Held) (ρ:Place) (a:Act) (w:World) (g:Nat),(∀ y,y∈o.op.operands.toList->R hd ρ (a.eval y) (ev y))->a.eval x=.pointer (some ⟨g,off,none⟩) ->
     (execOp a.eval o).run P w=.ok (.value (.slice (some (if n=l.toNat then ⟨g,off,none⟩ else ⟨g,off+l.toNat*te.size,none⟩)) (h.toNat-l.toNat) (n-l.toNat))) w:=by
    intro hd ρ a w g hops he;have hb:=DS (P:=P) (ev:=ev) (a:=a) w false n n lo hi none l h n hl hh rfl (fun y e=>hops y (meml y e)) (fun y e=>hops y (memh y e)) (fun y e=>lh) c1 c2 c3 (Agu _) lC;simp only[AgU,AgP] at hb;have e1:(Instr.sliceBounds false n n (lo.map a.eval) (hi.map a.eval) none).run P w=.ok (l.toNat,h.toNat,n) w:=hb;simp[execOp,ho,he,Instr.sliceAt,run_underlying hu,Instr.sureAddr,e1,run_sizeOf hte,Addr.add_lit]
   have res:∀ (hd:Held) (ρ:Place) (g S:Nat),ρ b=some (g,S)->off+n*te.size<=S->R hd ρ (.slice (some (if n=l.toNat then ⟨g,off,none⟩ else ⟨g,off+l.toNat*te.size,none⟩)) (h.toNat-l.toNat) (n-l.toNat)) (.lsl b te.size (off+l.toNat*te.size) (h.toNat-l.toNat)):=by
    intro hd ρ g S hρ hS;by_cases hml:n=l.toNat;·have e0:h.toNat-l.toNat=0:=lA;have e1:n-l.toNat=0:=lA;rw[e0,e1];exact .lsl0 _ _ _ _
    rw[if_neg hml];refine .lsl b _ _ _ (n-l.toNat) g S hρ lA ?_;have hle:l.toNat<=n:=lA
    have:l.toNat*te.size+(n-l.toNat)*te.size=n*te.size:=gi
    omega
   have pt:∀ (hd:Held) (ρ:Place) (a:Act),(∀ y,y∈o.op.operands.toList->R hd ρ (a.eval y) (ev y))->∃ g S,ρ b=some (g,S)/\a.eval x=.pointer (some ⟨g,off,none⟩):=by
    intro hd ρ a hops;have hv:=hx▸hops x memx;generalize a.eval x=v at hv ⊢;cases hv with
    | ptr _ _ g S hρ=>exact ⟨g,S,hρ,rfl⟩
   split at hk
   ·rename_i cs hb;obtain ⟨c4,hk⟩:=hk;refine ⟨_,Aj.val fun hd ρ H' a w hs hops hr=>?_,hk⟩;obtain ⟨g,S,hρ,he⟩:=pt hd ρ a hops;have hB:H' b=some (.row false cs):=(hr b lC).trans hb;have hlen:cs.length<=S:=by
     obtain ⟨_,(⟨q,_⟩ | ⟨g2,S2,c,E,fr,q1,q2,q3,q4,q5,_⟩)⟩:=hs.blk b _ hB;·rw[hρ] at q;cases q
     rw[hρ] at q1;cases q1;exact q5
    exact ⟨_,run hd ρ a w g hops he,res hd ρ g S hρ lA⟩
   ·rename_i cs hb;split at hk
    ·rename_i ds hds;obtain ⟨c4,hk⟩:=hk;obtain ⟨e1,e2⟩:=Rx hds;refine ⟨_,Aj.gen fun hd ρ H' a w hs hops hr=>?_,hk⟩;obtain ⟨g,S,hρ,he⟩:=pt hd ρ a hops;have hB:H' b=some (.box cs):=(hr b lC).trans hb;obtain ⟨g2,S2,c,E,fr,q1,q2,q3,q4,q5,q6,q7⟩:=hs.blk b _ hB;rw[hρ] at q1;cases q1;have hlen:ds.length<=S:=(by rw[e1,AgT] at q5;exact q5)
     refine ⟨_,w,hd,ρ,run hd ρ a w g hops he,⟨hs.prom,hs.glob,fun i y hy=>?_,fun i g2 S2 e=>?_,fun i j g2 S2 S3 e3 e4 l1 l2=>?_⟩,res hd ρ g S hρ lA,A6.refl _ _ _⟩
     ·simp only[Am] at hy;by_cases hi:i=b
      ·subst hi;rw[if_pos rfl] at hy;cases hy;refine ⟨e2,.inr ⟨g,S,c,E,fr,hρ,q2,q3,q4,hlen,fun j y v hj hv=>?_,(fun e=>lh),fun j _=>q7 j⟩⟩;have:=q6 j (.d y) v (by rw[e1,Aen,hj];rfl) hv;cases this with
       | d _ _ r=>exact r
      rw[if_neg hi] at hy;exact hs.blk i y hy
     ·obtain ⟨a1,bb,a2⟩:=hs.dom i g2 S2 e;refine ⟨a1,?_⟩;simp only[Am];by_cases hi:i=b;·exact ⟨_,if_pos hi⟩
      exact ⟨bb,by rw[if_neg hi];exact a2⟩
     have lv:∀ i,BC (Am H' [(b,.row false ds)]) i->BC H' i:=by
      rintro i ⟨y,hy,hn⟩;simp only[Am] at hy;by_cases hi:i=b;·subst hi;exact ⟨_,hB,by intro e;cases e⟩
      rw[if_neg hi] at hy;exact ⟨y,hy,hn⟩
     exact hs.inj i j g2 S2 S3 e3 e4 (lv i l1) (lv j l2)
    exact hk.elim
   exact hk.elim
  exact hk.elim
 exact hk.elim
def Xc (_:Program) (_:Operand->AV) (_ _:Nat) (_:List D) (_ _ _:Option Operand) (_:Eff->Prop):Prop:=False
def VA {t off:Nat} {cs:List D} {x:Operand} {lo hi mx:Option Operand} {k:Eff->Prop} (ho:o.op=.slice t x lo hi mx) (hx:ev x=.rptr off cs) (hk:Xc P ev t off cs lo hi mx k):∃ e,Aj P G o ev (hp H) e/\k e:=False.elim hk
def MP (m:Bool) (P:Program) (H:List Ae) (ev:Operand->AV) (t:Nat) (x:AV) (lo hi mx:Option Operand) (k:Eff->Prop):Prop :=
 match m with
 | false=>match x with
   | .ptr b off=>MS P H ev t b off lo hi mx k
   | .rptr off cs=>Xc P ev t off cs lo hi mx k
   | x=>RZ P H ev t x lo hi mx k
 | true=>MQ P ev t x lo hi mx k
def Vz {m:Bool} {t:Nat} {x:Operand} {lo hi mx:Option Operand} {k:Eff->Prop} (ho:o.op=.slice t x lo hi mx) (hk:MP m P H ev t (ev x) lo hi mx k):∃ e,Aj P G o ev (hp H) e/\k e:=by
 unfold MP at hk;split at hk
 ·split at hk;·rename_i b off hx;exact VC ho hx hk
  ·rename_i off cs hx;exact VA ho hx hk
  exact Yk ho hk
 exact VB ho hk
end
end Go.Abs
