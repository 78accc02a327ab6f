/-
  Contracts of the functions, one after another.
-/
import Derived.Test.YtacepalmphbnfaaGreatDoorZbYd1
import Derived.Shelf.SlSortCmp.WholeK
import Derived.Shelf.SlSortCmp.NoneTotal
import Derived.Shelf.SlicesG.Cmp
import Derived.Ground.SlsfProg
import Derived.Ground.SlgcProg
import Derived.Lib.Walk
import Derived.LoopN
import Derived.StillTailTactics
import Derived.Deep.Draws
import Derived.Sort.Grow
set_option linter.all false
open Go.Abs renaming ofVal → Qa, ofVal0 → Qb, isShift → Qc, aggK → Qd, purePost → Qe, combine → Qf, idsA → Qg, cellsA → Qh, numsOf → Qi, srcA → Qj, calleeA → Qk, refsA → Ql, isScalar → Qm, scalarD → Qn, scalar0 → Qo, putL → Qr, unfA → Qs, sidsB → QJ, keyKD → QL, isIntK → QM, aggD → QN, aggL → QO, eqKs → QP, boxRow → QQ, nextC_more → QT, nextC_over → QU, bs_size → QV, bs_extract → QW, bs_toList → QX, bs_append → QY, byteAt_bs → QZ, bs_cells → Q0, nums_length → Q1, nums_getD → Q2
open Go.Abs.AV renaming one → Qp
open Go.Abs.D renaming one → Qq
open Go.IntKind renaming signed → Qt
open Nat renaming reduceAdd → Qu, reduceSub → Qv, reduceMul → Qw, reducePow → Qx, reduceDiv → Qy, reduceMod → Qz, reduceEqDiff → QI, reduceBEq → QK
open Int renaming reduceAdd → QA, reduceSub → QB, reduceMul → QC, reducePow → QD, reduceNeg → QE, reduceToNat → QF, reduceLT → QG, reduceLE → QH
open Option renaming toList_some → QR, toList_none → QS
namespace Go.Proofs.YtacepalmphbnfaaGreatDoor
open Go Go.Proofs Go.Abs Go.RowKit Go.Sort Go.Shelf
/-! Sheet: slices.SortFunc of regions, in place, out of the kit's contract. -/
instance : Inhabited Ar := ⟨⟨0, 0, 0, 0⟩⟩
def numsA (a : Ar) : List Int := [a.t, a.l, a.b, a.r]
def encA (a : Ar) : List Value := (numsA a).map (Value.int .i64)
theorem regC_nums : ∀ l : List Ar, regC (rgs l) = (l.flatMap numsA).map (D.int .i64)
  | [] => rfl
  | a :: l => by
    have ih := regC_nums l
    rw [List.flatMap_cons, List.map_append, ← ih]
    rfl
theorem nums_len : ∀ l : List Ar, (l.flatMap numsA).length = l.length * 4
  | [] => rfl
  | a :: l => by rw [List.flatMap_cons, List.length_append, nums_len l, List.length_cons]; simp [numsA]; omega
theorem flat_nums : ∀ (l : List Ar) (t : Nat), t < l.length * 4 → (encA l[t / 4]!)[t % 4]! = Value.int .i64 ((l.flatMap numsA).getD t 0)
  | [], t, h => by simp at h
  | a :: l, t, h => by
    rw [List.flatMap_cons]
    rcases Nat.lt_or_ge t 4 with h4 | h4
    · have e : t / 4 = 0 := by omega
      rw [e]
      rcases (by omega : t = 0 ∨ t = 1 ∨ t = 2 ∨ t = 3) with rfl | rfl | rfl | rfl <;> rfl
    · obtain ⟨u, rfl⟩ : ∃ u, t = u + 4 := ⟨t - 4, by omega⟩
      have e1 : (u + 4) / 4 = u / 4 + 1 := by omega
      have e2 : (u + 4) % 4 = u % 4 := by omega
      have ih := flat_nums l u (by rw [List.length_cons] at h; omega)
      have e3 : (numsA a ++ l.flatMap numsA).getD (u + 4) 0 = (l.flatMap numsA).getD u 0 := getD_right (a := numsA a) u
      rw [e1, e2, e3, ← ih]
      simp
theorem flatK_nums (l : List Ar) (t : Nat) (h : t < l.length * 4) : (flatK encA 4 l.toArray)[t]! = Value.int .i64 ((l.flatMap numsA).getD t 0) := by
  rw [get_flatK _ _ _ t (by simpa using h), ← flat_nums l t h]
  simp
theorem rd_int {h : Held} {v : Value} {k : IntKind} {x : Int} (r : RD h v (.int k x)) : v = .int k x := by
  cases r with
  | int => rfl
theorem fn_inv {h : Held} {ρ : Abs.Place} {v : Value} {g : Nat} (r : R h ρ v (.d (.fn (.func g) [] []))) : v = .func (.func g) #[] #[] := by
  cases r with
  | d v x hx => cases hx with
  | fn f vs us a b hl hl' =>
    have e1 : vs = #[] := Array.eq_empty_of_size_eq_zero hl
    have e2 : us = #[] := Array.eq_empty_of_size_eq_zero hl'
    rw [e1, e2]
theorem sortf_ctr {P : Program} {G : Globals} {f g : FuncId} (hg : goFn P f = true) (l m : List Ar) (hm : m.length = l.length)
    (hn : ∀ (p : Option Addr) (cap : Nat) (fv : Value) (w : World), Calls P f #[.slice p 0 cap, fv] w fun e w' => e = .returned (.tuple #[]) ∧ w' = w)
    (hs : 0 < l.length → ∀ (blk cap : Nat) (w : World), HoldsK encA 4 w blk 0 l.toArray → blk < w.heap.size →
      Calls P f #[.slice (some ⟨blk, 0, none⟩) l.length cap, .func (.func g) #[] #[]] w fun e w' => e = .returned (.tuple #[]) ∧ ∃ n os, w' = sortWorldK encA 4 w blk 0 n m.toArray os) :
    Ctr P G f [.lsl 0 4 0 l.length, .d (.fn (.func g) [] [])] [.row false (regC (rgs l))] .undef [.row false (regC (rgs m))] := by
  refine ⟨hg, fun h ρ w vs s r => ?_⟩
  obtain ⟨v, u, rfl, hv, hu⟩ := r.inv2
  have hu := fn_inv hu
  subst hu
  have hb := s.blk 0 _ rfl
  rcases Nat.eq_zero_or_pos l.length with h0 | h0
  · obtain rfl : l = [] := List.eq_nil_of_length_eq_zero h0
    obtain rfl : m = [] := List.eq_nil_of_length_eq_zero hm
    have key : ∃ p cap, v = .slice p 0 cap := by
      cases hv with
      | lsl0 base => exact ⟨_, _, rfl⟩
      | lsl b sz off n cap g S h1 h2 h3 => exact ⟨_, _, rfl⟩
    obtain ⟨p, cap, rfl⟩ := key
    refine (hn p cap _ w).mono ?_
    rintro e w' ⟨rfl, rfl⟩
    exact ⟨_, h, ρ, rfl, by simpa using s, .undef _, Step.refl _ _ _⟩
  have key : ∃ g S cap, v = .slice (some ⟨g, 0, none⟩) l.length cap ∧ ρ 0 = some (g, S) ∧ l.length ≤ cap ∧ 0 + cap * 4 ≤ S := by
    generalize hk : l.length = k at hv h0
    cases hv with
    | lsl0 base => omega
    | lsl b sz off n cap g S h1 h2 h3 => exact ⟨g, S, cap, rfl, h1, h2, h3⟩
  obtain ⟨gg, S, cap, rfl, hρ, hcap, hS⟩ := key
  obtain ⟨hone, hb⟩ := hb
  rcases hb with ⟨hno, _⟩ | ⟨g', S', c, E, fr, b1, b2, b3, b4, b5, b6, b7, b8⟩
  · rw [hρ] at hno; cases hno
  rw [hρ] at b1; cases b1
  have cells : ∀ (q : List Ar) (j : Nat), j < q.length * 4 → (regC (rgs q))[j]? = some (.int .i64 ((q.flatMap numsA).getD j 0)) := fun q j hj => by
    have hj' : j < (q.flatMap numsA).length := by rw [nums_len]; exact hj
    rw [regC_nums, List.getElem?_map, List.getElem?_eq_getElem hj', List.getD_eq_getElem?_getD, List.getElem?_eq_getElem hj']
    rfl
  have clen : ∀ q : List Ar, (regC (rgs q)).length = q.length * 4 := fun q => by rw [regC_nums, List.length_map, nums_len]
  have hcs : l.length * 4 ≤ c.size := by omega
  have hval : ∀ (j : Nat), j < l.length * 4 → c[j]? = some (.int .i64 ((l.flatMap numsA).getD j 0)) := fun j hj => by
    have h1 : c[j]? = some c[j] := Array.getElem?_eq_getElem (by omega)
    rw [h1, rd_int (b6 j _ _ (cells l j hj) h1)]
  have hH : HoldsK encA 4 w gg 0 l.toArray := by
    intro j hj
    have hj' : j < l.length * 4 := by simpa using hj
    refine ⟨?_, ?_⟩
    · simp only [World.cell?, b2, Nat.zero_add]
      rw [hval j hj', flatK_nums l j hj']
      rfl
    · simp only [World.frozen?, b2, Nat.zero_add]
      have := b4 j (by omega)
      simp only [Bool.and_eq_false_iff, decide_eq_false_iff_not]
      omega
  have hgl : gg < w.heap.size := (Array.getElem?_eq_some_iff.1 b2).1
  refine (hs h0 gg cap w hH hgl).mono ?_
  rintro e w' ⟨rfl, n, os, rfl⟩
  have fsz : (flatK encA 4 m.toArray).size = l.length * 4 := by rw [size_flatK]; simp [hm]
  have fget : ∀ t, t < l.length * 4 → (flatK encA 4 m.toArray)[t]! = Value.int .i64 ((m.flatMap numsA).getD t 0) := fun t ht => flatK_nums m t (by omega)
  have other : ∀ k, k ≠ gg → k < w.heap.size → (grow (putRow id (Sort.ahead w n) gg 0 (flatK encA 4 m.toArray)) os).heap[k]? = w.heap[k]? := fun k hk hlt => by
    rw [heap_grow_old _ _ (by simpa using hlt)]
    show (w.heap.modify gg _)[k]? = _
    rw [Array.getElem?_modify, if_neg (Ne.symm hk)]
  have same : (grow (putRow id (Sort.ahead w n) gg 0 (flatK encA 4 m.toArray)) os).heap[gg]? = some (.cells (putCells id 0 (flatK encA 4 m.toArray) c) E fr) := by
    rw [heap_grow_old _ _ (by simpa using hgl)]
    show (w.heap.modify gg _)[gg]? = _
    rw [Array.getElem?_modify, if_pos rfl, b2]
    rfl
  have hw : sortWorldK encA 4 w gg 0 n m.toArray os = grow (putRow id (Sort.ahead w n) gg 0 (flatK encA 4 m.toArray)) os := rfl
  rw [hw]
  clear hw
  generalize flatK encA 4 m.toArray = F at *
  have hsz : (putCells id 0 F c).size = c.size := by simp [putCells]
  have hcell : ∀ (j : Nat) (hj : j < l.length * 4), (putCells id 0 F c)[j]? = some (Value.int .i64 ((m.flatMap numsA).getD j 0)) := fun j hj => by
    have : j < c.size := by omega
    have hF : j < F.size := by omega
    rw [← fget j hj]
    simp [putCells, Array.getElem?_mapIdx, Array.getElem?_eq_getElem this, hF]
  have hprom : ∀ b o u, h b o = some u → (grow (putRow id (Sort.ahead w n) gg 0 F) os).cell? ⟨b, o, none⟩ = some u := by
    intro b o u e
    have hlt := s.held_lt e
    have hne : b ≠ gg := fun e' => by subst e'; rw [b8 o (fun e => by cases e)] at e; cases e
    have := s.prom b o u e
    rw [← this]
    simp only [World.cell?, other b hne hlt]
  refine ⟨_, h, ρ, rfl, ⟨hprom, s.glob, fun i b e => ?_, fun i k S2 e => ?_, fun i j k S1 S2 e1 e2 l1 l2 => ?_⟩, .undef _, ⟨rfl, rfl, rfl, by simp, fun k hk hnk => other k (fun e => hnk 0 S (e ▸ hρ)) hk, Held.le_refl _, fun _ _ _ _ => rfl, Place.le_refl _, fun i k S2 e => .inl ⟨i, S2, e⟩⟩⟩
  · cases i with
    | zero =>
      simp [hp] at e; subst e
      refine ⟨fun j x hx => ?_, .inr ⟨gg, S, _, E, fr, hρ, same, by rw [hsz]; exact b3, b4, by rw [clen, hm]; omega, fun j x u hx hu => ?_, (fun e => by cases e), fun j _ => b8 j (fun e => by cases e)⟩⟩
      · have hj : j < m.length * 4 := by rw [← clen]; exact (List.getElem?_eq_some_iff.1 hx).1
        rw [cells m j hj] at hx; cases hx; rfl
      · have hj : j < m.length * 4 := by rw [← clen]; exact (List.getElem?_eq_some_iff.1 hx).1
        rw [cells m j hj] at hx; cases hx
        rw [hcell j (by omega)] at hu
        cases hu
        exact .int _ _
    | succ i => simp [hp] at e
  · obtain ⟨q1, b, q2⟩ := s.dom i k S2 e
    refine ⟨by simp; omega, ?_⟩
    cases i with
    | zero => exact ⟨_, rfl⟩
    | succ i => simp [hp] at q2
  · have z : ∀ i, live (hp [.row false (regC (rgs m))]) i → i = 0 := by
      rintro i ⟨b, q, _⟩
      cases i with
      | zero => rfl
      | succ i => simp [hp] at q
    rw [z i l1, z j l2]
def cfA (x y : Ar) : Int := cmpRg x.rg y.rg
theorem cfA_lt (x y : Ar) : ltOf cfA x y = decide (x.t < y.t ∨ (x.t = y.t ∧ x.l < y.l)) := by
  unfold ltOf cfA cmpRg cmpI
  congr 1
  apply propext
  simp only
  repeat' split
  all_goals omega
theorem cfA_swo : SWO (ltOf cfA) := by
  refine ⟨fun x => ?_, fun x y z h1 h2 => ?_, fun x y z h1 h2 => ?_⟩
  · rw [cfA_lt]; simp
  · rw [cfA_lt, decide_eq_true_eq] at *; omega
  · rw [cfA_lt, decide_eq_false_iff_not] at *; omega
/-- The only sorted permutation. -/
theorem perm_sorted {l : List Ar} {d : Array Ar} (hk : KeysOne l) (hp : PermIn 0 l.toArray.size l.toArray d) (hs : SortedIn (ltOf cfA) 0 l.toArray.size d) : d = (l.mergeSort leA).toArray := by
  obtain ⟨p1, _, p3⟩ := hp
  have e1 : d.extract 0 l.toArray.size = d := by rw [← p1, Array.extract_size]
  have e2 : l.toArray.extract 0 l.toArray.size = l.toArray := Array.extract_size
  rw [e1, e2] at p3
  have p3 : d.toList.Perm l := p3
  have hd : d.toList.Pairwise fun x y => leA x y = true := by
    refine List.pairwise_iff_getElem.2 fun i j hi hj hij => ?_
    have hi' : i < d.size := by simpa using hi
    have hj' : j < d.size := by simpa using hj
    have := hs i j (Nat.zero_le _) hij (by rw [← p1]; exact hj')
    rw [getElem!_pos d i hi', getElem!_pos d j hj', cfA_lt, decide_eq_false_iff_not] at this
    simp only [leA, Array.getElem_toList, decide_eq_true_eq]; omega
  have := sorted_uniq ((List.mergeSort_perm l leA).trans p3.symm) (fun x hx y hy => hk x ((List.mergeSort_perm l leA).subset hx) y ((List.mergeSort_perm l leA).subset hy)) (sortA_sorted l) hd
  rw [this]
end Go.Proofs.YtacepalmphbnfaaGreatDoor

namespace Go.Proofs.YtacepalmphbnfaaGreatDoor
open Go Go.Proofs Go.Abs Go.RowKit Go.Sort Go.Shelf
variable {G : Globals}
/-! Sheet: slices.SortFunc of regions; sheet.Regions. -/
def Tryz.cmpIntL_ren : Go.Shelf.Ren := ⟨fun | 5 => 65 | 7 => 106 | n => n, fun | 22 => 3 | 3 => 3 | 4 => 4 | n => n, fun | n => n⟩
theorem Tryz.cmpIntL : Go.Proofs.SlLaysC2.n5 Tryz.prog Tryz.cmpIntL_ren where
  mixed := by kernel_rfl
  f5 := ⟨Tryz.f65.name, by kernel_rfl, Tryz.func65.trans (congrArg some (by kernel_rfl))⟩
  f7 := ⟨Tryz.f106.name, by kernel_rfl, Tryz.func106.trans (congrArg some (by kernel_rfl))⟩
  t3 := Tryz.underlying3
  a3 := Tryz.isAgg3
  z3 := Tryz.sizeOf3
  v3 := Tryz.zeroValue3
  t4 := Tryz.underlying4
  a4 := Tryz.isAgg4
  z4 := Tryz.sizeOf4
  v4 := Tryz.zeroValue4
  t22 := Tryz.underlying3
  a22 := Tryz.isAgg3
  z22 := Tryz.sizeOf3
  v22 := Tryz.zeroValue3

def Tryz.sortRgL_ren : Go.Shelf.Ren := ⟨fun | 6 => 85 | 15 => 105 | 14 => 121 | 28 => 140 | 29 => 141 | 20 => 157 | 21 => 158 | 22 => 159 | 23 => 160 | 24 => 161 | 25 => 162 | 26 => 163 | 27 => 164 | 46 => 192 | 47 => 175 | 48 => 176 | 49 => 193 | 50 => 194 | 57 => 209 | n => n, fun | 22 => 61 | 24 => 64 | 25 => 116 | 3 => 3 | 39 => 129 | 0 => 0 | 53 => 163 | 55 => 165 | 4 => 4 | 46 => 157 | 45 => 156 | 50 => 112 | 5 => 5 | 9 => 9 | 66 => 194 | 70 => 198 | 76 => 215 | 77 => 216 | n => n, fun | n => n⟩
theorem Tryz.sortRgL : Go.Proofs.SlLaysF0.n6 Tryz.prog Tryz.sortRgL_ren where
  mixed := by kernel_rfl
  f6 := ⟨Tryz.f85.name, by kernel_rfl, Tryz.func85.trans (congrArg some (by kernel_rfl))⟩
  f14 := ⟨Tryz.f121.name, by kernel_rfl, Tryz.func121.trans (congrArg some (by kernel_rfl))⟩
  f15 := Tryz.func105.trans (congrArg some (by kernel_rfl))
  f20 := ⟨Tryz.f157.name, by kernel_rfl, Tryz.func157.trans (congrArg some (by kernel_rfl))⟩
  f21 := ⟨Tryz.f158.name, by kernel_rfl, Tryz.func158.trans (congrArg some (by kernel_rfl))⟩
  f22 := ⟨Tryz.f159.name, by kernel_rfl, Tryz.func159.trans (congrArg some (by kernel_rfl))⟩
  f23 := ⟨Tryz.f160.name, by kernel_rfl, Tryz.func160.trans (congrArg some (by kernel_rfl))⟩
  f24 := ⟨Tryz.f161.name, by kernel_rfl, Tryz.func161.trans (congrArg some (by kernel_rfl))⟩
  f25 := ⟨Tryz.f162.name, by kernel_rfl, Tryz.func162.trans (congrArg some (by kernel_rfl))⟩
  f26 := ⟨Tryz.f163.name, by kernel_rfl, Tryz.func163.trans (congrArg some (by kernel_rfl))⟩
  f27 := ⟨Tryz.f164.name, by kernel_rfl, Tryz.func164.trans (congrArg some (by kernel_rfl))⟩
  f28 := Tryz.func140.trans (congrArg some (by kernel_rfl))
  f29 := Tryz.func141.trans (congrArg some (by kernel_rfl))
  f46 := ⟨Tryz.f192.name, by kernel_rfl, Tryz.func192.trans (congrArg some (by kernel_rfl))⟩
  f47 := Tryz.func175.trans (congrArg some (by kernel_rfl))
  f48 := Tryz.func176.trans (congrArg some (by kernel_rfl))
  f49 := ⟨Tryz.f193.name, by kernel_rfl, Tryz.func193.trans (congrArg some (by kernel_rfl))⟩
  f50 := ⟨Tryz.f194.name, by kernel_rfl, Tryz.func194.trans (congrArg some (by kernel_rfl))⟩
  f57 := ⟨Tryz.f209.name, by kernel_rfl, Tryz.func209.trans (congrArg some (by kernel_rfl))⟩
  t0 := Tryz.underlying0
  a0 := Tryz.isAgg0
  z0 := Tryz.sizeOf0
  v0 := Tryz.zeroValue0
  t3 := Tryz.underlying3
  a3 := Tryz.isAgg3
  z3 := Tryz.sizeOf3
  v3 := Tryz.zeroValue3
  t4 := Tryz.underlying4
  a4 := Tryz.isAgg4
  z4 := Tryz.sizeOf4
  v4 := Tryz.zeroValue4
  t5 := Tryz.underlying5
  a5 := Tryz.isAgg5
  z5 := Tryz.sizeOf5
  v5 := Tryz.zeroValue5
  t9 := Tryz.underlying9
  a9 := Tryz.isAgg9
  z9 := Tryz.sizeOf9
  v9 := Tryz.zeroValue9
  t22 := Tryz.underlying61
  a22 := Tryz.isAgg61
  z22 := Tryz.sizeOf61
  v22 := Tryz.zeroValue61
  t25 := Tryz.underlying116
  a25 := Tryz.isAgg116
  z25 := Tryz.sizeOf116
  v25 := Tryz.zeroValue116
  t39 := Tryz.underlying129
  a39 := Tryz.isAgg129
  z39 := Tryz.sizeOf129
  v39 := Tryz.zeroValue129
  t45 := Tryz.underlying156
  a45 := Tryz.isAgg156
  z45 := Tryz.sizeOf156
  v45 := Tryz.zeroValue156
  t46 := Tryz.underlying157
  a46 := Tryz.isAgg157
  z46 := Tryz.sizeOf157
  v46 := Tryz.zeroValue157
  t50 := Tryz.underlying112
  a50 := Tryz.isAgg112
  z50 := Tryz.sizeOf112
  v50 := Tryz.zeroValue112
  t53 := Tryz.underlying163
  a53 := Tryz.isAgg163
  z53 := Tryz.sizeOf163
  v53 := Tryz.zeroValue163
  t55 := Tryz.underlying165
  a55 := Tryz.isAgg165
  z55 := Tryz.sizeOf165
  v55 := Tryz.zeroValue165
  t66 := Tryz.underlying194
  a66 := Tryz.isAgg194
  z66 := Tryz.sizeOf194
  v66 := Tryz.zeroValue194
  t70 := Tryz.underlying198
  a70 := Tryz.isAgg198
  z70 := Tryz.sizeOf198
  v70 := Tryz.zeroValue198
  t76 := Tryz.underlying215
  a76 := Tryz.isAgg215
  z76 := Tryz.sizeOf215
  v76 := Tryz.zeroValue215
  t77 := Tryz.underlying216
  a77 := Tryz.isAgg216
  z77 := Tryz.sizeOf216
  v77 := Tryz.zeroValue216

set_option maxHeartbeats 4000000 in
theorem or_raw (x y : Int) (blk : Nat) (w : World) (h0 : w.cell? ⟨blk, 0, none⟩ = some (.int .i64 x)) (h1 : w.cell? ⟨blk, 1, none⟩ = some (.int .i64 y)) :
    Calls Tryz.prog 64 #[.slice (some ⟨blk, 0, none⟩) 2 2] w fun e w' => e = .returned (.int .i64 (if x ≠ 0 then x else y)) ∧ w' = w := by
  go_enter Tryz.func64, Tryz.ntmps64
  by_cases hx : x = 0
  · by_cases hy : y = 0
    · subst hx hy
      go_wp2
      refine wp_loop_rounds 3 ?_
      rw [rounds_succ]
      go_wp2
      rw [rounds_succ]
      go_wp2
      rw [rounds_succ]
      go_wp2
      go_ret
      exact ⟨rfl, rfl⟩
    · subst hx
      have hyb : (y != 0) = true := by simpa using hy
      go_wp2
      refine wp_loop_rounds 3 ?_
      rw [rounds_succ]
      go_wp2
      rw [rounds_succ]
      go_wp2
      go_ret
      exact ⟨rfl, rfl⟩
  · rw [if_pos hx]
    have hxb : (x != 0) = true := by simpa using hx
    go_wp2
    refine wp_loop_rounds 3 ?_
    rw [rounds_succ]
    go_wp2
    go_ret
    exact ⟨rfl, rfl⟩
theorem two_objs (W : World) (o1 o2 : Obj) : ((W.alloc o1).alloc o2).heap[W.heap.size]? = some o1 ∧ ((W.alloc o1).alloc o2).heap[W.heap.size + 1]? = some o2 := by
  constructor
  · show ((W.heap.push o1).push o2)[W.heap.size]? = _
    simp [Array.getElem?_push]
  · show ((W.heap.push o1).push o2)[W.heap.size + 1]? = _
    have : W.heap.size + 1 = (W.heap.push o1).size := by simp
    rw [this, Array.getElem?_push_size]
theorem two_cells (W : World) (c1 c2 : Array Value) (e : TypeId) (i : Nat) : ((W.alloc (.cells c1 e)).alloc (.cells c2 e)).cell? ⟨W.heap.size, i, none⟩ = c1[i]? ∧ ((W.alloc (.cells c1 e)).alloc (.cells c2 e)).cell? ⟨W.heap.size + 1, i, none⟩ = c2[i]? := by
  obtain ⟨h1, h2⟩ := two_objs W (.cells c1 e) (.cells c2 e)
  constructor
  · rw [World.cell?]; simp only [h1, Option.isSome_none, Bool.false_eq_true, if_false]
  · rw [World.cell?]; simp only [h2, Option.isSome_none, Bool.false_eq_true, if_false]
theorem one_cell (W : World) (c : Array Value) (e : TypeId) (i : Nat) : (W.alloc (.cells c e)).cell? ⟨W.heap.size, i, none⟩ = c[i]? := by
  have h1 : (W.alloc (.cells c e)).heap[W.heap.size]? = some (.cells c e) := by
    show (W.heap.push _)[W.heap.size]? = _
    rw [Array.getElem?_push_size]
  rw [World.cell?]; simp only [h1, Option.isSome_none, Bool.false_eq_true, if_false]
set_option maxHeartbeats 16000000 in
set_option maxRecDepth 100000 in
theorem clo_raw (a b c d a' b' c' d' : Int) (W : World) : Calls Tryz.prog 86 #[.agg #[.int .i64 a, .int .i64 b, .int .i64 c, .int .i64 d], .agg #[.int .i64 a', .int .i64 b', .int .i64 c', .int .i64 d']] W fun e w' => e = .returned (.int .i64 (if Lib.compareInt a a' ≠ 0 then Lib.compareInt a a' else Lib.compareInt b b')) ∧ ∃ q os', w' = grow (W.drewN q) os' := by
  have hcon := fun x y W' => AnyG.cmp_Compare_int Tryz.cmpIntL x y W'
  change ∀ x y W', Calls Tryz.prog 65 _ _ _ at hcon
  have h1 := hcon a a'
  have h2 := hcon b b'
  clear hcon
  generalize Lib.compareInt a a' = r at h1 ⊢
  generalize Lib.compareInt b b' = s at h2 ⊢
  have h3 := fun blk w => or_raw r s blk w
  generalize (if r ≠ 0 then r else s) = z at h3 ⊢
  go_enter Tryz.func86, Tryz.ntmps86
  go_wp2_with (fail)
  change Code.wp _ _ _ _ ((W.alloc (.cells #[.int .i64 a, .int .i64 b, .int .i64 c, .int .i64 d] 64)).alloc (.cells #[.int .i64 a', .int .i64 b', .int .i64 c', .int .i64 d'] 64))
  have f0 : ((W.alloc (.cells #[.int .i64 a, .int .i64 b, .int .i64 c, .int .i64 d] 64)).alloc (.cells #[.int .i64 a', .int .i64 b', .int .i64 c', .int .i64 d'] 64)).cell? ⟨W.heap.size, 0, none⟩ = some (.int .i64 a) := (two_cells W _ _ _ 0).1
  have f1 : ((W.alloc (.cells #[.int .i64 a, .int .i64 b, .int .i64 c, .int .i64 d] 64)).alloc (.cells #[.int .i64 a', .int .i64 b', .int .i64 c', .int .i64 d'] 64)).cell? ⟨W.heap.size, 1, none⟩ = some (.int .i64 b) := (two_cells W _ _ _ 1).1
  have g0 : ((W.alloc (.cells #[.int .i64 a, .int .i64 b, .int .i64 c, .int .i64 d] 64)).alloc (.cells #[.int .i64 a', .int .i64 b', .int .i64 c', .int .i64 d'] 64)).cell? ⟨W.heap.size + 1, 0, none⟩ = some (.int .i64 a') := (two_cells W _ _ _ 0).2
  have g1 : ((W.alloc (.cells #[.int .i64 a, .int .i64 b, .int .i64 c, .int .i64 d] 64)).alloc (.cells #[.int .i64 a', .int .i64 b', .int .i64 c', .int .i64 d'] 64)).cell? ⟨W.heap.size + 1, 1, none⟩ = some (.int .i64 b') := (two_cells W _ _ _ 1).2
  have hgr : grow W (#[.cells #[.int .i64 a, .int .i64 b, .int .i64 c, .int .i64 d] 64] ++ #[.cells #[.int .i64 a', .int .i64 b', .int .i64 c', .int .i64 d'] 64]) = ((W.alloc (.cells #[.int .i64 a, .int .i64 b, .int .i64 c, .int .i64 d] 64)).alloc (.cells #[.int .i64 a', .int .i64 b', .int .i64 c', .int .i64 d'] 64)) := by rw [alloc_eq_grow, alloc_eq_grow, grow_grow]
  generalize ((W.alloc (.cells #[.int .i64 a, .int .i64 b, .int .i64 c, .int .i64 d] 64)).alloc (.cells #[.int .i64 a', .int .i64 b', .int .i64 c', .int .i64 d'] 64)) = W2 at f0 f1 g0 g1 hgr ⊢
  have hX : ∃ X, grow W X = W2 := ⟨_, hgr⟩
  clear hgr
  have f0' : W2.drew.cell? ⟨W.heap.size, 0, none⟩ = some (.int .i64 a) := f0
  have f1' : W2.drew.cell? ⟨W.heap.size, 1, none⟩ = some (.int .i64 b) := f1
  have g0' : W2.drew.cell? ⟨W.heap.size + 1, 0, none⟩ = some (.int .i64 a') := g0
  have g1' : W2.drew.cell? ⟨W.heap.size + 1, 1, none⟩ = some (.int .i64 b') := g1
  have h4 := h3 W2.heap.size (W2.drew.alloc (.cells #[.int .i64 r, .int .i64 s] 3)) (one_cell W2.drew _ _ 0) (one_cell W2.drew _ _ 1)
  clear h3
  refine wp_region_still_tail 10 (by kernel_rfl) (by kernel_rfl) ?_
  simp only [List.take_succ_cons, List.take_zero, List.drop_succ_cons, List.drop_zero]
  still_step
  still_step
  still_step
  still_step
  still_call (h1 _)
  still_step
  still_step
  still_step
  still_step
  still_call (h2 _)
  refine wpStill_nil ?_
  change wpList _ _ _ _ _ W2.drew
  go_wp2_with (go_at_call 64; refine h4.mono ?_; rintro e w' ⟨rfl, rfl⟩)
  go_ret
  obtain ⟨X, rfl⟩ := hX
  refine ⟨rfl, 1, X ++ #[.cells #[.int .i64 r, .int .i64 s] 3], ?_⟩
  rw [alloc_eq_grow]
  exact grow_grow (W.drewN 1) X _
theorem cmpI_lib (x y : Int) : Lib.compareInt x y = cmpI x y := rfl
theorem cfA_raw (x y : Ar) : (if Lib.compareInt (x.t : Int) y.t ≠ 0 then Lib.compareInt (x.t : Int) y.t else Lib.compareInt (x.l : Int) y.l) = cfA x y := by
  simp only [cmpI_lib]
  rfl
theorem clo_lays (blk off size : Nat) (w : World) : CmpLays Tryz.prog 86 #[] encA 4 cfA blk off size w := by
  intro m os dk _ x y
  rw [← cfA_raw]
  exact clo_raw x.t x.l x.b x.r y.t y.l y.b y.r _
theorem rg_agg (w : World) : (isAgg 64).run Tryz.prog w = .ok true w := Abs.run_isAgg ti64 w
theorem rg_size (w : World) : (Go.sizeOf 64).run Tryz.prog w = .ok 4 w := Abs.run_sizeOf ti64 w
theorem sortRg_spec (l : List Ar) (hl : l.length ≤ 1000000) (hk : KeysOne l) :
    Ctr Tryz.prog G 85 [.lsl 0 4 0 l.length, .d (.fn (.func 86) [] [])] [.row false (regC (rgs l))] .undef [.row false (regC (rgs (l.mergeSort leA)))] := by
  refine sortf_ctr go85 l (l.mergeSort leA) (List.length_mergeSort l) (fun p cap fv w => AnyF.slices_SortFunc_none Tryz.sortRgL p cap fv w) fun _ blk cap w hH hblk => ?_
  have eg : ∀ args w, (callFunc 86 args).run Tryz.prog w = .ok (.enter 86 args) w := enters_of Tryz.func86 (by kernel_rfl) rfl
  have hcon := AnyQ.slices_SortFunc Tryz.sortRgL 4 rg_agg rg_size encA (fun _ => rfl) (fun x v hv => by simp [encA, numsA] at hv; rcases hv with rfl | rfl | rfl | rfl <;> rfl) cfA cfA_swo 86 #[] blk 0 cap l.toArray w eg (clo_lays blk 0 l.toArray.size w) hH hblk (by simp; omega)
  refine hcon.mono ?_
  rintro e w' ⟨he, d', n, os, hp, hs, hw⟩
  exact ⟨he, n, os, by rw [hw, perm_sorted hk hp hs]⟩
def MRg : Muts := fun k => k == 85 || k == 84
theorem MRg_p : MRg 84 = true := rfl
theorem MRg_s : MRg 85 = true := rfl
theorem MRg_n {k : Nat} (h : k ≠ 85 ∧ k ≠ 84) : MRg k = false := by
  simp only [MRg, Bool.or_eq_false_iff, beq_eq_false_iff_ne]; exact h
set_option maxHeartbeats 8000000 in
set_option maxRecDepth 100000 in
theorem regions_spec (g : List Row) (full : Bool) (hg : okGrid g) (h : Grd g) :
    Ctr Tryz.prog G 37 [.d (.agg [Gr g full])] [] (.lsl 0 4 0 (regsL g).length) [.row false (regC (rgs (regsL g)))] := by
  have gl := @rowsD_length g
  have g1 := h.gl
  have g2 := h.gw
  refine Ctr.body (M := MRg) hmix Tryz.func37 rfl go37 ?_
  have sp := split_any (G := G) g hg (wholeG g) (whole_in h) full (Nat.le_trans (leaves_few h) (by decide))
  rw [show splitX g ((wholeG g).sz + 1) (wholeG g) = leavesX g (wholeG g) from rfl] at sp
  have so := sortRg_spec (G := G) (leavesX g (wholeG g)) (leaves_few h) (keys_of (leavesOK (whole_in h)))
  rw [show (leavesX g (wholeG g)).mergeSort leA = regsL g from rfl] at so
  have le : (regsL g).length = (leavesX g (wholeG g)).length := (regs_perm g).length_eq
  rw [le]
  generalize leavesX g (wholeG g) = L at *
  simp (config := { maxSteps := 1000000 }) (disch := ((try simp only [awL]); omega)) only [QR, QS, QT, QU, QV, QW, QX, QY, QZ, Q0, Q1, Q2, MRg_s, MRg_p, MRg_n, gl, Tryz.f37, ↓awU, awV, awF, Qa, Qb, Qc, Qd, forall_const, ↓reduceIte, ↓reduceDIte, ↓Qe, Qf, Qg, Qh, Qi, Qj, Qk, Ql, Qm, Qn, Qo, Qp, Qq, Qr, Qs, implies_true, Qt, Qu, Qv, Qw, Qx, Qy, Qz, QA, QB, QC, QD, QE, QF, QG, QH, QI, QJ, QK, QL, QM, QN, QO, QP, QQ]
  refine CallC.of (width_spec g false hg) (by rfl) ?_
  simp (config := { maxSteps := 1000000 }) (disch := ((try simp only [awL]); omega)) only [QR, QS, QT, QU, QV, QW, QX, QY, QZ, Q0, Q1, Q2, MRg_s, MRg_p, MRg_n, gl, ↓awU, awV, awF, Qa, Qb, Qc, Qd, forall_const, ↓reduceIte, ↓reduceDIte, ↓Qe, Qf, Qg, Qh, Qi, Qj, Qk, Ql, Qm, Qn, Qo, Qp, Qq, Qr, Qs, implies_true, Qt, Qu, Qv, Qw, Qx, Qy, Qz, QA, QB, QC, QD, QE, QF, QG, QH, QI, QJ, QK, QL, QM, QN, QO, QP, QQ]
  refine CallC.by sp (by rfl) (by rfl) (Nat.zero_le _) ?_
  simp (config := { maxSteps := 1000000 }) (disch := ((try simp only [awL]); omega)) only [QR, QS, QT, QU, QV, QW, QX, QY, QZ, Q0, Q1, Q2, MRg_s, MRg_p, MRg_n, gl, ↓awU, awV, awF, Qa, Qb, Qc, Qd, forall_const, ↓reduceIte, ↓reduceDIte, ↓Qe, Qf, Qg, Qh, Qi, Qj, Qk, Ql, Qm, Qn, Qo, Qp, Qq, Qr, Qs, implies_true, Qt, Qu, Qv, Qw, Qx, Qy, Qz, QA, QB, QC, QD, QE, QF, QG, QH, QI, QJ, QK, QL, QM, QN, QO, QP, QQ]
  refine ⟨by rfl, CallC.by so (by rfl) (by rfl) (Nat.le_refl _) ?_⟩
  simp (config := { maxSteps := 1000000 }) (disch := ((try simp only [awL]); omega)) only [QR, QS, QT, QU, QV, QW, QX, QY, QZ, Q0, Q1, Q2, MRg_s, MRg_p, MRg_n, gl, ↓awU, awV, awF, Qa, Qb, Qc, Qd, forall_const, ↓reduceIte, ↓reduceDIte, ↓Qe, Qf, Qg, Qh, Qi, Qj, Qk, Ql, Qm, Qn, Qo, Qp, Qq, Qr, Qs, implies_true, Qt, Qu, Qv, Qw, Qx, Qy, Qz, QA, QB, QC, QD, QE, QF, QG, QH, QI, QJ, QK, QL, QM, QN, QO, QP, QQ]
  first | exact ⟨[some 1], rfl, by simp, by simp [HWeak, BWeak, SWeak, AWeak], .inl (by simp [AWeak, SWeak])⟩ | trace_state
end Go.Proofs.YtacepalmphbnfaaGreatDoor

namespace Go.Proofs.YtacepalmphbnfaaGreatDoor
open Go Go.Proofs Go.Abs
/-! Sheet, plain: a cut at a blank column. -/
end Go.Proofs.YtacepalmphbnfaaGreatDoor

namespace Go.Proofs.YtacepalmphbnfaaGreatDoor
open Go Go.Proofs Go.Abs
/-! Sheet, plain: the box is tight; the first blank row or column. -/
end Go.Proofs.YtacepalmphbnfaaGreatDoor

namespace Go.Proofs.YtacepalmphbnfaaGreatDoor
open Go Go.Proofs Go.Abs
variable {G : Globals}
/-! Sheet: the reference's tighten. -/
end Go.Proofs.YtacepalmphbnfaaGreatDoor

namespace Go.Proofs.YtacepalmphbnfaaGreatDoor
open Go Go.Proofs Go.Abs
variable {G : Globals}
/-! Sheet: the reference's done. -/
end Go.Proofs.YtacepalmphbnfaaGreatDoor

namespace Go.Proofs.YtacepalmphbnfaaGreatDoor
open Go Go.Proofs Go.Abs
variable {G : Globals}
/-! Sheet: the reference's done. -/
end Go.Proofs.YtacepalmphbnfaaGreatDoor

namespace Go.Proofs.YtacepalmphbnfaaGreatDoor
open Go Go.Proofs Go.Abs
variable {G : Globals}
/-! Sheet: the reference's Regions: plain. -/
end Go.Proofs.YtacepalmphbnfaaGreatDoor

namespace Go.Proofs.YtacepalmphbnfaaGreatDoor
open Go Go.Proofs Go.Abs
variable {G : Globals}
/-! Sheet: the reference's Regions. -/
theorem rgs_length (l : List Ar) : (rgs l).length = l.length := List.length_map _
theorem rgs_get {l : List Ar} {k : Nat} (h : k < l.length) : (rgs l).getD k noRg = (l.getD k default).rg := by
  rw [List.getD_eq_getElem?_getD, List.getD_eq_getElem?_getD, List.getElem?_map, List.getElem?_eq_getElem h]; rfl
theorem rgs_cells {l : List Ar} {k : Nat} (h : k < l.length) : ((regC (rgs l)).drop (k * 4)).take 4 = [.int .i64 (l.getD k default).t, .int .i64 (l.getD k default).l, .int .i64 (l.getD k default).b, .int .i64 (l.getD k default).r] := by
  rw [regC_get (by rw [rgs_length]; exact h), rgs_get h]
theorem rgs_cell {l : List Ar} {k q : Nat} (h : k < l.length) (hq : q < 4) : (regC (rgs l)).getD (k * 4 + q) .nilp = (((regC (rgs l)).drop (k * 4)).take 4).getD q .nilp := by
  rw [List.getD_eq_getElem?_getD, List.getD_eq_getElem?_getD, List.getElem?_take, if_pos hq, List.getElem?_drop]
theorem rgs_c0 {l : List Ar} {k : Nat} (h : k < l.length) : (regC (rgs l)).getD (k * 4) .nilp = .int .i64 (l.getD k default).t := by
  have := rgs_cell (q := 0) h (by decide)
  rw [rgs_cells h] at this
  exact this
theorem rgs_c1 {l : List Ar} {k : Nat} (h : k < l.length) : (regC (rgs l)).getD (k * 4 + 1) .nilp = .int .i64 (l.getD k default).l := by
  rw [rgs_cell h (by decide), rgs_cells h]; rfl
end Go.Proofs.YtacepalmphbnfaaGreatDoor

namespace Go.Proofs.YtacepalmphbnfaaGreatDoor
open Go Go.Proofs Go.Abs
variable {G : Globals}
/-! Sheet: the sanity check. -/
def saneG : List Row := [[[97], [98], [], [99]], [[100], [], [], [101]]]
def saneR : List Ar := [⟨0, 0, 2, 2⟩, ⟨0, 3, 2, 4⟩]
def saneS : List UInt8 := [48, 44, 48, 44, 50, 44, 50, 59, 48, 44, 51, 44, 50, 44, 52]
theorem saneG_small : SmallG 8 saneG := by
  refine ⟨by decide, fun r hr => ?_⟩
  simp only [saneG, List.mem_cons, List.not_mem_nil, or_false] at hr
  rcases hr with rfl | rfl
  · exact ⟨by decide, fun s hs => by simp only [List.mem_cons, List.not_mem_nil, or_false] at hs; rcases hs with rfl | rfl | rfl | rfl <;> simp⟩
  · exact ⟨by decide, fun s hs => by simp only [List.mem_cons, List.not_mem_nil, or_false] at hs; rcases hs with rfl | rfl | rfl | rfl <;> simp⟩
set_option maxRecDepth 100000 in
theorem sane_leaves : leavesX saneG (wholeG saneG) = saneR := by decide +kernel
theorem sane_regs : regsL saneG = saneR := by
  refine (regs_is (saneG_small.ok (by decide)).2 (l := saneR) (by rw [sane_leaves]) ?_).symm
  unfold saneR
  decide
set_option maxRecDepth 100000 in
theorem sane_textR : textR (rgs saneR) = some saneS := by decide +kernel
theorem sane_par : parO saneS = some (rgs saneR) := (parO_iff (by decide)).2 sane_textR
set_option maxHeartbeats 4000000 in
set_option maxRecDepth 100000 in
theorem ssane_spec (hI : HI G) (hE : HE G) : Ctr Tryz.prog G 35 [] [] (.d (.bool true)) [] := by
  refine Ctr.pure (M := M0) hmix Tryz.func35 rfl go35 ?_
  have h0 := saneG_small.ok (by decide)
  have r0 := regions_spec (G := G) saneG false h0.1 h0.2
  have t0 := stext_spec hI (rgs saneR) false (by decide)
  have p0 := sparse_spec hI hE saneS (by decide)
  rw [sane_regs] at r0
  rw [sane_textR] at t0
  unfold parD at p0
  rw [if_neg (by decide), sane_par] at p0
  dsimp only at p0
  have hs : S saneS = S [48, 44, 48, 44, 50, 44, 50, 59, 48, 44, 51, 44, 50, 44, 52] := rfl
  have cl : (regC (rgs saneR)).length = 8 := rfl
  have cu : cut (regC (rgs saneR)) 0 (2 * 4) = regC (rgs saneR) := rfl
  have cc : ((regC (rgs saneR)).drop (1 * 4)).take 4 = [.int .i64 0, .int .i64 3, .int .i64 2, .int .i64 4] := rfl
  have l2 : (rgs saneR).length = 2 := rfl
  have l3 : saneR.length = 2 := rfl
  rw [l2] at p0 t0
  rw [l3] at r0
  simp (config := { maxSteps := 1000000 }) (disch := ((try simp only [awL]); omega)) only [QR, QS, QT, QU, QV, QW, QX, QY, QZ, Q0, Q1, Q2, Tryz.f35, ↓awU, awV, awF, Qa, Qb, Qc, Qd, forall_const, ↓reduceIte, ↓reduceDIte, ↓Qe, Qf, Qg, Qh, Qi, Qj, Qk, Ql, Qm, Qn, Qo, Qp, Qq, Qr, Qs, implies_true, Qt, Qu, Qv, Qw, Qx, Qy, Qz, QA, QB, QC, QD, QE, QF, QG, QH, QI, QJ, QK, QL, QM, QN, QO, QP, QQ]
  refine CallC.by r0 (by rfl) (by rfl) (Nat.zero_le _) ?_
  generalize regC (rgs saneR) = C at *
  simp (config := { maxSteps := 1000000 }) (disch := ((try simp only [awL]); omega)) only [QR, QS, QT, QU, QV, QW, QX, QY, QZ, Q0, Q1, Q2, cl, cu, ↓awU, awV, awF, Qa, Qb, Qc, Qd, forall_const, ↓reduceIte, ↓reduceDIte, ↓Qe, Qf, Qg, Qh, Qi, Qj, Qk, Ql, Qm, Qn, Qo, Qp, Qq, Qr, Qs, implies_true, Qt, Qu, Qv, Qw, Qx, Qy, Qz, QA, QB, QC, QD, QE, QF, QG, QH, QI, QJ, QK, QL, QM, QN, QO, QP, QQ]
  refine CallC.frozenE t0 (by first | rfl | rw [cu]) ?_
  simp (config := { maxSteps := 1000000 }) (disch := ((try simp only [awL]); omega)) only [QR, QS, QT, QU, QV, QW, QX, QY, QZ, Q0, Q1, Q2, textD, cl, cu, ↓awU, awV, awF, Qa, Qb, Qc, Qd, forall_const, ↓reduceIte, ↓reduceDIte, ↓Qe, Qf, Qg, Qh, Qi, Qj, Qk, Ql, Qm, Qn, Qo, Qp, Qq, Qr, Qs, implies_true, Qt, Qu, Qv, Qw, Qx, Qy, Qz, QA, QB, QC, QD, QE, QF, QG, QH, QI, QJ, QK, QL, QM, QN, QO, QP, QQ]
  refine CallC.of p0 (by rfl) ?_
  simp (config := { maxSteps := 1000000 }) (disch := ((try simp only [awL]); omega)) only [QR, QS, QT, QU, QV, QW, QX, QY, QZ, Q0, Q1, Q2, cl, cu, cc, hs, beq_self_eq_true, ↓awU, awV, awF, Qa, Qb, Qc, Qd, forall_const, ↓reduceIte, ↓reduceDIte, ↓Qe, Qf, Qg, Qh, Qi, Qj, Qk, Ql, Qm, Qn, Qo, Qp, Qq, Qr, Qs, implies_true, Qt, Qu, Qv, Qw, Qx, Qy, Qz, QA, QB, QC, QD, QE, QF, QG, QH, QI, QJ, QK, QL, QM, QN, QO, QP, QQ]
  rfl
end Go.Proofs.YtacepalmphbnfaaGreatDoor

namespace Go.Proofs.YtacepalmphbnfaaGreatDoor
open Go Go.Proofs Go.Abs
variable {G : Globals}
/-! The law SheetJoins. -/
theorem regs_in {g : List Row} (h : Grd g) {x : Ar} (hx : x ∈ regsL g) : x.t ≤ x.b ∧ x.b ≤ 1000 ∧ x.l ≤ x.r ∧ x.r ≤ 1000 := by
  obtain ⟨a, b1, b2, b3, b4⟩ := (regs_ok h).leaf x hx
  have := h.gl
  have := h.gw
  have := a.tb
  have := a.lr
  simp only [wholeG] at b2 b4
  omega
end Go.Proofs.YtacepalmphbnfaaGreatDoor

namespace Go.Proofs.YtacepalmphbnfaaGreatDoor
open Go Go.Proofs Go.Abs
variable {G : Globals}
/-! The law SheetMoves. -/
theorem RD.sl_unf {h : Held} {v : Value} {n : Nat} {f : Bool} {cells : List D} (r : RD h v (.sl n f cells)) : RD h v (.sl n f (cells.map unf0)) := by
  cases r with
  | sl0 base => exact .sl0 base f
  | sl g off n cap f cells vs hn hf hh hr h1 =>
    refine .sl g off n cap f _ vs hn hf (fun i x hx => ?_) (fun i x hx => ?_) fun i x hx => ?_
    all_goals
      rw [List.getElem?_map] at hx
      cases hc : cells[i]? with
      | none => rw [hc] at hx; cases hx
      | some y =>
        rw [hc] at hx
        cases hx
        first
        | exact hh i y hc
        | exact (hr i y hc).unf0
        | (have := h1 i y hc
           cases y <;> first | exact this | rfl)
theorem ctr_grid {P : Program} {f : FuncId} {n : Nat} {c1 c2 : List D} {H H' : List ABlk} {res : AV} (c : Ctr P G f [.d (.agg [.sl n false c2])] H res H') (e : c1.map unf0 = c2) : Ctr P G f [.d (.agg [.sl n false c1])] H res H' :=
  ⟨c.1, fun hd ρ w vs s r => c.2 hd ρ w vs s (by
    subst e
    refine ⟨r.1, fun i v x hv hx => ?_⟩
    cases i with
    | succ i => simp at hx
    | zero =>
      simp only [List.getElem?_cons_zero, Option.some.injEq] at hx
      subst hx
      have h1 := r.2 0 v _ hv rfl
      cases h1 with
      | d _ _ h2 =>
        refine .d _ _ ?_
        cases h2 with
        | agg us _ hl hr =>
          refine .agg us _ hl fun i v x hv hx => ?_
          cases i with
          | succ i => simp at hx
          | zero =>
            simp only [List.getElem?_cons_zero, Option.some.injEq] at hx
            subst hx
            exact RD.sl_unf (hr 0 v _ hv rfl))⟩
def mvR (n m : Nat) (g : List Row) : List D := zerosD [D.sl 0 true []] n ++ rowsD (g.map fun r => List.replicate m [] ++ r)
theorem mvR_len (n m : Nat) (g : List Row) : (mvR n m g).length = n + g.length := by rw [mvR, List.length_append, zerosD_length, rowsD_length, List.length_map]
theorem mvR_unf (n m : Nat) (g : List Row) : (mvR n m g).map unf0 = rowsD (moveG n m g) := by
  rw [mvR, List.map_append, rowsD_unf, zerosD_one, List.map_replicate, moveG, ← rowsD_app]
  congr 1
  simp [rowsD, strs, unf0]
theorem mvR_push {n m : Nat} {g : List Row} {i : Nat} (h : i < g.length) : mvR n m (g.take i) ++ [Ss (List.replicate m [] ++ g.getD i []) false] = mvR n m (g.take (i + 1)) := by
  rw [mvR, List.append_assoc, rowsD_push, mvR, List.take_add_one, getD_some (d := []) h, List.map_append]
  rfl
theorem zero_strs (n : Nat) : zerosD [D.str .empty] n = strs (List.replicate n []) := by rw [zerosD_one, strs, List.map_replicate]; rfl
theorem rgs_c2 {l : List Ar} {k : Nat} (h : k < l.length) : (regC (rgs l)).getD (k * 4 + 2) .nilp = .int .i64 (l.getD k default).b := by
  rw [rgs_cell h (by decide), rgs_cells h]; rfl
theorem rgs_c3 {l : List Ar} {k : Nat} (h : k < l.length) : (regC (rgs l)).getD (k * 4 + 3) .nilp = .int .i64 (l.getD k default).r := by
  rw [rgs_cell h (by decide), rgs_cells h]; rfl
theorem set4 {l : List Ar} {i n m : Nat} {r : Ar} (h : i < l.length) (e : l.getD i default = r) :
    (((((regC (rgs l)).set (i * 4) (.int .i64 (r.t + n : Nat))).set (i * 4 + 2) (.int .i64 (r.b + n : Nat))).set (i * 4 + 1) (.int .i64 (r.l + m : Nat))).set (i * 4 + 3) (.int .i64 (r.r + m : Nat))) = regC (rgs (l.set i (r.mv n m))) := by
  have hd : l.drop i = r :: l.drop (i + 1) := by
    rw [List.drop_eq_getElem_cons h]
    rw [List.getD_eq_getElem?_getD, List.getElem?_eq_getElem h] at e
    rw [← e]; rfl
  have e1 : regC (rgs l) = regC (rgs (l.take i)) ++ (D.int .i64 r.t :: D.int .i64 r.l :: D.int .i64 r.b :: D.int .i64 r.r :: regC (rgs (l.drop (i + 1)))) := by
    conv => lhs; rw [← List.take_append_drop i l, hd]
    rw [show rgs (l.take i ++ r :: l.drop (i + 1)) = rgs (l.take i) ++ rgs (r :: l.drop (i + 1)) from List.map_append .., regC_app]
    rfl
  have e2 : regC (rgs (l.set i (r.mv n m))) = regC (rgs (l.take i)) ++ (D.int .i64 (r.t + n : Nat) :: D.int .i64 (r.l + m : Nat) :: D.int .i64 (r.b + n : Nat) :: D.int .i64 (r.r + m : Nat) :: regC (rgs (l.drop (i + 1)))) := by
    rw [List.set_eq_take_append_cons_drop, if_pos h, show rgs (l.take i ++ r.mv n m :: l.drop (i + 1)) = rgs (l.take i) ++ rgs (r.mv n m :: l.drop (i + 1)) from List.map_append .., regC_app]
    rfl
  have tl : (regC (rgs (l.take i))).length = i * 4 := by rw [regC_length, rgs_length, List.length_take]; omega
  rw [e1, e2]
  generalize regC (rgs (l.take i)) = A at *
  generalize regC (rgs (l.drop (i + 1))) = B at *
  simp [List.set_append, tl]
set_option maxHeartbeats 16000000 in
set_option maxRecDepth 100000 in
theorem moves_law (hI : HI G) (hE : HE G) (t : List Int) (ht : OkS t) (hl : t.length ≤ 9223372036854775807) (dn rt : Int) (d1 : 0 ≤ dn) (d2 : dn ≤ 255) (r1 : 0 ≤ rt) (r2 : rt ≤ 255) :
    Ctr Tryz.prog G 8 [.d (.sl t.length false (ints .u8 t)), .d (.int .u8 dn), .d (.int .u8 rt)] [] (.d (.bool true)) [] := by
  refine Ctr.pure (M := M0) hmix Tryz.func8 rfl go8 ?_
  have hmm := ht.take
  simp (config := { maxSteps := 1000000 }) (disch := ((try simp only [awL]); omega)) only [QR, QS, QT, QU, QV, QW, QX, QY, QZ, Q0, Q1, Q2, Tryz.f8, ↓awU, awV, awF, Qa, Qb, Qc, Qd, forall_const, ↓reduceIte, ↓reduceDIte, ↓Qe, Qf, Qg, Qh, Qi, Qj, Qk, Ql, Qm, Qn, Qo, Qp, Qq, Qr, Qs, implies_true, Qt, Qu, Qv, Qw, Qx, Qy, Qz, QA, QB, QC, QD, QE, QF, QG, QH, QI, QJ, QK, QL, QM, QN, QO, QP, QQ]
  refine CallC.pure (ssane_spec hI hE) ?_
  simp (config := { maxSteps := 1000000 }) (disch := ((try simp only [awL]); omega)) only [QR, QS, QT, QU, QV, QW, QX, QY, QZ, Q0, Q1, Q2, ↓awU, awV, awF, Qa, Qb, Qc, Qd, forall_const, ↓reduceIte, ↓reduceDIte, ↓Qe, Qf, Qg, Qh, Qi, Qj, Qk, Ql, Qm, Qn, Qo, Qp, Qq, Qr, Qs, implies_true, Qt, Qu, Qv, Qw, Qx, Qy, Qz, QA, QB, QC, QD, QE, QF, QG, QH, QI, QJ, QK, QL, QM, QN, QO, QP, QQ]
  refine CallC.by (new_spec t hl) (by rfl) (by rfl) (Nat.zero_le _) ?_
  generalize t.take 300 = s at *
  simp (config := { maxSteps := 1000000 }) (disch := ((try simp only [awL]); omega)) only [QR, QS, QT, QU, QV, QW, QX, QY, QZ, Q0, Q1, Q2, ↓awU, awV, awF, Qa, Qb, Qc, Qd, forall_const, ↓reduceIte, ↓reduceDIte, ↓Qe, Qf, Qg, Qh, Qi, Qj, Qk, Ql, Qm, Qn, Qo, Qp, Qq, Qr, Qs, implies_true, Qt, Qu, Qv, Qw, Qx, Qy, Qz, QA, QB, QC, QD, QE, QF, QG, QH, QI, QJ, QK, QL, QM, QN, QO, QP, QQ]
  refine CallC.by (page_spec s 0 hmm) (by rfl) (by rfl) (Nat.le_refl _) ?_
  have ga := page_small s 0
  generalize pageM s 0 = g at *
  generalize pageK s 0 = k at *
  have gl := @rowsD_length g
  obtain ⟨n, hn, hn4⟩ : ∃ n : Nat, dn.tmod 4 = n ∧ n < 4 := ⟨(dn.tmod 4).toNat, by rw [Int.tmod_eq_emod_of_nonneg d1]; omega, by rw [Int.tmod_eq_emod_of_nonneg d1]; omega⟩
  obtain ⟨m, hm, hm4⟩ : ∃ m : Nat, rt.tmod 4 = m ∧ m < 4 := ⟨(rt.tmod 4).toNat, by rw [Int.tmod_eq_emod_of_nonneg r1]; omega, by rw [Int.tmod_eq_emod_of_nonneg r1]; omega⟩
  obtain ⟨g1, g2⟩ := ga.ok (by decide)
  have g8 := ga.1
  simp (config := { maxSteps := 1000000 }) (disch := ((try simp only [awL]); omega)) only [QR, QS, QT, QU, QV, QW, QX, QY, QZ, Q0, Q1, Q2, hn, hm, gl, ↓awU, awV, awF, Qa, Qb, Qc, Qd, forall_const, ↓reduceIte, ↓reduceDIte, ↓Qe, Qf, Qg, Qh, Qi, Qj, Qk, Ql, Qm, Qn, Qo, Qp, Qq, Qr, Qs, implies_true, Qt, Qu, Qv, Qw, Qx, Qy, Qz, QA, QB, QC, QD, QE, QF, QG, QH, QI, QJ, QK, QL, QM, QN, QO, QP, QQ]
  have bd : (moveG n m g).length = n + g.length := move_len n m g
  have mw := (move_wid n m g).1
  have gw : widG g ≤ 8 := widG_le fun r hr => (ga.2 r hr).1
  have jg : Grd (moveG n m g) := move_grd g2 (by omega) (by omega)
  have jr := regs_move g2 (n := n) (m := m) (by omega) (by omega)
  have jo : okGrid (moveG n m g) := by
    refine ⟨by omega, fun r hr => ?_⟩
    rcases List.mem_append.1 hr with hr | hr
    · rw [List.eq_of_mem_replicate hr]; exact ⟨by simp, by simp⟩
    · obtain ⟨r0, h0, rfl⟩ := List.mem_map.1 hr
      have := ga.2 r0 h0
      refine ⟨by rw [List.length_append, List.length_replicate]; omega, fun s hs => ?_⟩
      rcases List.mem_append.1 hs with hs | hs
      · rw [List.eq_of_mem_replicate hs]; simp
      · exact (g1.2 r0 h0).2 s hs
  have fj := regs_few jg
  have fa := regs_few g2
  have ra := regions_spec (G := G) g false g1 g2
  have rj := regions_spec (G := G) (moveG n m g) false jo jg
  rw [jr] at fj
  have rm := ctr_grid (c1 := mvR n m g) rj (mvR_unf n m g)
  rw [jr, bd] at rm
  clear rj
  have hin := fun (x : Ar) (hx : x ∈ regsL g) => regs_in g2 hx
  refine LoopC.fr 12884905728 (α := Nat) (fun i => g.length - i) (fun i => [(34, .d (.int .i64 i))]) (fun i => [.dead, .box [.d (Gr g false)], .row false (mvR n m (g.take i)), .box [.lsl 2 1 0 (n + i)]]) (fun i => i ≤ g.length) 0 (Nat.zero_le _) ?_ ?_
  · exact ⟨[some 0, some 1, some 2, some 3], rfl, by simp, by simp [setsA, keepA, SWeak, AWeak], by simp [HWeak, BWeak, SWeak, AWeak, mvR, rowsD]⟩
  · intro i hi
    have ml := mvR_len n m (g.take i)
    rw [List.length_take, Nat.min_eq_left hi] at ml
    simp only [awK, Nat.reduceMod, Nat.reduceDiv, reduceIte]
    rcases Nat.lt_or_ge i g.length with h | h
    · have rg := rowsD_getD h
      have rs := ga.2 _ (memD (d := []) h)
      have mp := mvR_push (n := n) (m := m) h
      have st := @strs_length (g.getD i [])
      have sa : strs (List.replicate m []) ++ strs (g.getD i []) = strs (List.replicate m [] ++ g.getD i []) := by simp [strs]
      have rl : (List.replicate m ([] : List UInt8) ++ g.getD i []).length = m + (g.getD i []).length := by simp
      have zl := @strs_length (List.replicate m [])
      rw [List.length_replicate] at zl
      generalize g.getD i [] = r at *
      have cu : cut (strs (List.replicate m [] ++ r)) 0 (m + r.length) = strs (List.replicate m [] ++ r) := cut_all (by rw [strs_length, rl])
      have mp2 : mvR n m (g.take i) ++ [D.sl (m + r.length) false (strs (List.replicate m [] ++ r))] = mvR n m (g.take (i + 1)) := by rw [← mp, ← rl]
      simp (config := { maxSteps := 1000000 }) (disch := ((try simp only [awL]); omega)) only [QR, QS, QT, QU, QV, QW, QX, QY, QZ, Q0, Q1, Q2, gl, rg, st, zero_strs, zl, sa, cu, ml, ↓awU, awV, awF, Qa, Qb, Qc, Qd, forall_const, ↓reduceIte, ↓reduceDIte, ↓Qe, Qf, Qg, Qh, Qi, Qj, Qk, Ql, Qm, Qn, Qo, Qp, Qq, Qr, Qs, implies_true, Qt, Qu, Qv, Qw, Qx, Qy, Qz, QA, QB, QC, QD, QE, QF, QG, QH, QI, QJ, QK, QL, QM, QN, QO, QP, QQ]
      rw [mp2]
      exact ⟨by rfl, i + 1, h, by simp only; omega, ⟨[some 0, some 1, some 7, some 3], rfl, by simp, by simp [setsA, keepA, SWeak, AWeak], by simp [HWeak, BWeak, SWeak, AWeak, Nat.add_assoc]⟩⟩
    · obtain rfl : i = g.length := by omega
      rw [List.take_length] at *
      simp (config := { maxSteps := 1000000 }) (disch := ((try simp only [awL]); omega)) only [QR, QS, QT, QU, QV, QW, QX, QY, QZ, Q0, Q1, Q2, gl, ↓awU, awV, awF, Qa, Qb, Qc, Qd, forall_const, ↓reduceIte, ↓reduceDIte, ↓Qe, Qf, Qg, Qh, Qi, Qj, Qk, Ql, Qm, Qn, Qo, Qp, Qq, Qr, Qs, implies_true, Qt, Qu, Qv, Qw, Qx, Qy, Qz, QA, QB, QC, QD, QE, QF, QG, QH, QI, QJ, QK, QL, QM, QN, QO, QP, QQ]
      refine CallC.by (L := []) ra (by rfl) (by rfl) (by simp) ?_
      generalize regsL g = la at *
      obtain ⟨acc, hacc⟩ : ∃ acc : Nat → List Ar, acc = fun i => (la.take i).map (Ar.mv n m) ++ la.drop i := ⟨_, rfl⟩
      have acl : ∀ i, i ≤ la.length → (acc i).length = la.length := fun i hi => by rw [hacc]; simp; omega
      have ac0 : acc 0 = la := by rw [hacc]; simp
      have acz : acc la.length = la.map (Ar.mv n m) := by rw [hacc]; simp
      have acg : ∀ i, i < la.length → (acc i).getD i default = la.getD i default := fun i hi => by
        have tl : ((la.take i).map (Ar.mv n m)).length = i := by rw [List.length_map, List.length_take]; omega
        rw [hacc]
        simp only
        rw [List.getD_eq_getElem?_getD, List.getElem?_append_right (by omega), tl, Nat.sub_self, List.getElem?_drop, ← List.getD_eq_getElem?_getD]; rfl
      have acs : ∀ i, i < la.length → (acc i).set i ((la.getD i default).mv n m) = acc (i + 1) := fun i hi => by
        have tl : ((la.take i).map (Ar.mv n m)).length = i := by rw [List.length_map, List.length_take]; omega
        rw [hacc]
        simp only
        rw [List.set_append, if_neg (by omega), tl, Nat.sub_self, List.drop_eq_getElem_cons hi, List.set_cons_zero, List.take_add_one, List.getElem?_eq_getElem hi, List.map_append, List.getD_eq_getElem?_getD, List.getElem?_eq_getElem hi]
        simp
      have mcl := mvR_len n m g
      have mcu : cut (mvR n m g) 0 (n + g.length) = mvR n m g := cut_all mcl.symm
      have ol := regC_length (rgs la)
      rw [rgs_length] at ol
      simp (config := { maxSteps := 1000000 }) (disch := ((try simp only [awL]); omega)) only [QR, QS, QT, QU, QV, QW, QX, QY, QZ, Q0, Q1, Q2, ↓awU, awV, awF, Qa, Qb, Qc, Qd, forall_const, ↓reduceIte, ↓reduceDIte, ↓Qe, Qf, Qg, Qh, Qi, Qj, Qk, Ql, Qm, Qn, Qo, Qp, Qq, Qr, Qs, implies_true, Qt, Qu, Qv, Qw, Qx, Qy, Qz, QA, QB, QC, QD, QE, QF, QG, QH, QI, QJ, QK, QL, QM, QN, QO, QP, QQ]
      refine LoopC.fr 2251799813705216 (α := Nat) (fun i => la.length - i) (fun i => [(52, .d (.int .i64 i))]) (fun i => [.dead, .dead, .row false (mvR n m g), .box [.lsl 2 1 0 (n + g.length)], .row false (regC (rgs (acc i)))]) (fun i => i ≤ la.length) 0 (Nat.zero_le _) ?_ ?_
      · exact ⟨[some 0, some 1, some 2, some 3, some 4], rfl, by simp, by simp [setsA, keepA, SWeak, AWeak], by simp [HWeak, BWeak, SWeak, AWeak, ac0]⟩
      · intro i hi
        have oo := regC_length (rgs (acc i))
        rw [rgs_length, acl i hi] at oo
        simp only [awK, Nat.reduceMod, Nat.reduceDiv, reduceIte]
        rcases Nat.lt_or_ge i la.length with h | h
        · have gr := acg i h
          have gs := acs i h
          have hr := hin _ (memD (d := default) h)
          generalize la.getD i default = r at *
          have s4 := set4 (l := acc i) (n := n) (m := m) (by rw [acl i hi]; exact h) gr
          rw [gs] at s4
          have c0 := rgs_c0 (l := acc i) (k := i) (by rw [acl i hi]; exact h)
          have c1 := rgs_c1 (l := acc i) (k := i) (by rw [acl i hi]; exact h)
          have c2 := rgs_c2 (l := acc i) (k := i) (by rw [acl i hi]; exact h)
          have c3 := rgs_c3 (l := acc i) (k := i) (by rw [acl i hi]; exact h)
          rw [gr] at c0 c1 c2 c3
          generalize regC (rgs (acc i)) = X at *
          simp (config := { maxSteps := 1000000 }) (disch := ((try simp only [awL]); omega)) only [QR, QS, QT, QU, QV, QW, QX, QY, QZ, Q0, Q1, Q2, oo, c0, c1, c2, c3, ↓awU, awV, awF, Qa, Qb, Qc, Qd, forall_const, ↓reduceIte, ↓reduceDIte, ↓Qe, Qf, Qg, Qh, Qi, Qj, Qk, Ql, Qm, Qn, Qo, Qp, Qq, Qr, Qs, implies_true, Qt, Qu, Qv, Qw, Qx, Qy, Qz, QA, QB, QC, QD, QE, QF, QG, QH, QI, QJ, QK, QL, QM, QN, QO, QP, QQ]
          rw [s4]
          exact ⟨by rfl, i + 1, h, by simp only; omega, ⟨[some 0, some 1, some 2, some 3, some 4], rfl, by simp, by simp [setsA, keepA, SWeak, AWeak], by simp [HWeak, BWeak, SWeak, AWeak]⟩⟩
        · obtain rfl : i = la.length := by omega
          rw [acz] at oo ⊢
          simp (config := { maxSteps := 1000000 }) (disch := ((try simp only [awL]); omega)) only [QR, QS, QT, QU, QV, QW, QX, QY, QZ, Q0, Q1, Q2, mcu, ↓awU, awV, awF, Qa, Qb, Qc, Qd, forall_const, ↓reduceIte, ↓reduceDIte, ↓Qe, Qf, Qg, Qh, Qi, Qj, Qk, Ql, Qm, Qn, Qo, Qp, Qq, Qr, Qs, implies_true, Qt, Qu, Qv, Qw, Qx, Qy, Qz, QA, QB, QC, QD, QE, QF, QG, QH, QI, QJ, QK, QL, QM, QN, QO, QP, QQ]
          refine CallC.by (L := []) rm (by rfl) (by rfl) (by simp) ?_
          have Fl : (la.map (Ar.mv n m)).length = la.length := List.length_map _
          rw [Fl]
          generalize la.map (Ar.mv n m) = F at *
          have cu : cut (regC (rgs F)) 0 (la.length * 4) = regC (rgs F) := cut_all (by rw [regC_length, rgs_length, Fl]; omega)
          simp (config := { maxSteps := 1000000 }) (disch := ((try simp only [awL]); omega)) only [QR, QS, QT, QU, QV, QW, QX, QY, QZ, Q0, Q1, Q2, cu, ↓awU, awV, awF, Qa, Qb, Qc, Qd, forall_const, ↓reduceIte, ↓reduceDIte, ↓Qe, Qf, Qg, Qh, Qi, Qj, Qk, Ql, Qm, Qn, Qo, Qp, Qq, Qr, Qs, implies_true, Qt, Qu, Qv, Qw, Qx, Qy, Qz, QA, QB, QC, QD, QE, QF, QG, QH, QI, QJ, QK, QL, QM, QN, QO, QP, QQ]
          have sr := sameReg_spec (G := G) (rgs F) false false (by rw [rgs_length]; omega)
          rw [rgs_length, Fl] at sr
          refine CallC.frozenE sr (by rfl) ?_
          simp (config := { maxSteps := 1000000 }) (disch := ((try simp only [awL]); omega)) only [QR, QS, QT, QU, QV, QW, QX, QY, QZ, Q0, Q1, Q2, ↓awU, awV, awF, Qa, Qb, Qc, Qd, forall_const, ↓reduceIte, ↓reduceDIte, ↓Qe, Qf, Qg, Qh, Qi, Qj, Qk, Ql, Qm, Qn, Qo, Qp, Qq, Qr, Qs, implies_true, Qt, Qu, Qv, Qw, Qx, Qy, Qz, QA, QB, QC, QD, QE, QF, QG, QH, QI, QJ, QK, QL, QM, QN, QO, QP, QQ]
theorem moves_lawU (hI : HI G) (hE : HE G) (t : List Int) (ht : OkS t) (hl : t.length ≤ 9223372036854775807) (dn rt : UInt8) :
    Ctr Tryz.prog G 8 [.d (.sl t.length false (ints .u8 t)), .d (.int .u8 dn.toNat), .d (.int .u8 rt.toNat)] [] (.d (.bool true)) [] :=
  moves_law hI hE t ht hl dn.toNat rt.toNat (by omega) (by have := dn.toNat_lt; omega) (by omega) (by have := rt.toNat_lt; omega)
end Go.Proofs.YtacepalmphbnfaaGreatDoor
