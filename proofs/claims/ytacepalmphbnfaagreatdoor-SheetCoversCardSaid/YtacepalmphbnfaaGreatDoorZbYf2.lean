/-
  Contracts of the functions, one after another.
-/
import Derived.Test.YtacepalmphbnfaaGreatDoorZbYf1
import Derived.Shelf.SlSortCmp.WholeK
import Derived.Shelf.SlSortCmp.NoneTotal
import Derived.Shelf.SlicesG.Cmp
import Derived.Ground.SlsfProg
import Derived.Ground.SlgcProg
import Derived.Lib.Walk
import Derived.LoopN
import Derived.StillTailTactics
import Derived.Deep.Draws
import Derived.Sort.Grow
set_option linter.all false
open Go.Abs renaming ofVal → Qa, ofVal0 → Qb, isShift → Qc, aggK → Qd, purePost → Qe, combine → Qf, idsA → Qg, cellsA → Qh, numsOf → Qi, srcA → Qj, calleeA → Qk, refsA → Ql, isScalar → Qm, scalarD → Qn, scalar0 → Qo, putL → Qr, unfA → Qs, sidsB → QJ, keyKD → QL, isIntK → QM, aggD → QN, aggL → QO, eqKs → QP, boxRow → QQ, nextC_more → QT, nextC_over → QU, bs_size → QV, bs_extract → QW, bs_toList → QX, bs_append → QY, byteAt_bs → QZ, bs_cells → Q0, nums_length → Q1, nums_getD → Q2
open Go.Abs.AV renaming one → Qp
open Go.Abs.D renaming one → Qq
open Go.IntKind renaming signed → Qt
open Nat renaming reduceAdd → Qu, reduceSub → Qv, reduceMul → Qw, reducePow → Qx, reduceDiv → Qy, reduceMod → Qz, reduceEqDiff → QI, reduceBEq → QK
open Int renaming reduceAdd → QA, reduceSub → QB, reduceMul → QC, reducePow → QD, reduceNeg → QE, reduceToNat → QF, reduceLT → QG, reduceLE → QH
open Option renaming toList_some → QR, toList_none → QS
namespace Go.Proofs.YtacepalmphbnfaaGreatDoor
open Go Go.Proofs Go.Abs
variable {G : Globals}
/-! Sheet: the regions with a text: sheet.Parse. -/
theorem pin3 {s : List AV} (h0 : Pin s 0) (h1 : Pin s 1) (h2 : Pin s 2) {a b c : Option Nat} : pinOK 8 [some 0, some 1, some 2, a, b, c] s [(0, 8), (1, 9), (2, 10)] := by
  refine ⟨by decide, fun q hq => ?_⟩
  simp only [List.mem_cons, List.not_mem_nil, or_false] at hq
  rcases hq with rfl | rfl | rfl
  · exact ⟨0, rfl, by decide, rfl, h0⟩
  · exact ⟨1, rfl, by decide, rfl, h1⟩
  · exact ⟨2, rfl, by decide, rfl, h2⟩
theorem deads8 : deads 8 = [.dead, .dead, .dead, .dead, .dead, .dead, .dead, .dead] := rfl
section
variable {a0 a1 a2 a3 a4 a5 a6 a7 b0 b1 b2 : ABlk} {r : List ABlk}
theorem swapB08 : swapB 0 8 (a0 :: a1 :: a2 :: a3 :: a4 :: a5 :: a6 :: a7 :: b0 :: r) = (b0 :: a1 :: a2 :: a3 :: a4 :: a5 :: a6 :: a7 :: .dead :: r).map (renB (swF 0 8)) := rfl
theorem swapB19 : swapB 1 9 (a0 :: a1 :: a2 :: a3 :: a4 :: a5 :: a6 :: a7 :: b0 :: b1 :: r) = (a0 :: b1 :: a2 :: a3 :: a4 :: a5 :: a6 :: a7 :: b0 :: .dead :: r).map (renB (swF 1 9)) := rfl
theorem swapB210 : swapB 2 10 (a0 :: a1 :: a2 :: a3 :: a4 :: a5 :: a6 :: a7 :: b0 :: b1 :: b2 :: r) = (a0 :: a1 :: b2 :: a3 :: a4 :: a5 :: a6 :: a7 :: b0 :: b1 :: .dead :: r).map (renB (swF 2 10)) := rfl
end
theorem splC_len (c : UInt8) : ∀ (n : Nat) (s : List UInt8), s.length = n → (splC c s).length ≤ n + 1 ∧ ∀ p ∈ splC c s, p.length ≤ n := by
  intro n
  induction n using Nat.strongRecOn with
  | _ n ih =>
    intro s hn
    by_cases h : c ∈ s
    · rw [splC_more h]
      have hl := cut_len h
      obtain ⟨a, b⟩ := ih _ (by omega) (cutR c s) rfl
      refine ⟨by rw [List.length_cons]; omega, fun p hp => ?_⟩
      rcases List.mem_cons.1 hp with rfl | hp
      · omega
      · have := b p hp; omega
    · rw [splC_last h]
      refine ⟨by simp, fun p hp => ?_⟩
      simp at hp; subst hp; omega
def pieceO (p : List UInt8) : Option Rg := match allO atoiO (splC 44 p) with
  | some [a, b, c, d] => some ⟨a, b, c, d⟩
  | _ => none
def outO (s : List UInt8) : Option (List Rg) := allO pieceO (splC 59 s)
def parO (s : List UInt8) : Option (List Rg) := match outO s with
  | some l => if textR l = some s then some l else none
  | none => none
def parD (s : List UInt8) : D := if s = [] then .tup [.sl 0 false [], .bool true] else match parO s with
  | some l => .tup [.sl l.length false (regC l), .bool true]
  | none => .tup [.sl 0 false [], .bool false]
theorem firstB {α : Type} (f : List UInt8 → Option α) (m : Nat) (ps : List (List UInt8)) : (∃ n, n < ps.length ∧ n ≤ m ∧ (∀ k, k < n → f (ps.getD k []) ≠ none) ∧ (n = m ∨ f (ps.getD n []) = none)) ∨ (ps.length ≤ m ∧ ∃ o, allO f ps = some o) := by
  have key : ∀ q, q ≤ m → q ≤ ps.length → (∃ n, n < q ∧ (∀ k, k < n → f (ps.getD k []) ≠ none) ∧ f (ps.getD n []) = none) ∨ ∀ k, k < q → f (ps.getD k []) ≠ none := by
    intro q
    induction q with
    | zero => intro _ _; exact .inr fun k hk => absurd hk (Nat.not_lt_zero _)
    | succ q ih =>
      intro h1 h2
      rcases ih (by omega) (by omega) with ⟨n, a, b, c⟩ | h
      · exact .inl ⟨n, by omega, b, c⟩
      · by_cases e : f (ps.getD q []) = none
        · exact .inl ⟨q, by omega, h, e⟩
        · exact .inr fun k hk => by
            rcases Nat.lt_or_ge k q with x | x
            · exact h k x
            · obtain rfl : k = q := by omega
              exact e
  rcases Nat.lt_or_ge m ps.length with h | h
  · rcases key m (Nat.le_refl _) (by omega) with ⟨n, a, b, c⟩ | k
    · exact .inl ⟨n, by omega, by omega, b, .inr c⟩
    · exact .inl ⟨m, h, Nat.le_refl _, k, .inl rfl⟩
  · rcases key ps.length h (Nat.le_refl _) with ⟨n, a, b, c⟩ | k
    · exact .inl ⟨n, a, by omega, b, .inr c⟩
    · exact .inr ⟨h, allO_some k⟩
def pieceV (p : List UInt8) : Rg := (pieceO p).getD noRg
theorem piece_good {p : List UInt8} (h : pieceO p ≠ none) : ∃ a b c d, allO atoiO (splC 44 p) = some [a, b, c, d] ∧ pieceV p = ⟨a, b, c, d⟩ := by
  unfold pieceV pieceO at *
  split at h
  · rename_i a b c d e
    exact ⟨a, b, c, d, e, rfl⟩
  · exact absurd rfl h
/-- What stops a piece. -/
theorem piece_bad {p : List UInt8} (h : pieceO p = none) : (∃ n, n < (splC 44 p).length ∧ n ≤ 4 ∧ (∀ k, k < n → atoiO ((splC 44 p).getD k []) ≠ none) ∧ (n = 4 ∨ atoiO ((splC 44 p).getD n []) = none)) ∨ ((splC 44 p).length < 4 ∧ ∀ k, k < (splC 44 p).length → atoiO ((splC 44 p).getD k []) ≠ none) := by
  rcases firstB atoiO 4 (splC 44 p) with q | ⟨h1, o, ho⟩
  · exact .inl q
  · refine .inr ⟨?_, fun k hk => by rw [allO_at (d := (0 : Int)) ho hk]; simp⟩
    have hl := allO_len ho
    rcases Nat.lt_or_ge (splC 44 p).length 4 with q | q
    · exact q
    · have h4 : o.length = 4 := by omega
      exfalso
      unfold pieceO at h
      rw [ho] at h
      match o, h4 with
      | [a, b, c, d], _ => cases h
theorem allO_map {f : List UInt8 → Option Int} {l : List (List UInt8)} {o : List Int} (h : allO f l = some o) : l.map (fun p => (f p).getD 0) = o := by
  apply List.ext_getElem?
  intro i
  rw [List.getElem?_map]
  have hol := allO_len h
  rcases Nat.lt_or_ge i l.length with hi | hi
  · have := allO_at (d := (0 : Int)) h hi
    rw [List.getElem?_eq_getElem hi, List.getElem?_eq_getElem (by omega)]
    rw [List.getD_eq_getElem?_getD, List.getD_eq_getElem?_getD, List.getElem?_eq_getElem hi, List.getElem?_eq_getElem (show i < o.length by omega)] at this
    simp only [Option.getD_some] at this
    simp only [Option.map_some, this, Option.getD_some]
  · rw [List.getElem?_eq_none hi, List.getElem?_eq_none (by omega)]; rfl
set_option maxHeartbeats 16000000 in
set_option maxRecDepth 100000 in
theorem sparse_spec (hI : HI G) (hE : HE G) (s : List UInt8) (hs : s.length ≤ 900000) : Ctr Tryz.prog G 49 [.d (S s)] [] (.d (parD s)) [] := by
  obtain ⟨r, hr⟩ : ∃ r, r = parD s := ⟨_, rfl⟩
  rw [← hr]
  unfold parD at hr
  refine Ctr.pure (M := M0) hmix Tryz.func49 rfl go49 ?_
  obtain ⟨n1, n2⟩ := splC_len 59 _ s rfl
  by_cases hs0 : s = []
  · subst hs0
    rw [if_pos rfl] at hr
    simp (config := { maxSteps := 1000000 }) (disch := ((try simp only [awL]); omega)) only [QR, QS, QT, QU, QV, QW, QX, QY, QZ, Q0, Q1, Q2, beq_self_eq_true, Tryz.f49, ↓awU, awV, awF, Qa, Qb, Qc, Qd, forall_const, ↓reduceIte, ↓reduceDIte, ↓Qe, Qf, Qg, Qh, Qi, Qj, Qk, Ql, Qm, Qn, Qo, Qp, Qq, Qr, Qs, implies_true, Qt, Qu, Qv, Qw, Qx, Qy, Qz, QA, QB, QC, QD, QE, QF, QG, QH, QI, QJ, QK, QL, QM, QN, QO, QP, QQ]
    rw [hr]; try rfl
  · rw [if_neg hs0] at hr
    have hsb : (s == []) = false := by simpa using hs0
    simp (config := { maxSteps := 1000000 }) (disch := ((try simp only [awL]); omega)) only [QR, QS, QT, QU, QV, QW, QX, QY, QZ, Q0, Q1, Q2, hsb, Tryz.f49, ↓awU, awV, awF, Qa, Qb, Qc, Qd, forall_const, ↓reduceIte, ↓reduceDIte, ↓Qe, Qf, Qg, Qh, Qi, Qj, Qk, Ql, Qm, Qn, Qo, Qp, Qq, Qr, Qs, implies_true, Qt, Qu, Qv, Qw, Qx, Qy, Qz, QA, QB, QC, QD, QE, QF, QG, QH, QI, QJ, QK, QL, QM, QN, QO, QP, QQ]
    refine CallC.by (splitC_spec 59 s) rfl rfl (by simp) ?_
    simp (config := { maxSteps := 1000000 }) (disch := ((try simp only [awL]); omega)) only [QR, QS, QT, QU, QV, QW, QX, QY, QZ, Q0, Q1, Q2, ↓awU, awV, awF, Qa, Qb, Qc, Qd, forall_const, ↓reduceIte, ↓reduceDIte, ↓Qe, Qf, Qg, Qh, Qi, Qj, Qk, Ql, Qm, Qn, Qo, Qp, Qq, Qr, Qs, implies_true, Qt, Qu, Qv, Qw, Qx, Qy, Qz, QA, QB, QC, QD, QE, QF, QG, QH, QI, QJ, QK, QL, QM, QN, QO, QP, QQ]
    rcases firstB pieceO (s.length + 2) (splC 59 s) with ⟨n, h1, h2, h3, h4⟩ | ⟨h1, o, ho⟩
    · have hpn : pieceO ((splC 59 s).getD n []) = none := by
        rcases h4 with h4 | h4
        · omega
        · exact h4
      have hpg := h3
      have hbad : parO s = none := by
        unfold parO outO
        rw [allO_none h1 hpn]
      rw [hbad] at hr
      refine RangeC.stop (α := Unit) (β := Unit) (split1C_spec 59 s (by omega)) n (by rw [strs_length]; exact h1) [some 0, some 1, some 2, none] 1 [(2, .ptr 0 0), (3, .ptr 1 0), (4, .ptr 2 0)] (fun k _ => [.box [.d (.sl 0 true [])], .box [.d (.bool false)], .box [.lsl 3 4 0 k], .row false (regC (((splC 59 s).take k).map pieceV))]) (fun k _ => True) .ret (fun _ => [.box [.d (.sl 0 true [])], .box [.d (.bool false)], .dead, .dead]) (fun _ => True)
        rfl rfl rfl rfl rfl rfl rfl (by simp) () trivial (by simp [setsA, keepA, SWeak, AWeak]) (by simp [HWeak, BWeak, SWeak, AWeak, regC]) (fun _ _ => ⟨rfl, rfl⟩) (fun _ => rfl) ?_ ?_ ?_
      · rintro k d ⟨⟩ hk hd -
        obtain ⟨y, hy, rfl⟩ := strs_get hd
        have hk2 : k < (splC 59 s).length := by first | omega | (rw [strs_length] at hk; exact hk)
        have hyl := n2 y (List.mem_of_getElem? hy)
        have hyd : (splC 59 s).getD k [] = y := by rw [List.getD_eq_getElem?_getD, hy]; rfl
        have hoy : pieceO y ≠ none := by rw [← hyd]; exact hpg k (by first | exact hk | exact hk2)
        have st := regC_length (((splC 59 s).take k).map pieceV)
        rw [List.length_map, List.length_take, Nat.min_eq_left (by omega)] at st
        have e2 : regC (((splC 59 s).take k).map pieceV) ++ (pieceV y).cells = regC (((splC 59 s).take (k + 1)).map pieceV) := by
          rw [List.take_add_one, hy, List.map_append, regC_app]; rfl
        generalize regC (((splC 59 s).take k).map pieceV) = acc at *
        generalize regC (((splC 59 s).take (k + 1)).map pieceV) = acc2 at *
        obtain ⟨a, b, c, d, g1, g2⟩ := piece_good hoy
        rw [g2] at e2
        obtain ⟨m1, m2⟩ := splC_len 44 _ y rfl
        have gl4 : (splC 44 y).length = 4 := (allO_len g1).symm
        have gm : (splC 44 y).map atoiV = [a, b, c, d] := allO_map g1
        have hgood : ∀ j, j < (splC 44 y).length → atoiO ((splC 44 y).getD j []) ≠ none := fun j hj => by rw [allO_at (d := (0 : Int)) g1 hj]; simp
        simp only [awK, Nat.reduceMod, Nat.reduceDiv, reduceIte]
        simp (config := { maxSteps := 1000000 }) (disch := ((try simp only [awL]); omega)) only [QR, QS, QT, QU, QV, QW, QX, QY, QZ, Q0, Q1, Q2, ↓awU, awV, awF, Qa, Qb, Qc, Qd, forall_const, ↓reduceIte, ↓reduceDIte, ↓Qe, Qf, Qg, Qh, Qi, Qj, Qk, Ql, Qm, Qn, Qo, Qp, Qq, Qr, Qs, implies_true, Qt, Qu, Qv, Qw, Qx, Qy, Qz, QA, QB, QC, QD, QE, QF, QG, QH, QI, QJ, QK, QL, QM, QN, QO, QP, QQ]
        refine CallC.by (splitC_spec 44 y) rfl rfl (by simp) ?_
        simp (config := { maxSteps := 1000000 }) (disch := ((try simp only [awL]); omega)) only [QR, QS, QT, QU, QV, QW, QX, QY, QZ, Q0, Q1, Q2, ↓awU, awV, awF, Qa, Qb, Qc, Qd, forall_const, ↓reduceIte, ↓reduceDIte, ↓Qe, Qf, Qg, Qh, Qi, Qj, Qk, Ql, Qm, Qn, Qo, Qp, Qq, Qr, Qs, implies_true, Qt, Qu, Qv, Qw, Qx, Qy, Qz, QA, QB, QC, QD, QE, QF, QG, QH, QI, QJ, QK, QL, QM, QN, QO, QP, QQ]
        refine RangeC.allP (α := Unit) (split1C_spec 44 y (by omega)) [(0, 8), (1, 9), (2, 10)] [some 0, some 1, some 2, some 3, some 4, none] 1 [(2, .ptr 0 0), (3, .ptr 1 0), (4, .ptr 2 0), (6, .ptr 4 0)] (fun j _ => [.box [.d (.sl 0 true [])], .box [.d (.bool false)], .box [.lsl 3 4 0 k], .row false acc, .box [.lsl 5 1 0 j], .row false (ints .i64 (((splC 44 y).take j).map atoiV))]) (fun j _ => True)
          rfl rfl rfl rfl rfl rfl (pin3 ⟨2, 0, rfl⟩ ⟨3, 0, rfl⟩ ⟨4, 0, rfl⟩) rfl (by simp) () trivial (by simp [setsA, keepA, SWeak, AWeak]) (by simp [HWeak, BWeak, SWeak, AWeak, ints]) (fun _ _ => ⟨rfl, rfl⟩) ?_ ?_
        · rintro j d2 ⟨⟩ hj hd2 -
          obtain ⟨z, hz, rfl⟩ := strs_get hd2
          have hzl := m2 z (List.mem_of_getElem? hz)
          have hj2 : j < (splC 44 y).length := by first | omega | (rw [strs_length] at hj; exact hj)
          have hzd : (splC 44 y).getD j [] = z := by rw [List.getD_eq_getElem?_getD, hz]; rfl
          have hoz : atoiO z ≠ none := by rw [← hzd]; exact hgood j (by first | exact hj | exact hj2)
          have stz := @ints_length .i64 (((splC 44 y).take j).map atoiV)
          rw [List.length_map, List.length_take, Nat.min_eq_left (by omega)] at stz
          have e3 : ints .i64 (((splC 44 y).take j).map atoiV) ++ [D.int .i64 (atoiV z)] = ints .i64 (((splC 44 y).take (j + 1)).map atoiV) := by
            rw [List.take_add_one, hz, List.map_append]; simp [ints]
          have hj4 : j < 4 := by omega
          simp only [awK, Nat.reduceMod, Nat.reduceDiv, reduceIte]
          simp (config := { maxSteps := 1000000 }) (disch := ((try simp only [awL]); omega)) only [QR, QS, QT, QU, QV, QW, QX, QY, QZ, Q0, Q1, Q2, stz, ↓awU, awV, awF, Qa, Qb, Qc, Qd, forall_const, ↓reduceIte, ↓reduceDIte, ↓Qe, Qf, Qg, Qh, Qi, Qj, Qk, Ql, Qm, Qn, Qo, Qp, Qq, Qr, Qs, implies_true, Qt, Qu, Qv, Qw, Qx, Qy, Qz, QA, QB, QC, QD, QE, QF, QG, QH, QI, QJ, QK, QL, QM, QN, QO, QP, QQ]
          refine CallC.pure (atoi_spec hE z (by omega)) ?_
          rw [atoiD_ok hoz]
          simp (config := { maxSteps := 1000000 }) (disch := ((try simp only [awL]); omega)) only [QR, QS, QT, QU, QV, QW, QX, QY, QZ, Q0, Q1, Q2, stz, e3, ↓awU, awV, awF, Qa, Qb, Qc, Qd, forall_const, ↓reduceIte, ↓reduceDIte, ↓Qe, Qf, Qg, Qh, Qi, Qj, Qk, Ql, Qm, Qn, Qo, Qp, Qq, Qr, Qs, implies_true, Qt, Qu, Qv, Qw, Qx, Qy, Qz, QA, QB, QC, QD, QE, QF, QG, QH, QI, QJ, QK, QL, QM, QN, QO, QP, QQ]
          exact RndE.mk (⟨[some 0, some 1, some 2, some 3, some 4, some 7], rfl, by simp, by simp [setsA, keepA, SWeak, AWeak], by simp [HWeak, BWeak, SWeak, AWeak]⟩ : Weak 0 _ _ _ [.box [.d (.sl 0 true [])], .box [.d (.bool false)], .box [.lsl 3 4 0 k], .row false acc, .box [.lsl 5 1 0 (j + 1)], .row false (ints .i64 (((splC 44 y).take (j + 1)).map atoiV))]) ⟨(), rfl⟩
        · rintro ⟨⟩ -
          rw [strs_length, gl4, ← gl4, List.take_length, gl4, gm]
          have i4 : (ints .i64 [a, b, c, d]).length = 4 := rfl
          have q0 : (ints .i64 [a, b, c, d]).getD 0 .nilp = .int .i64 a := rfl
          have q1 : (ints .i64 [a, b, c, d]).getD 1 .nilp = .int .i64 b := rfl
          have q2 : (ints .i64 [a, b, c, d]).getD 2 .nilp = .int .i64 c := rfl
          have q3 : (ints .i64 [a, b, c, d]).getD 3 .nilp = .int .i64 d := rfl
          generalize ints .i64 [a, b, c, d] = nu at *
          conv =>
            rhs
            simp only [List.length_cons, List.length_nil, Nat.reduceAdd]
            simp only [deads8, List.map_cons, List.map_nil, renB, renL, renA, Nat.reduceAdd, List.cons_append, List.nil_append]
            simp only [pinB]
            simp only [swapB08, swapB19, swapB210, List.map_cons, List.map_nil, swF, renB, renL, renA, Nat.reduceEqDiff, reduceIte]
          conv =>
            lhs
            simp only [awK, Nat.reduceMod, Nat.reduceDiv, reduceIte]
            simp only [List.length_cons, List.length_nil, Nat.reduceAdd, renL, renA]
            simp only [pinS]
            simp only [renL, renA, swF, Nat.reduceAdd, Nat.reduceEqDiff, reduceIte]
          try simp only [awK, Nat.reduceMod, Nat.reduceDiv, reduceIte]
          simp (config := { maxSteps := 1000000 }) (disch := ((try simp only [awL]); omega)) only [QR, QS, QT, QU, QV, QW, QX, QY, QZ, Q0, Q1, Q2, i4, q0, q1, q2, q3, st, ↓awU, awV, awF, Qa, Qb, Qc, Qd, forall_const, ↓reduceIte, ↓reduceDIte, ↓Qe, Qf, Qg, Qh, Qi, Qj, Qk, Ql, Qm, Qn, Qo, Qp, Qq, Qr, Qs, implies_true, Qt, Qu, Qv, Qw, Qx, Qy, Qz, QA, QB, QC, QD, QE, QF, QG, QH, QI, QJ, QK, QL, QM, QN, QO, QP, QQ]
          have e4 : cut [D.int .i64 a, D.int .i64 b, D.int .i64 c, D.int .i64 d] 0 4 = [D.int .i64 a, D.int .i64 b, D.int .i64 c, D.int .i64 d] := rfl
          try rw [e4]
          rw [e2]
          first
          | exact RndE.mk (⟨[some 0, some 1, some 2, some 15], rfl, by simp, by simp [setsA, keepA, SWeak, AWeak], by simp [HWeak, BWeak, SWeak, AWeak]⟩ : Weak 0 _ _ _ [.box [.d (.sl 0 true [])], .box [.d (.bool false)], .box [.lsl 3 4 0 (k + 1)], .row false acc2]) ⟨(), rfl⟩
          | exact ⟨by rfl, RndE.mk (⟨[some 0, some 1, some 2, some 15], rfl, by simp, by simp [setsA, keepA, SWeak, AWeak], by simp [HWeak, BWeak, SWeak, AWeak]⟩ : Weak 0 _ _ _ [.box [.d (.sl 0 true [])], .box [.d (.bool false)], .box [.lsl 3 4 0 (k + 1)], .row false acc2]) ⟨(), rfl⟩⟩
          | exact ⟨by rfl, by rfl, RndE.mk (⟨[some 0, some 1, some 2, some 15], rfl, by simp, by simp [setsA, keepA, SWeak, AWeak], by simp [HWeak, BWeak, SWeak, AWeak]⟩ : Weak 0 _ _ _ [.box [.d (.sl 0 true [])], .box [.d (.bool false)], .box [.lsl 3 4 0 (k + 1)], .row false acc2]) ⟨(), rfl⟩⟩
      · rintro d ⟨⟩ hd -
        obtain ⟨y, hy, rfl⟩ := strs_get hd
        have hyl := n2 y (List.mem_of_getElem? hy)
        have hyd : (splC 59 s).getD n [] = y := by rw [List.getD_eq_getElem?_getD, hy]; rfl
        rw [hyd] at hpn
        have st := regC_length (((splC 59 s).take n).map pieceV)
        rw [List.length_map, List.length_take, Nat.min_eq_left (by omega)] at st
        generalize regC (((splC 59 s).take n).map pieceV) = acc at *
        obtain ⟨k, hk⟩ : ∃ k, k = n := ⟨_, rfl⟩
        rw [← hk]
        obtain ⟨m1, m2⟩ := splC_len 44 _ y rfl
        simp only [awK, Nat.reduceMod, Nat.reduceDiv, reduceIte]
        simp (config := { maxSteps := 1000000 }) (disch := ((try simp only [awL]); omega)) only [QR, QS, QT, QU, QV, QW, QX, QY, QZ, Q0, Q1, Q2, ↓awU, awV, awF, Qa, Qb, Qc, Qd, forall_const, ↓reduceIte, ↓reduceDIte, ↓Qe, Qf, Qg, Qh, Qi, Qj, Qk, Ql, Qm, Qn, Qo, Qp, Qq, Qr, Qs, implies_true, Qt, Qu, Qv, Qw, Qx, Qy, Qz, QA, QB, QC, QD, QE, QF, QG, QH, QI, QJ, QK, QL, QM, QN, QO, QP, QQ]
        refine CallC.by (splitC_spec 44 y) rfl rfl (by simp) ?_
        simp (config := { maxSteps := 1000000 }) (disch := ((try simp only [awL]); omega)) only [QR, QS, QT, QU, QV, QW, QX, QY, QZ, Q0, Q1, Q2, ↓awU, awV, awF, Qa, Qb, Qc, Qd, forall_const, ↓reduceIte, ↓reduceDIte, ↓Qe, Qf, Qg, Qh, Qi, Qj, Qk, Ql, Qm, Qn, Qo, Qp, Qq, Qr, Qs, implies_true, Qt, Qu, Qv, Qw, Qx, Qy, Qz, QA, QB, QC, QD, QE, QF, QG, QH, QI, QJ, QK, QL, QM, QN, QO, QP, QQ]
        rcases piece_bad hpn with ⟨q, q1, q2, q3, q4⟩ | ⟨q1, q2⟩
        · have hgood := q3
          refine RangeC.stopP (α := Unit) (β := Unit) (split1C_spec 44 y (by omega)) q (by rw [strs_length]; exact q1) [(0, 8), (1, 9), (2, 10)] [some 0, some 1, some 2, some 3, some 4, none] 1 [(2, .ptr 0 0), (3, .ptr 1 0), (4, .ptr 2 0), (6, .ptr 4 0)] (fun j _ => [.box [.d (.sl 0 true [])], .box [.d (.bool false)], .box [.lsl 3 4 0 k], .row false acc, .box [.lsl 5 1 0 j], .row false (ints .i64 (((splC 44 y).take j).map atoiV))]) (fun j _ => True) .ret (fun _ => [.box [.d (.sl 0 true [])], .box [.d (.bool false)], .dead, .dead, .dead, .dead]) (fun _ => True)
            rfl rfl rfl rfl rfl rfl (pin3 ⟨2, 0, rfl⟩ ⟨3, 0, rfl⟩ ⟨4, 0, rfl⟩) rfl (by simp) () trivial (by simp [setsA, keepA, SWeak, AWeak]) (by simp [HWeak, BWeak, SWeak, AWeak, ints]) (fun _ _ => ⟨rfl, rfl⟩) (fun _ => rfl) ?_ ?_ ?_
          · rintro j d2 ⟨⟩ hj hd2 -
            obtain ⟨z, hz, rfl⟩ := strs_get hd2
            have hzl := m2 z (List.mem_of_getElem? hz)
            have hj2 : j < (splC 44 y).length := by first | omega | (rw [strs_length] at hj; exact hj)
            have hzd : (splC 44 y).getD j [] = z := by rw [List.getD_eq_getElem?_getD, hz]; rfl
            have hoz : atoiO z ≠ none := by rw [← hzd]; exact hgood j (by first | exact hj | exact hj2)
            have stz := @ints_length .i64 (((splC 44 y).take j).map atoiV)
            rw [List.length_map, List.length_take, Nat.min_eq_left (by omega)] at stz
            have e3 : ints .i64 (((splC 44 y).take j).map atoiV) ++ [D.int .i64 (atoiV z)] = ints .i64 (((splC 44 y).take (j + 1)).map atoiV) := by
              rw [List.take_add_one, hz, List.map_append]; simp [ints]
            have hj4 : j < 4 := by omega
            simp only [awK, Nat.reduceMod, Nat.reduceDiv, reduceIte]
            simp (config := { maxSteps := 1000000 }) (disch := ((try simp only [awL]); omega)) only [QR, QS, QT, QU, QV, QW, QX, QY, QZ, Q0, Q1, Q2, stz, ↓awU, awV, awF, Qa, Qb, Qc, Qd, forall_const, ↓reduceIte, ↓reduceDIte, ↓Qe, Qf, Qg, Qh, Qi, Qj, Qk, Ql, Qm, Qn, Qo, Qp, Qq, Qr, Qs, implies_true, Qt, Qu, Qv, Qw, Qx, Qy, Qz, QA, QB, QC, QD, QE, QF, QG, QH, QI, QJ, QK, QL, QM, QN, QO, QP, QQ]
            refine CallC.pure (atoi_spec hE z (by omega)) ?_
            rw [atoiD_ok hoz]
            simp (config := { maxSteps := 1000000 }) (disch := ((try simp only [awL]); omega)) only [QR, QS, QT, QU, QV, QW, QX, QY, QZ, Q0, Q1, Q2, stz, e3, ↓awU, awV, awF, Qa, Qb, Qc, Qd, forall_const, ↓reduceIte, ↓reduceDIte, ↓Qe, Qf, Qg, Qh, Qi, Qj, Qk, Ql, Qm, Qn, Qo, Qp, Qq, Qr, Qs, implies_true, Qt, Qu, Qv, Qw, Qx, Qy, Qz, QA, QB, QC, QD, QE, QF, QG, QH, QI, QJ, QK, QL, QM, QN, QO, QP, QQ]
            exact RndE.mk (⟨[some 0, some 1, some 2, some 3, some 4, some 7], rfl, by simp, by simp [setsA, keepA, SWeak, AWeak], by simp [HWeak, BWeak, SWeak, AWeak]⟩ : Weak 0 _ _ _ [.box [.d (.sl 0 true [])], .box [.d (.bool false)], .box [.lsl 3 4 0 k], .row false acc, .box [.lsl 5 1 0 (j + 1)], .row false (ints .i64 (((splC 44 y).take (j + 1)).map atoiV))]) ⟨(), rfl⟩
          · rintro d2 ⟨⟩ hd2 -
            obtain ⟨z, hz, rfl⟩ := strs_get hd2
            have hzl := m2 z (List.mem_of_getElem? hz)
            have hzd : (splC 44 y).getD q [] = z := by rw [List.getD_eq_getElem?_getD, hz]; rfl
            rw [hzd] at q4
            have stz := @ints_length .i64 (((splC 44 y).take q).map atoiV)
            rw [List.length_map, List.length_take, Nat.min_eq_left (by omega)] at stz
            simp only [awK, Nat.reduceMod, Nat.reduceDiv, reduceIte]
            simp (config := { maxSteps := 1000000 }) (disch := ((try simp only [awL]); omega)) only [QR, QS, QT, QU, QV, QW, QX, QY, QZ, Q0, Q1, Q2, stz, ↓awU, awV, awF, Qa, Qb, Qc, Qd, forall_const, ↓reduceIte, ↓reduceDIte, ↓Qe, Qf, Qg, Qh, Qi, Qj, Qk, Ql, Qm, Qn, Qo, Qp, Qq, Qr, Qs, implies_true, Qt, Qu, Qv, Qw, Qx, Qy, Qz, QA, QB, QC, QD, QE, QF, QG, QH, QI, QJ, QK, QL, QM, QN, QO, QP, QQ]
            refine CallC.pure (atoi_spec hE z (by omega)) ?_
            by_cases hoz : atoiO z = none
            · obtain ⟨v, hv⟩ := atoiD_bad hoz
              rw [hv]
              simp (config := { maxSteps := 1000000 }) (disch := ((try simp only [awL]); omega)) only [QR, QS, QT, QU, QV, QW, QX, QY, QZ, Q0, Q1, Q2, stz, ↓awU, awV, awF, Qa, Qb, Qc, Qd, forall_const, ↓reduceIte, ↓reduceDIte, ↓Qe, Qf, Qg, Qh, Qi, Qj, Qk, Ql, Qm, Qn, Qo, Qp, Qq, Qr, Qs, implies_true, Qt, Qu, Qv, Qw, Qx, Qy, Qz, QA, QB, QC, QD, QE, QF, QG, QH, QI, QJ, QK, QL, QM, QN, QO, QP, QQ]
              exact RndE.mk (⟨[some 0, some 1, some 2, some 3, some 4, some 5], rfl, by simp, by simp [setsA, keepA, SWeak, AWeak], by simp [HWeak, BWeak, SWeak, AWeak]⟩ : Weak 0 _ _ _ [.box [.d (.sl 0 true [])], .box [.d (.bool false)], .dead, .dead, .dead, .dead]) ⟨(), rfl⟩
            · obtain rfl : q = 4 := q4.resolve_right hoz
              rw [atoiD_ok hoz]
              simp (config := { maxSteps := 1000000 }) (disch := ((try simp only [awL]); omega)) only [QR, QS, QT, QU, QV, QW, QX, QY, QZ, Q0, Q1, Q2, stz, ↓awU, awV, awF, Qa, Qb, Qc, Qd, forall_const, ↓reduceIte, ↓reduceDIte, ↓Qe, Qf, Qg, Qh, Qi, Qj, Qk, Ql, Qm, Qn, Qo, Qp, Qq, Qr, Qs, implies_true, Qt, Qu, Qv, Qw, Qx, Qy, Qz, QA, QB, QC, QD, QE, QF, QG, QH, QI, QJ, QK, QL, QM, QN, QO, QP, QQ]
              exact RndE.mk (⟨[some 0, some 1, some 2, some 3, some 4, some 5], rfl, by simp, by simp [setsA, keepA, SWeak, AWeak], by simp [HWeak, BWeak, SWeak, AWeak]⟩ : Weak 0 _ _ _ [.box [.d (.sl 0 true [])], .box [.d (.bool false)], .dead, .dead, .dead, .dead]) ⟨(), rfl⟩
          · rintro ⟨⟩ -
            show JmpQ _ _ _ _
            simp only [JmpQ]
            conv =>
              rhs
              simp only [List.length_cons, List.length_nil, Nat.reduceAdd]
              simp only [deads8, List.map_cons, List.map_nil, renB, renL, renA, Nat.reduceAdd, List.cons_append, List.nil_append]
              simp only [pinB]
              simp only [swapB08, swapB19, swapB210, List.map_cons, List.map_nil, swF, renB, renL, renA, Nat.reduceEqDiff, reduceIte]
            conv =>
              lhs
              simp only [awK, Nat.reduceMod, Nat.reduceDiv, reduceIte]
              simp only [List.length_cons, List.length_nil, Nat.reduceAdd, renL, renA]
              simp only [pinS]
              simp only [renL, renA, swF, Nat.reduceAdd, Nat.reduceEqDiff, reduceIte]
            try simp only [awK, Nat.reduceMod, Nat.reduceDiv, reduceIte]
            simp (config := { maxSteps := 1000000 }) (disch := ((try simp only [awL]); omega)) only [QR, QS, QT, QU, QV, QW, QX, QY, QZ, Q0, Q1, Q2, ↓awU, awV, awF, Qa, Qb, Qc, Qd, forall_const, ↓reduceIte, ↓reduceDIte, ↓Qe, Qf, Qg, Qh, Qi, Qj, Qk, Ql, Qm, Qn, Qo, Qp, Qq, Qr, Qs, implies_true, Qt, Qu, Qv, Qw, Qx, Qy, Qz, QA, QB, QC, QD, QE, QF, QG, QH, QI, QJ, QK, QL, QM, QN, QO, QP, QQ]
            exact RndE.mk (⟨[some 0, some 1, some 2, some 3], rfl, by simp, by simp [setsA, keepA, SWeak, AWeak], by simp [HWeak, BWeak, SWeak, AWeak]⟩ : Weak 0 _ _ _ [.box [.d (.sl 0 true [])], .box [.d (.bool false)], .dead, .dead]) ⟨(), rfl⟩
        · have hgood := q2
          refine RangeC.allP (α := Unit) (split1C_spec 44 y (by omega)) [(0, 8), (1, 9), (2, 10)] [some 0, some 1, some 2, some 3, some 4, none] 1 [(2, .ptr 0 0), (3, .ptr 1 0), (4, .ptr 2 0), (6, .ptr 4 0)] (fun j _ => [.box [.d (.sl 0 true [])], .box [.d (.bool false)], .box [.lsl 3 4 0 k], .row false acc, .box [.lsl 5 1 0 j], .row false (ints .i64 (((splC 44 y).take j).map atoiV))]) (fun j _ => True)
            rfl rfl rfl rfl rfl rfl (pin3 ⟨2, 0, rfl⟩ ⟨3, 0, rfl⟩ ⟨4, 0, rfl⟩) rfl (by simp) () trivial (by simp [setsA, keepA, SWeak, AWeak]) (by simp [HWeak, BWeak, SWeak, AWeak, ints]) (fun _ _ => ⟨rfl, rfl⟩) ?_ ?_
          · rintro j d2 ⟨⟩ hj hd2 -
            obtain ⟨z, hz, rfl⟩ := strs_get hd2
            have hzl := m2 z (List.mem_of_getElem? hz)
            have hj2 : j < (splC 44 y).length := by first | omega | (rw [strs_length] at hj; exact hj)
            have hzd : (splC 44 y).getD j [] = z := by rw [List.getD_eq_getElem?_getD, hz]; rfl
            have hoz : atoiO z ≠ none := by rw [← hzd]; exact hgood j (by first | exact hj | exact hj2)
            have stz := @ints_length .i64 (((splC 44 y).take j).map atoiV)
            rw [List.length_map, List.length_take, Nat.min_eq_left (by omega)] at stz
            have e3 : ints .i64 (((splC 44 y).take j).map atoiV) ++ [D.int .i64 (atoiV z)] = ints .i64 (((splC 44 y).take (j + 1)).map atoiV) := by
              rw [List.take_add_one, hz, List.map_append]; simp [ints]
            have hj4 : j < 4 := by omega
            simp only [awK, Nat.reduceMod, Nat.reduceDiv, reduceIte]
            simp (config := { maxSteps := 1000000 }) (disch := ((try simp only [awL]); omega)) only [QR, QS, QT, QU, QV, QW, QX, QY, QZ, Q0, Q1, Q2, stz, ↓awU, awV, awF, Qa, Qb, Qc, Qd, forall_const, ↓reduceIte, ↓reduceDIte, ↓Qe, Qf, Qg, Qh, Qi, Qj, Qk, Ql, Qm, Qn, Qo, Qp, Qq, Qr, Qs, implies_true, Qt, Qu, Qv, Qw, Qx, Qy, Qz, QA, QB, QC, QD, QE, QF, QG, QH, QI, QJ, QK, QL, QM, QN, QO, QP, QQ]
            refine CallC.pure (atoi_spec hE z (by omega)) ?_
            rw [atoiD_ok hoz]
            simp (config := { maxSteps := 1000000 }) (disch := ((try simp only [awL]); omega)) only [QR, QS, QT, QU, QV, QW, QX, QY, QZ, Q0, Q1, Q2, stz, e3, ↓awU, awV, awF, Qa, Qb, Qc, Qd, forall_const, ↓reduceIte, ↓reduceDIte, ↓Qe, Qf, Qg, Qh, Qi, Qj, Qk, Ql, Qm, Qn, Qo, Qp, Qq, Qr, Qs, implies_true, Qt, Qu, Qv, Qw, Qx, Qy, Qz, QA, QB, QC, QD, QE, QF, QG, QH, QI, QJ, QK, QL, QM, QN, QO, QP, QQ]
            exact RndE.mk (⟨[some 0, some 1, some 2, some 3, some 4, some 7], rfl, by simp, by simp [setsA, keepA, SWeak, AWeak], by simp [HWeak, BWeak, SWeak, AWeak]⟩ : Weak 0 _ _ _ [.box [.d (.sl 0 true [])], .box [.d (.bool false)], .box [.lsl 3 4 0 k], .row false acc, .box [.lsl 5 1 0 (j + 1)], .row false (ints .i64 (((splC 44 y).take (j + 1)).map atoiV))]) ⟨(), rfl⟩
          · rintro ⟨⟩ -
            rw [strs_length, List.take_length]
            have stz := @ints_length .i64 ((splC 44 y).map atoiV)
            rw [List.length_map] at stz
            conv =>
              rhs
              simp only [List.length_cons, List.length_nil, Nat.reduceAdd]
              simp only [deads8, List.map_cons, List.map_nil, renB, renL, renA, Nat.reduceAdd, List.cons_append, List.nil_append]
              simp only [pinB]
              simp only [swapB08, swapB19, swapB210, List.map_cons, List.map_nil, swF, renB, renL, renA, Nat.reduceEqDiff, reduceIte]
            conv =>
              lhs
              simp only [awK, Nat.reduceMod, Nat.reduceDiv, reduceIte]
              simp only [List.length_cons, List.length_nil, Nat.reduceAdd, renL, renA]
              simp only [pinS]
              simp only [renL, renA, swF, Nat.reduceAdd, Nat.reduceEqDiff, reduceIte]
            try simp only [awK, Nat.reduceMod, Nat.reduceDiv, reduceIte]
            simp (config := { maxSteps := 1000000 }) (disch := ((try simp only [awL]); omega)) only [QR, QS, QT, QU, QV, QW, QX, QY, QZ, Q0, Q1, Q2, stz, ↓awU, awV, awF, Qa, Qb, Qc, Qd, forall_const, ↓reduceIte, ↓reduceDIte, ↓Qe, Qf, Qg, Qh, Qi, Qj, Qk, Ql, Qm, Qn, Qo, Qp, Qq, Qr, Qs, implies_true, Qt, Qu, Qv, Qw, Qx, Qy, Qz, QA, QB, QC, QD, QE, QF, QG, QH, QI, QJ, QK, QL, QM, QN, QO, QP, QQ]
            exact RndE.mk (⟨[some 0, some 1, some 2, some 3], rfl, by simp, by simp [setsA, keepA, SWeak, AWeak], by simp [HWeak, BWeak, SWeak, AWeak]⟩ : Weak 0 _ _ _ [.box [.d (.sl 0 true [])], .box [.d (.bool false)], .dead, .dead]) ⟨(), rfl⟩
      · rintro ⟨⟩ -
        show JmpQ _ _ _ _
        simp only [JmpQ]
        simp only [awK, Nat.reduceMod, Nat.reduceDiv, reduceIte]
        simp (config := { maxSteps := 1000000 }) (disch := ((try simp only [awL]); omega)) only [QR, QS, QT, QU, QV, QW, QX, QY, QZ, Q0, Q1, Q2, ↓awU, awV, awF, Qa, Qb, Qc, Qd, forall_const, ↓reduceIte, ↓reduceDIte, ↓Qe, Qf, Qg, Qh, Qi, Qj, Qk, Ql, Qm, Qn, Qo, Qp, Qq, Qr, Qs, implies_true, Qt, Qu, Qv, Qw, Qx, Qy, Qz, QA, QB, QC, QD, QE, QF, QG, QH, QI, QJ, QK, QL, QM, QN, QO, QP, QQ]
        rw [hr]; try rfl
    · have hol := allO_len ho
      have hv : (splC 59 s).map pieceV = o := by
        apply List.ext_getElem?
        intro i
        rw [List.getElem?_map]
        rcases Nat.lt_or_ge i (splC 59 s).length with hi | hi
        · have := allO_at (d := noRg) ho hi
          rw [List.getElem?_eq_getElem hi, List.getElem?_eq_getElem (by omega)]
          rw [List.getD_eq_getElem?_getD, List.getD_eq_getElem?_getD, List.getElem?_eq_getElem hi, List.getElem?_eq_getElem (show i < o.length by omega)] at this
          simp only [Option.getD_some] at this
          simp only [Option.map_some, pieceV, this, Option.getD_some]
        · rw [List.getElem?_eq_none hi, List.getElem?_eq_none (by omega)]; rfl
      have hpg : ∀ k, k < (splC 59 s).length → pieceO ((splC 59 s).getD k []) ≠ none := fun k hk => by rw [allO_at (d := noRg) ho hk]; simp
      have hr2 : r = match (if textR o = some s then some o else none) with
          | some l => D.tup [D.sl l.length false (regC l), D.bool true]
          | none => D.tup [D.sl 0 false [], D.bool false] := by rw [hr, parO, outO, ho]
      refine RangeC.all (α := Unit) (split1C_spec 59 s (by omega)) [some 0, some 1, some 2, none] 1 [(2, .ptr 0 0), (3, .ptr 1 0), (4, .ptr 2 0)] (fun k _ => [.box [.d (.sl 0 true [])], .box [.d (.bool false)], .box [.lsl 3 4 0 k], .row false (regC (((splC 59 s).take k).map pieceV))]) (fun k _ => True)
        rfl rfl rfl rfl rfl rfl rfl (by simp) () trivial (by simp [setsA, keepA, SWeak, AWeak]) (by simp [HWeak, BWeak, SWeak, AWeak, regC]) (fun _ _ => ⟨rfl, rfl⟩) ?_ ?_
      · rintro k d ⟨⟩ hk hd -
        obtain ⟨y, hy, rfl⟩ := strs_get hd
        have hk2 : k < (splC 59 s).length := by first | omega | (rw [strs_length] at hk; exact hk)
        have hyl := n2 y (List.mem_of_getElem? hy)
        have hyd : (splC 59 s).getD k [] = y := by rw [List.getD_eq_getElem?_getD, hy]; rfl
        have hoy : pieceO y ≠ none := by rw [← hyd]; exact hpg k (by first | exact hk | exact hk2)
        have st := regC_length (((splC 59 s).take k).map pieceV)
        rw [List.length_map, List.length_take, Nat.min_eq_left (by omega)] at st
        have e2 : regC (((splC 59 s).take k).map pieceV) ++ (pieceV y).cells = regC (((splC 59 s).take (k + 1)).map pieceV) := by
          rw [List.take_add_one, hy, List.map_append, regC_app]; rfl
        generalize regC (((splC 59 s).take k).map pieceV) = acc at *
        generalize regC (((splC 59 s).take (k + 1)).map pieceV) = acc2 at *
        obtain ⟨a, b, c, d, g1, g2⟩ := piece_good hoy
        rw [g2] at e2
        obtain ⟨m1, m2⟩ := splC_len 44 _ y rfl
        have gl4 : (splC 44 y).length = 4 := (allO_len g1).symm
        have gm : (splC 44 y).map atoiV = [a, b, c, d] := allO_map g1
        have hgood : ∀ j, j < (splC 44 y).length → atoiO ((splC 44 y).getD j []) ≠ none := fun j hj => by rw [allO_at (d := (0 : Int)) g1 hj]; simp
        simp only [awK, Nat.reduceMod, Nat.reduceDiv, reduceIte]
        simp (config := { maxSteps := 1000000 }) (disch := ((try simp only [awL]); omega)) only [QR, QS, QT, QU, QV, QW, QX, QY, QZ, Q0, Q1, Q2, ↓awU, awV, awF, Qa, Qb, Qc, Qd, forall_const, ↓reduceIte, ↓reduceDIte, ↓Qe, Qf, Qg, Qh, Qi, Qj, Qk, Ql, Qm, Qn, Qo, Qp, Qq, Qr, Qs, implies_true, Qt, Qu, Qv, Qw, Qx, Qy, Qz, QA, QB, QC, QD, QE, QF, QG, QH, QI, QJ, QK, QL, QM, QN, QO, QP, QQ]
        refine CallC.by (splitC_spec 44 y) rfl rfl (by simp) ?_
        simp (config := { maxSteps := 1000000 }) (disch := ((try simp only [awL]); omega)) only [QR, QS, QT, QU, QV, QW, QX, QY, QZ, Q0, Q1, Q2, ↓awU, awV, awF, Qa, Qb, Qc, Qd, forall_const, ↓reduceIte, ↓reduceDIte, ↓Qe, Qf, Qg, Qh, Qi, Qj, Qk, Ql, Qm, Qn, Qo, Qp, Qq, Qr, Qs, implies_true, Qt, Qu, Qv, Qw, Qx, Qy, Qz, QA, QB, QC, QD, QE, QF, QG, QH, QI, QJ, QK, QL, QM, QN, QO, QP, QQ]
        refine RangeC.allP (α := Unit) (split1C_spec 44 y (by omega)) [(0, 8), (1, 9), (2, 10)] [some 0, some 1, some 2, some 3, some 4, none] 1 [(2, .ptr 0 0), (3, .ptr 1 0), (4, .ptr 2 0), (6, .ptr 4 0)] (fun j _ => [.box [.d (.sl 0 true [])], .box [.d (.bool false)], .box [.lsl 3 4 0 k], .row false acc, .box [.lsl 5 1 0 j], .row false (ints .i64 (((splC 44 y).take j).map atoiV))]) (fun j _ => True)
          rfl rfl rfl rfl rfl rfl (pin3 ⟨2, 0, rfl⟩ ⟨3, 0, rfl⟩ ⟨4, 0, rfl⟩) rfl (by simp) () trivial (by simp [setsA, keepA, SWeak, AWeak]) (by simp [HWeak, BWeak, SWeak, AWeak, ints]) (fun _ _ => ⟨rfl, rfl⟩) ?_ ?_
        · rintro j d2 ⟨⟩ hj hd2 -
          obtain ⟨z, hz, rfl⟩ := strs_get hd2
          have hzl := m2 z (List.mem_of_getElem? hz)
          have hj2 : j < (splC 44 y).length := by first | omega | (rw [strs_length] at hj; exact hj)
          have hzd : (splC 44 y).getD j [] = z := by rw [List.getD_eq_getElem?_getD, hz]; rfl
          have hoz : atoiO z ≠ none := by rw [← hzd]; exact hgood j (by first | exact hj | exact hj2)
          have stz := @ints_length .i64 (((splC 44 y).take j).map atoiV)
          rw [List.length_map, List.length_take, Nat.min_eq_left (by omega)] at stz
          have e3 : ints .i64 (((splC 44 y).take j).map atoiV) ++ [D.int .i64 (atoiV z)] = ints .i64 (((splC 44 y).take (j + 1)).map atoiV) := by
            rw [List.take_add_one, hz, List.map_append]; simp [ints]
          have hj4 : j < 4 := by omega
          simp only [awK, Nat.reduceMod, Nat.reduceDiv, reduceIte]
          simp (config := { maxSteps := 1000000 }) (disch := ((try simp only [awL]); omega)) only [QR, QS, QT, QU, QV, QW, QX, QY, QZ, Q0, Q1, Q2, stz, ↓awU, awV, awF, Qa, Qb, Qc, Qd, forall_const, ↓reduceIte, ↓reduceDIte, ↓Qe, Qf, Qg, Qh, Qi, Qj, Qk, Ql, Qm, Qn, Qo, Qp, Qq, Qr, Qs, implies_true, Qt, Qu, Qv, Qw, Qx, Qy, Qz, QA, QB, QC, QD, QE, QF, QG, QH, QI, QJ, QK, QL, QM, QN, QO, QP, QQ]
          refine CallC.pure (atoi_spec hE z (by omega)) ?_
          rw [atoiD_ok hoz]
          simp (config := { maxSteps := 1000000 }) (disch := ((try simp only [awL]); omega)) only [QR, QS, QT, QU, QV, QW, QX, QY, QZ, Q0, Q1, Q2, stz, e3, ↓awU, awV, awF, Qa, Qb, Qc, Qd, forall_const, ↓reduceIte, ↓reduceDIte, ↓Qe, Qf, Qg, Qh, Qi, Qj, Qk, Ql, Qm, Qn, Qo, Qp, Qq, Qr, Qs, implies_true, Qt, Qu, Qv, Qw, Qx, Qy, Qz, QA, QB, QC, QD, QE, QF, QG, QH, QI, QJ, QK, QL, QM, QN, QO, QP, QQ]
          exact RndE.mk (⟨[some 0, some 1, some 2, some 3, some 4, some 7], rfl, by simp, by simp [setsA, keepA, SWeak, AWeak], by simp [HWeak, BWeak, SWeak, AWeak]⟩ : Weak 0 _ _ _ [.box [.d (.sl 0 true [])], .box [.d (.bool false)], .box [.lsl 3 4 0 k], .row false acc, .box [.lsl 5 1 0 (j + 1)], .row false (ints .i64 (((splC 44 y).take (j + 1)).map atoiV))]) ⟨(), rfl⟩
        · rintro ⟨⟩ -
          rw [strs_length, gl4, ← gl4, List.take_length, gl4, gm]
          have i4 : (ints .i64 [a, b, c, d]).length = 4 := rfl
          have q0 : (ints .i64 [a, b, c, d]).getD 0 .nilp = .int .i64 a := rfl
          have q1 : (ints .i64 [a, b, c, d]).getD 1 .nilp = .int .i64 b := rfl
          have q2 : (ints .i64 [a, b, c, d]).getD 2 .nilp = .int .i64 c := rfl
          have q3 : (ints .i64 [a, b, c, d]).getD 3 .nilp = .int .i64 d := rfl
          generalize ints .i64 [a, b, c, d] = nu at *
          conv =>
            rhs
            simp only [List.length_cons, List.length_nil, Nat.reduceAdd]
            simp only [deads8, List.map_cons, List.map_nil, renB, renL, renA, Nat.reduceAdd, List.cons_append, List.nil_append]
            simp only [pinB]
            simp only [swapB08, swapB19, swapB210, List.map_cons, List.map_nil, swF, renB, renL, renA, Nat.reduceEqDiff, reduceIte]
          conv =>
            lhs
            simp only [awK, Nat.reduceMod, Nat.reduceDiv, reduceIte]
            simp only [List.length_cons, List.length_nil, Nat.reduceAdd, renL, renA]
            simp only [pinS]
            simp only [renL, renA, swF, Nat.reduceAdd, Nat.reduceEqDiff, reduceIte]
          try simp only [awK, Nat.reduceMod, Nat.reduceDiv, reduceIte]
          simp (config := { maxSteps := 1000000 }) (disch := ((try simp only [awL]); omega)) only [QR, QS, QT, QU, QV, QW, QX, QY, QZ, Q0, Q1, Q2, i4, q0, q1, q2, q3, st, ↓awU, awV, awF, Qa, Qb, Qc, Qd, forall_const, ↓reduceIte, ↓reduceDIte, ↓Qe, Qf, Qg, Qh, Qi, Qj, Qk, Ql, Qm, Qn, Qo, Qp, Qq, Qr, Qs, implies_true, Qt, Qu, Qv, Qw, Qx, Qy, Qz, QA, QB, QC, QD, QE, QF, QG, QH, QI, QJ, QK, QL, QM, QN, QO, QP, QQ]
          have e4 : cut [D.int .i64 a, D.int .i64 b, D.int .i64 c, D.int .i64 d] 0 4 = [D.int .i64 a, D.int .i64 b, D.int .i64 c, D.int .i64 d] := rfl
          try rw [e4]
          rw [e2]
          first
          | exact RndE.mk (⟨[some 0, some 1, some 2, some 15], rfl, by simp, by simp [setsA, keepA, SWeak, AWeak], by simp [HWeak, BWeak, SWeak, AWeak]⟩ : Weak 0 _ _ _ [.box [.d (.sl 0 true [])], .box [.d (.bool false)], .box [.lsl 3 4 0 (k + 1)], .row false acc2]) ⟨(), rfl⟩
          | exact ⟨by rfl, RndE.mk (⟨[some 0, some 1, some 2, some 15], rfl, by simp, by simp [setsA, keepA, SWeak, AWeak], by simp [HWeak, BWeak, SWeak, AWeak]⟩ : Weak 0 _ _ _ [.box [.d (.sl 0 true [])], .box [.d (.bool false)], .box [.lsl 3 4 0 (k + 1)], .row false acc2]) ⟨(), rfl⟩⟩
          | exact ⟨by rfl, by rfl, RndE.mk (⟨[some 0, some 1, some 2, some 15], rfl, by simp, by simp [setsA, keepA, SWeak, AWeak], by simp [HWeak, BWeak, SWeak, AWeak]⟩ : Weak 0 _ _ _ [.box [.d (.sl 0 true [])], .box [.d (.bool false)], .box [.lsl 3 4 0 (k + 1)], .row false acc2]) ⟨(), rfl⟩⟩
      · rintro ⟨⟩ -
        rw [strs_length, List.take_length, hv, ← hol]
        have ol := regC_length o
        have cu : cut (regC o) 0 (4 * o.length) = regC o := cut_all ol.symm
        have cu' : cut (regC o) 0 (o.length * 4) = regC o := cut_all (by omega)
        simp only [awK, Nat.reduceMod, Nat.reduceDiv, reduceIte]
        simp (config := { maxSteps := 1000000 }) (disch := ((try simp only [awL]); omega)) only [QR, QS, QT, QU, QV, QW, QX, QY, QZ, Q0, Q1, Q2, ol, cu, cu', ↓awU, awV, awF, Qa, Qb, Qc, Qd, forall_const, ↓reduceIte, ↓reduceDIte, ↓Qe, Qf, Qg, Qh, Qi, Qj, Qk, Ql, Qm, Qn, Qo, Qp, Qq, Qr, Qs, implies_true, Qt, Qu, Qv, Qw, Qx, Qy, Qz, QA, QB, QC, QD, QE, QF, QG, QH, QI, QJ, QK, QL, QM, QN, QO, QP, QQ]
        refine CallC.frozenE (stext_spec hI o false (by omega)) (by rfl) ?_
        cases ht : textR o with
        | none =>
          rw [if_neg (by rw [ht]; simp)] at hr2
          simp (config := { maxSteps := 1000000 }) (disch := ((try simp only [awL]); omega)) only [QR, QS, QT, QU, QV, QW, QX, QY, QZ, Q0, Q1, Q2, textD, ol, cu, cu', ↓awU, awV, awF, Qa, Qb, Qc, Qd, forall_const, ↓reduceIte, ↓reduceDIte, ↓Qe, Qf, Qg, Qh, Qi, Qj, Qk, Ql, Qm, Qn, Qo, Qp, Qq, Qr, Qs, implies_true, Qt, Qu, Qv, Qw, Qx, Qy, Qz, QA, QB, QC, QD, QE, QF, QG, QH, QI, QJ, QK, QL, QM, QN, QO, QP, QQ]
          rw [hr2]; try rfl
        | some t =>
          by_cases hts : t = s
          · subst hts
            rw [if_pos ht] at hr2
            simp (config := { maxSteps := 1000000 }) (disch := ((try simp only [awL]); omega)) only [QR, QS, QT, QU, QV, QW, QX, QY, QZ, Q0, Q1, Q2, textD, ol, cu, cu', beq_self_eq_true, ↓awU, awV, awF, Qa, Qb, Qc, Qd, forall_const, ↓reduceIte, ↓reduceDIte, ↓Qe, Qf, Qg, Qh, Qi, Qj, Qk, Ql, Qm, Qn, Qo, Qp, Qq, Qr, Qs, implies_true, Qt, Qu, Qv, Qw, Qx, Qy, Qz, QA, QB, QC, QD, QE, QF, QG, QH, QI, QJ, QK, QL, QM, QN, QO, QP, QQ]
            rw [hr2]; try rfl
          · have hne : (t == s) = false := by simpa using hts
            rw [if_neg (by rw [ht]; simpa using hts)] at hr2
            simp (config := { maxSteps := 1000000 }) (disch := ((try simp only [awL]); omega)) only [QR, QS, QT, QU, QV, QW, QX, QY, QZ, Q0, Q1, Q2, textD, ol, cu, cu', hne, ↓awU, awV, awF, Qa, Qb, Qc, Qd, forall_const, ↓reduceIte, ↓reduceDIte, ↓Qe, Qf, Qg, Qh, Qi, Qj, Qk, Ql, Qm, Qn, Qo, Qp, Qq, Qr, Qs, implies_true, Qt, Qu, Qv, Qw, Qx, Qy, Qz, QA, QB, QC, QD, QE, QF, QG, QH, QI, QJ, QK, QL, QM, QN, QO, QP, QQ]
            rw [hr2]; try rfl
end Go.Proofs.YtacepalmphbnfaaGreatDoor

namespace Go.Proofs.YtacepalmphbnfaaGreatDoor
open Go Go.Proofs Go.Abs
/-! Sheet, plain: every text of regions is read back, by the program's Parse and by the reference's. -/
theorem splC_app {c : UInt8} {x r : List UInt8} (h : c ∉ x) : splC c (x ++ c :: r) = x :: splC c r := by
  have hk : x.length < (x ++ c :: r).length := by simp
  have hg : (x ++ c :: r).getD x.length 0 = c := by simp [List.getD_eq_getElem?_getD]
  have ht : (x ++ c :: r).take x.length = x := by simp
  obtain ⟨h1, h2, h3⟩ := cut_at (c := c) hk hg (by rw [ht]; exact h)
  rw [splC_more h3, h1, h2, ht]
  simp
theorem join2 {c : UInt8} (x y : List UInt8) (t : List (List UInt8)) : Lib.join (x :: y :: t) [c] = x ++ c :: Lib.join (y :: t) [c] := by
  rw [Lib.join_cons, Lib.join_cons]; simp [Lib.joinTail]
theorem splC_join {c : UInt8} : ∀ (l : List (List UInt8)), l ≠ [] → (∀ x ∈ l, c ∉ x) → splC c (Lib.join l [c]) = l
  | [], h, _ => absurd rfl h
  | [x], _, hx => by rw [Lib.join_one, splC_last (hx x (by simp))]
  | x :: y :: t, _, hx => by
    have ih := splC_join (y :: t) (by simp) fun z hz => hx z (List.mem_cons_of_mem _ hz)
    rw [join2, splC_app (hx x (by simp)), ih]
theorem dec_no59 (n : Nat) : (59 : UInt8) ∉ Lib.decDigits n := fun h => by have := (dec_bytes n _ h).2; revert this; decide
theorem regT_form (a : Rg) : regT a = Lib.decDigits a.t.toNat ++ 44 :: (Lib.decDigits a.l.toNat ++ 44 :: (Lib.decDigits a.b.toNat ++ 44 :: Lib.decDigits a.r.toNat)) := by
  rw [regT, fourN, numT, List.map_cons, List.map_cons, List.map_cons, List.map_cons, List.map_nil, join2, join2, join2, Lib.join_one]
theorem regT_no59 (a : Rg) : (59 : UInt8) ∉ regT a := by
  rw [regT_form]
  intro h
  simp only [List.mem_append, List.mem_cons] at h
  rcases h with h | h | h | h | h | h | h
  · exact dec_no59 _ h
  · revert h; decide
  · exact dec_no59 _ h
  · revert h; decide
  · exact dec_no59 _ h
  · revert h; decide
  · exact dec_no59 _ h
theorem piece_reg {a : Rg} (h : okRg a = true) : pieceO (regT a) = some a := by
  obtain ⟨t, l, b, r, rfl, h1, h2, h3, h4⟩ := okRg_nat h
  have hs : splC 44 (regT ⟨t, l, b, r⟩) = numT [t, l, b, r] := by
    rw [regT, splC_join _ (by simp [numT, fourN])]
    · rfl
    · intro x hx
      obtain ⟨n, _, rfl⟩ := List.mem_map.1 hx
      exact dec_no44 n
  have hn : ∀ n ∈ [t, l, b, r], n < 100000000 := by
    intro n hn
    simp only [List.mem_cons, List.not_mem_nil, or_false] at hn
    omega
  unfold pieceO
  rw [hs, allO_dec (g := fun n : Nat => (n : Int)) (fun n hn => atoiO_dec hn) _ hn]
  rfl
theorem out_join : ∀ {l : List Rg}, (∀ a ∈ l, okRg a = true) → allO pieceO (l.map regT) = some l
  | [], _ => rfl
  | a :: t, h => by
    rw [List.map_cons, allO, piece_reg (h a (by simp)), out_join fun x hx => h x (List.mem_cons_of_mem _ hx)]
theorem textR_some {l : List Rg} {s : List UInt8} (h : textR l = some s) : (∀ a ∈ l, okRg a = true) ∧ s = Lib.join (l.map regT) [59] := by
  unfold textR at h
  split at h
  · rename_i h2
    exact ⟨List.all_eq_true.1 h2, (Option.some.inj h).symm⟩
  · cases h
theorem outO_text {l : List Rg} {s : List UInt8} (h : textR l = some s) (hl : l ≠ []) : outO s = some l := by
  obtain ⟨h1, rfl⟩ := textR_some h
  rw [outO, splC_join _ (by simpa using hl), out_join h1]
  intro x hx
  obtain ⟨a, _, rfl⟩ := List.mem_map.1 hx
  exact regT_no59 a
theorem textR_ne {l : List Rg} {s : List UInt8} (h : textR l = some s) (hs : s ≠ []) : l ≠ [] := by
  rintro rfl
  have e : textR [] = some [] := rfl
  rw [e] at h
  exact hs (Option.some.inj h).symm
theorem parO_iff {s : List UInt8} (hs : s ≠ []) {l : List Rg} : parO s = some l ↔ textR l = some s := by
  refine ⟨fun h => ?_, fun h => ?_⟩
  · unfold parO at h
    split at h
    · split at h
      · rename_i h2; cases h; exact h2
      · cases h
    · cases h
  · rw [parO, outO_text h (textR_ne h hs)]
    exact if_pos h
/-! The reference reads numbers between commas and semicolons, four to a region. -/
def four (l : List Nat) : Rg := ⟨(l.getD 0 0 : Nat), (l.getD 1 0 : Nat), (l.getD 2 0 : Nat), (l.getD 3 0 : Nat)⟩
def rpN (nums : List Nat) (n : Nat) : List Nat := if nums.length = 3 then [] else nums ++ [n]
def rpO (nums : List Nat) (n : Nat) (out : List Rg) : List Rg := if nums.length = 3 then out ++ [four (nums ++ [n])] else out
def rp (cur : List UInt8) (nums : List Nat) (out : List Rg) : List UInt8 → Option (List Rg)
  | [] => match natO cur with
    | none => none
    | some n => some (rpO nums n out)
  | c :: t => if c = 44 ∨ c = 59 then (match natO cur with
    | none => none
    | some n => rp [] (rpN nums n) (rpO nums n out) t) else rp (cur ++ [c]) nums out t
end Go.Proofs.YtacepalmphbnfaaGreatDoor

namespace Go.Proofs.YtacepalmphbnfaaGreatDoor
open Go Go.Proofs Go.Abs
variable {G : Globals}
/-! Sheet: the reference's Text and natural. -/
end Go.Proofs.YtacepalmphbnfaaGreatDoor

namespace Go.Proofs.YtacepalmphbnfaaGreatDoor
open Go Go.Proofs Go.Abs
variable {G : Globals}
/-! Sheet: the reference's Parse. -/
end Go.Proofs.YtacepalmphbnfaaGreatDoor

namespace Go.Proofs.YtacepalmphbnfaaGreatDoor
open Go Go.Proofs Go.Abs Go.RowKit Go.Sort Go.Shelf
/-! Sheet: slices.SortFunc of regions, in place, out of the kit's contract. -/
instance : Inhabited Ar := ⟨⟨0, 0, 0, 0⟩⟩
def numsA (a : Ar) : List Int := [a.t, a.l, a.b, a.r]
def encA (a : Ar) : List Value := (numsA a).map (Value.int .i64)
theorem regC_nums : ∀ l : List Ar, regC (rgs l) = (l.flatMap numsA).map (D.int .i64)
  | [] => rfl
  | a :: l => by
    have ih := regC_nums l
    rw [List.flatMap_cons, List.map_append, ← ih]
    rfl
theorem nums_len : ∀ l : List Ar, (l.flatMap numsA).length = l.length * 4
  | [] => rfl
  | a :: l => by rw [List.flatMap_cons, List.length_append, nums_len l, List.length_cons]; simp [numsA]; omega
theorem flat_nums : ∀ (l : List Ar) (t : Nat), t < l.length * 4 → (encA l[t / 4]!)[t % 4]! = Value.int .i64 ((l.flatMap numsA).getD t 0)
  | [], t, h => by simp at h
  | a :: l, t, h => by
    rw [List.flatMap_cons]
    rcases Nat.lt_or_ge t 4 with h4 | h4
    · have e : t / 4 = 0 := by omega
      rw [e]
      rcases (by omega : t = 0 ∨ t = 1 ∨ t = 2 ∨ t = 3) with rfl | rfl | rfl | rfl <;> rfl
    · obtain ⟨u, rfl⟩ : ∃ u, t = u + 4 := ⟨t - 4, by omega⟩
      have e1 : (u + 4) / 4 = u / 4 + 1 := by omega
      have e2 : (u + 4) % 4 = u % 4 := by omega
      have ih := flat_nums l u (by rw [List.length_cons] at h; omega)
      have e3 : (numsA a ++ l.flatMap numsA).getD (u + 4) 0 = (l.flatMap numsA).getD u 0 := getD_right (a := numsA a) u
      rw [e1, e2, e3, ← ih]
      simp
theorem flatK_nums (l : List Ar) (t : Nat) (h : t < l.length * 4) : (flatK encA 4 l.toArray)[t]! = Value.int .i64 ((l.flatMap numsA).getD t 0) := by
  rw [get_flatK _ _ _ t (by simpa using h), ← flat_nums l t h]
  simp
theorem rd_int {h : Held} {v : Value} {k : IntKind} {x : Int} (r : RD h v (.int k x)) : v = .int k x := by
  cases r with
  | int => rfl
theorem fn_inv {h : Held} {ρ : Abs.Place} {v : Value} {g : Nat} (r : R h ρ v (.d (.fn (.func g) [] []))) : v = .func (.func g) #[] #[] := by
  cases r with
  | d v x hx => cases hx with
  | fn f vs us a b hl hl' =>
    have e1 : vs = #[] := Array.eq_empty_of_size_eq_zero hl
    have e2 : us = #[] := Array.eq_empty_of_size_eq_zero hl'
    rw [e1, e2]
theorem sortf_ctr {P : Program} {G : Globals} {f g : FuncId} (hg : goFn P f = true) (l m : List Ar) (hm : m.length = l.length)
    (hn : ∀ (p : Option Addr) (cap : Nat) (fv : Value) (w : World), Calls P f #[.slice p 0 cap, fv] w fun e w' => e = .returned (.tuple #[]) ∧ w' = w)
    (hs : 0 < l.length → ∀ (blk cap : Nat) (w : World), HoldsK encA 4 w blk 0 l.toArray → blk < w.heap.size →
      Calls P f #[.slice (some ⟨blk, 0, none⟩) l.length cap, .func (.func g) #[] #[]] w fun e w' => e = .returned (.tuple #[]) ∧ ∃ n os, w' = sortWorldK encA 4 w blk 0 n m.toArray os) :
    Ctr P G f [.lsl 0 4 0 l.length, .d (.fn (.func g) [] [])] [.row false (regC (rgs l))] .undef [.row false (regC (rgs m))] := by
  refine ⟨hg, fun h ρ w vs s r => ?_⟩
  obtain ⟨v, u, rfl, hv, hu⟩ := r.inv2
  have hu := fn_inv hu
  subst hu
  have hb := s.blk 0 _ rfl
  rcases Nat.eq_zero_or_pos l.length with h0 | h0
  · obtain rfl : l = [] := List.eq_nil_of_length_eq_zero h0
    obtain rfl : m = [] := List.eq_nil_of_length_eq_zero hm
    have key : ∃ p cap, v = .slice p 0 cap := by
      cases hv with
      | lsl0 base => exact ⟨_, _, rfl⟩
      | lsl b sz off n cap g S h1 h2 h3 => exact ⟨_, _, rfl⟩
    obtain ⟨p, cap, rfl⟩ := key
    refine (hn p cap _ w).mono ?_
    rintro e w' ⟨rfl, rfl⟩
    exact ⟨_, h, ρ, rfl, by simpa using s, .undef _, Step.refl _ _ _⟩
  have key : ∃ g S cap, v = .slice (some ⟨g, 0, none⟩) l.length cap ∧ ρ 0 = some (g, S) ∧ l.length ≤ cap ∧ 0 + cap * 4 ≤ S := by
    generalize hk : l.length = k at hv h0
    cases hv with
    | lsl0 base => omega
    | lsl b sz off n cap g S h1 h2 h3 => exact ⟨g, S, cap, rfl, h1, h2, h3⟩
  obtain ⟨gg, S, cap, rfl, hρ, hcap, hS⟩ := key
  obtain ⟨hone, hb⟩ := hb
  rcases hb with ⟨hno, _⟩ | ⟨g', S', c, E, fr, b1, b2, b3, b4, b5, b6, b7, b8⟩
  · rw [hρ] at hno; cases hno
  rw [hρ] at b1; cases b1
  have cells : ∀ (q : List Ar) (j : Nat), j < q.length * 4 → (regC (rgs q))[j]? = some (.int .i64 ((q.flatMap numsA).getD j 0)) := fun q j hj => by
    have hj' : j < (q.flatMap numsA).length := by rw [nums_len]; exact hj
    rw [regC_nums, List.getElem?_map, List.getElem?_eq_getElem hj', List.getD_eq_getElem?_getD, List.getElem?_eq_getElem hj']
    rfl
  have clen : ∀ q : List Ar, (regC (rgs q)).length = q.length * 4 := fun q => by rw [regC_nums, List.length_map, nums_len]
  have hcs : l.length * 4 ≤ c.size := by omega
  have hval : ∀ (j : Nat), j < l.length * 4 → c[j]? = some (.int .i64 ((l.flatMap numsA).getD j 0)) := fun j hj => by
    have h1 : c[j]? = some c[j] := Array.getElem?_eq_getElem (by omega)
    rw [h1, rd_int (b6 j _ _ (cells l j hj) h1)]
  have hH : HoldsK encA 4 w gg 0 l.toArray := by
    intro j hj
    have hj' : j < l.length * 4 := by simpa using hj
    refine ⟨?_, ?_⟩
    · simp only [World.cell?, b2, Nat.zero_add]
      rw [hval j hj', flatK_nums l j hj']
      rfl
    · simp only [World.frozen?, b2, Nat.zero_add]
      have := b4 j (by omega)
      simp only [Bool.and_eq_false_iff, decide_eq_false_iff_not]
      omega
  have hgl : gg < w.heap.size := (Array.getElem?_eq_some_iff.1 b2).1
  refine (hs h0 gg cap w hH hgl).mono ?_
  rintro e w' ⟨rfl, n, os, rfl⟩
  have fsz : (flatK encA 4 m.toArray).size = l.length * 4 := by rw [size_flatK]; simp [hm]
  have fget : ∀ t, t < l.length * 4 → (flatK encA 4 m.toArray)[t]! = Value.int .i64 ((m.flatMap numsA).getD t 0) := fun t ht => flatK_nums m t (by omega)
  have other : ∀ k, k ≠ gg → k < w.heap.size → (grow (putRow id (Sort.ahead w n) gg 0 (flatK encA 4 m.toArray)) os).heap[k]? = w.heap[k]? := fun k hk hlt => by
    rw [heap_grow_old _ _ (by simpa using hlt)]
    show (w.heap.modify gg _)[k]? = _
    rw [Array.getElem?_modify, if_neg (Ne.symm hk)]
  have same : (grow (putRow id (Sort.ahead w n) gg 0 (flatK encA 4 m.toArray)) os).heap[gg]? = some (.cells (putCells id 0 (flatK encA 4 m.toArray) c) E fr) := by
    rw [heap_grow_old _ _ (by simpa using hgl)]
    show (w.heap.modify gg _)[gg]? = _
    rw [Array.getElem?_modify, if_pos rfl, b2]
    rfl
  have hw : sortWorldK encA 4 w gg 0 n m.toArray os = grow (putRow id (Sort.ahead w n) gg 0 (flatK encA 4 m.toArray)) os := rfl
  rw [hw]
  clear hw
  generalize flatK encA 4 m.toArray = F at *
  have hsz : (putCells id 0 F c).size = c.size := by simp [putCells]
  have hcell : ∀ (j : Nat) (hj : j < l.length * 4), (putCells id 0 F c)[j]? = some (Value.int .i64 ((m.flatMap numsA).getD j 0)) := fun j hj => by
    have : j < c.size := by omega
    have hF : j < F.size := by omega
    rw [← fget j hj]
    simp [putCells, Array.getElem?_mapIdx, Array.getElem?_eq_getElem this, hF]
  have hprom : ∀ b o u, h b o = some u → (grow (putRow id (Sort.ahead w n) gg 0 F) os).cell? ⟨b, o, none⟩ = some u := by
    intro b o u e
    have hlt := s.held_lt e
    have hne : b ≠ gg := fun e' => by subst e'; rw [b8 o (fun e => by cases e)] at e; cases e
    have := s.prom b o u e
    rw [← this]
    simp only [World.cell?, other b hne hlt]
  refine ⟨_, h, ρ, rfl, ⟨hprom, s.glob, fun i b e => ?_, fun i k S2 e => ?_, fun i j k S1 S2 e1 e2 l1 l2 => ?_⟩, .undef _, ⟨rfl, rfl, rfl, by simp, fun k hk hnk => other k (fun e => hnk 0 S (e ▸ hρ)) hk, Held.le_refl _, fun _ _ _ _ => rfl, Place.le_refl _, fun i k S2 e => .inl ⟨i, S2, e⟩⟩⟩
  · cases i with
    | zero =>
      simp [hp] at e; subst e
      refine ⟨fun j x hx => ?_, .inr ⟨gg, S, _, E, fr, hρ, same, by rw [hsz]; exact b3, b4, by rw [clen, hm]; omega, fun j x u hx hu => ?_, (fun e => by cases e), fun j _ => b8 j (fun e => by cases e)⟩⟩
      · have hj : j < m.length * 4 := by rw [← clen]; exact (List.getElem?_eq_some_iff.1 hx).1
        rw [cells m j hj] at hx; cases hx; rfl
      · have hj : j < m.length * 4 := by rw [← clen]; exact (List.getElem?_eq_some_iff.1 hx).1
        rw [cells m j hj] at hx; cases hx
        rw [hcell j (by omega)] at hu
        cases hu
        exact .int _ _
    | succ i => simp [hp] at e
  · obtain ⟨q1, b, q2⟩ := s.dom i k S2 e
    refine ⟨by simp; omega, ?_⟩
    cases i with
    | zero => exact ⟨_, rfl⟩
    | succ i => simp [hp] at q2
  · have z : ∀ i, live (hp [.row false (regC (rgs m))]) i → i = 0 := by
      rintro i ⟨b, q, _⟩
      cases i with
      | zero => rfl
      | succ i => simp [hp] at q
    rw [z i l1, z j l2]
def cfA (x y : Ar) : Int := cmpRg x.rg y.rg
theorem cfA_lt (x y : Ar) : ltOf cfA x y = decide (x.t < y.t ∨ (x.t = y.t ∧ x.l < y.l)) := by
  unfold ltOf cfA cmpRg cmpI
  congr 1
  apply propext
  simp only
  repeat' split
  all_goals omega
theorem cfA_swo : SWO (ltOf cfA) := by
  refine ⟨fun x => ?_, fun x y z h1 h2 => ?_, fun x y z h1 h2 => ?_⟩
  · rw [cfA_lt]; simp
  · rw [cfA_lt, decide_eq_true_eq] at *; omega
  · rw [cfA_lt, decide_eq_false_iff_not] at *; omega
/-- The only sorted permutation. -/
theorem perm_sorted {l : List Ar} {d : Array Ar} (hk : KeysOne l) (hp : PermIn 0 l.toArray.size l.toArray d) (hs : SortedIn (ltOf cfA) 0 l.toArray.size d) : d = (l.mergeSort leA).toArray := by
  obtain ⟨p1, _, p3⟩ := hp
  have e1 : d.extract 0 l.toArray.size = d := by rw [← p1, Array.extract_size]
  have e2 : l.toArray.extract 0 l.toArray.size = l.toArray := Array.extract_size
  rw [e1, e2] at p3
  have p3 : d.toList.Perm l := p3
  have hd : d.toList.Pairwise fun x y => leA x y = true := by
    refine List.pairwise_iff_getElem.2 fun i j hi hj hij => ?_
    have hi' : i < d.size := by simpa using hi
    have hj' : j < d.size := by simpa using hj
    have := hs i j (Nat.zero_le _) hij (by rw [← p1]; exact hj')
    rw [getElem!_pos d i hi', getElem!_pos d j hj', cfA_lt, decide_eq_false_iff_not] at this
    simp only [leA, Array.getElem_toList, decide_eq_true_eq]; omega
  have := sorted_uniq ((List.mergeSort_perm l leA).trans p3.symm) (fun x hx y hy => hk x ((List.mergeSort_perm l leA).subset hx) y ((List.mergeSort_perm l leA).subset hy)) (sortA_sorted l) hd
  rw [this]
end Go.Proofs.YtacepalmphbnfaaGreatDoor

namespace Go.Proofs.YtacepalmphbnfaaGreatDoor
open Go Go.Proofs Go.Abs Go.RowKit Go.Sort Go.Shelf
variable {G : Globals}
/-! Sheet: slices.SortFunc of regions; sheet.Regions. -/
def Tryz.cmpIntL_ren : Go.Shelf.Ren := ⟨fun | 5 => 65 | 7 => 106 | n => n, fun | 22 => 3 | 3 => 3 | 4 => 4 | n => n, fun | n => n⟩
theorem Tryz.cmpIntL : Go.Proofs.SlLaysC2.n5 Tryz.prog Tryz.cmpIntL_ren where
  mixed := by kernel_rfl
  f5 := ⟨Tryz.f65.name, by kernel_rfl, Tryz.func65.trans (congrArg some (by kernel_rfl))⟩
  f7 := ⟨Tryz.f106.name, by kernel_rfl, Tryz.func106.trans (congrArg some (by kernel_rfl))⟩
  t3 := Tryz.underlying3
  a3 := Tryz.isAgg3
  z3 := Tryz.sizeOf3
  v3 := Tryz.zeroValue3
  t4 := Tryz.underlying4
  a4 := Tryz.isAgg4
  z4 := Tryz.sizeOf4
  v4 := Tryz.zeroValue4
  t22 := Tryz.underlying3
  a22 := Tryz.isAgg3
  z22 := Tryz.sizeOf3
  v22 := Tryz.zeroValue3

def Tryz.sortRgL_ren : Go.Shelf.Ren := ⟨fun | 6 => 85 | 15 => 105 | 14 => 121 | 28 => 140 | 29 => 141 | 20 => 157 | 21 => 158 | 22 => 159 | 23 => 160 | 24 => 161 | 25 => 162 | 26 => 163 | 27 => 164 | 46 => 192 | 47 => 175 | 48 => 176 | 49 => 193 | 50 => 194 | 57 => 209 | n => n, fun | 22 => 61 | 24 => 64 | 25 => 116 | 3 => 3 | 39 => 129 | 0 => 0 | 53 => 163 | 55 => 165 | 4 => 4 | 46 => 157 | 45 => 156 | 50 => 112 | 5 => 5 | 9 => 9 | 66 => 194 | 70 => 198 | 76 => 215 | 77 => 216 | n => n, fun | n => n⟩
theorem Tryz.sortRgL : Go.Proofs.SlLaysF0.n6 Tryz.prog Tryz.sortRgL_ren where
  mixed := by kernel_rfl
  f6 := ⟨Tryz.f85.name, by kernel_rfl, Tryz.func85.trans (congrArg some (by kernel_rfl))⟩
  f14 := ⟨Tryz.f121.name, by kernel_rfl, Tryz.func121.trans (congrArg some (by kernel_rfl))⟩
  f15 := Tryz.func105.trans (congrArg some (by kernel_rfl))
  f20 := ⟨Tryz.f157.name, by kernel_rfl, Tryz.func157.trans (congrArg some (by kernel_rfl))⟩
  f21 := ⟨Tryz.f158.name, by kernel_rfl, Tryz.func158.trans (congrArg some (by kernel_rfl))⟩
  f22 := ⟨Tryz.f159.name, by kernel_rfl, Tryz.func159.trans (congrArg some (by kernel_rfl))⟩
  f23 := ⟨Tryz.f160.name, by kernel_rfl, Tryz.func160.trans (congrArg some (by kernel_rfl))⟩
  f24 := ⟨Tryz.f161.name, by kernel_rfl, Tryz.func161.trans (congrArg some (by kernel_rfl))⟩
  f25 := ⟨Tryz.f162.name, by kernel_rfl, Tryz.func162.trans (congrArg some (by kernel_rfl))⟩
  f26 := ⟨Tryz.f163.name, by kernel_rfl, Tryz.func163.trans (congrArg some (by kernel_rfl))⟩
  f27 := ⟨Tryz.f164.name, by kernel_rfl, Tryz.func164.trans (congrArg some (by kernel_rfl))⟩
  f28 := Tryz.func140.trans (congrArg some (by kernel_rfl))
  f29 := Tryz.func141.trans (congrArg some (by kernel_rfl))
  f46 := ⟨Tryz.f192.name, by kernel_rfl, Tryz.func192.trans (congrArg some (by kernel_rfl))⟩
  f47 := Tryz.func175.trans (congrArg some (by kernel_rfl))
  f48 := Tryz.func176.trans (congrArg some (by kernel_rfl))
  f49 := ⟨Tryz.f193.name, by kernel_rfl, Tryz.func193.trans (congrArg some (by kernel_rfl))⟩
  f50 := ⟨Tryz.f194.name, by kernel_rfl, Tryz.func194.trans (congrArg some (by kernel_rfl))⟩
  f57 := ⟨Tryz.f209.name, by kernel_rfl, Tryz.func209.trans (congrArg some (by kernel_rfl))⟩
  t0 := Tryz.underlying0
  a0 := Tryz.isAgg0
  z0 := Tryz.sizeOf0
  v0 := Tryz.zeroValue0
  t3 := Tryz.underlying3
  a3 := Tryz.isAgg3
  z3 := Tryz.sizeOf3
  v3 := Tryz.zeroValue3
  t4 := Tryz.underlying4
  a4 := Tryz.isAgg4
  z4 := Tryz.sizeOf4
  v4 := Tryz.zeroValue4
  t5 := Tryz.underlying5
  a5 := Tryz.isAgg5
  z5 := Tryz.sizeOf5
  v5 := Tryz.zeroValue5
  t9 := Tryz.underlying9
  a9 := Tryz.isAgg9
  z9 := Tryz.sizeOf9
  v9 := Tryz.zeroValue9
  t22 := Tryz.underlying61
  a22 := Tryz.isAgg61
  z22 := Tryz.sizeOf61
  v22 := Tryz.zeroValue61
  t25 := Tryz.underlying116
  a25 := Tryz.isAgg116
  z25 := Tryz.sizeOf116
  v25 := Tryz.zeroValue116
  t39 := Tryz.underlying129
  a39 := Tryz.isAgg129
  z39 := Tryz.sizeOf129
  v39 := Tryz.zeroValue129
  t45 := Tryz.underlying156
  a45 := Tryz.isAgg156
  z45 := Tryz.sizeOf156
  v45 := Tryz.zeroValue156
  t46 := Tryz.underlying157
  a46 := Tryz.isAgg157
  z46 := Tryz.sizeOf157
  v46 := Tryz.zeroValue157
  t50 := Tryz.underlying112
  a50 := Tryz.isAgg112
  z50 := Tryz.sizeOf112
  v50 := Tryz.zeroValue112
  t53 := Tryz.underlying163
  a53 := Tryz.isAgg163
  z53 := Tryz.sizeOf163
  v53 := Tryz.zeroValue163
  t55 := Tryz.underlying165
  a55 := Tryz.isAgg165
  z55 := Tryz.sizeOf165
  v55 := Tryz.zeroValue165
  t66 := Tryz.underlying194
  a66 := Tryz.isAgg194
  z66 := Tryz.sizeOf194
  v66 := Tryz.zeroValue194
  t70 := Tryz.underlying198
  a70 := Tryz.isAgg198
  z70 := Tryz.sizeOf198
  v70 := Tryz.zeroValue198
  t76 := Tryz.underlying215
  a76 := Tryz.isAgg215
  z76 := Tryz.sizeOf215
  v76 := Tryz.zeroValue215
  t77 := Tryz.underlying216
  a77 := Tryz.isAgg216
  z77 := Tryz.sizeOf216
  v77 := Tryz.zeroValue216

set_option maxHeartbeats 4000000 in
theorem or_raw (x y : Int) (blk : Nat) (w : World) (h0 : w.cell? ⟨blk, 0, none⟩ = some (.int .i64 x)) (h1 : w.cell? ⟨blk, 1, none⟩ = some (.int .i64 y)) :
    Calls Tryz.prog 64 #[.slice (some ⟨blk, 0, none⟩) 2 2] w fun e w' => e = .returned (.int .i64 (if x ≠ 0 then x else y)) ∧ w' = w := by
  go_enter Tryz.func64, Tryz.ntmps64
  by_cases hx : x = 0
  · by_cases hy : y = 0
    · subst hx hy
      go_wp2
      refine wp_loop_rounds 3 ?_
      rw [rounds_succ]
      go_wp2
      rw [rounds_succ]
      go_wp2
      rw [rounds_succ]
      go_wp2
      go_ret
      exact ⟨rfl, rfl⟩
    · subst hx
      have hyb : (y != 0) = true := by simpa using hy
      go_wp2
      refine wp_loop_rounds 3 ?_
      rw [rounds_succ]
      go_wp2
      rw [rounds_succ]
      go_wp2
      go_ret
      exact ⟨rfl, rfl⟩
  · rw [if_pos hx]
    have hxb : (x != 0) = true := by simpa using hx
    go_wp2
    refine wp_loop_rounds 3 ?_
    rw [rounds_succ]
    go_wp2
    go_ret
    exact ⟨rfl, rfl⟩
theorem two_objs (W : World) (o1 o2 : Obj) : ((W.alloc o1).alloc o2).heap[W.heap.size]? = some o1 ∧ ((W.alloc o1).alloc o2).heap[W.heap.size + 1]? = some o2 := by
  constructor
  · show ((W.heap.push o1).push o2)[W.heap.size]? = _
    simp [Array.getElem?_push]
  · show ((W.heap.push o1).push o2)[W.heap.size + 1]? = _
    have : W.heap.size + 1 = (W.heap.push o1).size := by simp
    rw [this, Array.getElem?_push_size]
theorem two_cells (W : World) (c1 c2 : Array Value) (e : TypeId) (i : Nat) : ((W.alloc (.cells c1 e)).alloc (.cells c2 e)).cell? ⟨W.heap.size, i, none⟩ = c1[i]? ∧ ((W.alloc (.cells c1 e)).alloc (.cells c2 e)).cell? ⟨W.heap.size + 1, i, none⟩ = c2[i]? := by
  obtain ⟨h1, h2⟩ := two_objs W (.cells c1 e) (.cells c2 e)
  constructor
  · rw [World.cell?]; simp only [h1, Option.isSome_none, Bool.false_eq_true, if_false]
  · rw [World.cell?]; simp only [h2, Option.isSome_none, Bool.false_eq_true, if_false]
theorem one_cell (W : World) (c : Array Value) (e : TypeId) (i : Nat) : (W.alloc (.cells c e)).cell? ⟨W.heap.size, i, none⟩ = c[i]? := by
  have h1 : (W.alloc (.cells c e)).heap[W.heap.size]? = some (.cells c e) := by
    show (W.heap.push _)[W.heap.size]? = _
    rw [Array.getElem?_push_size]
  rw [World.cell?]; simp only [h1, Option.isSome_none, Bool.false_eq_true, if_false]
set_option maxHeartbeats 16000000 in
set_option maxRecDepth 100000 in
theorem clo_raw (a b c d a' b' c' d' : Int) (W : World) : Calls Tryz.prog 86 #[.agg #[.int .i64 a, .int .i64 b, .int .i64 c, .int .i64 d], .agg #[.int .i64 a', .int .i64 b', .int .i64 c', .int .i64 d']] W fun e w' => e = .returned (.int .i64 (if Lib.compareInt a a' ≠ 0 then Lib.compareInt a a' else Lib.compareInt b b')) ∧ ∃ q os', w' = grow (W.drewN q) os' := by
  have hcon := fun x y W' => AnyG.cmp_Compare_int Tryz.cmpIntL x y W'
  change ∀ x y W', Calls Tryz.prog 65 _ _ _ at hcon
  have h1 := hcon a a'
  have h2 := hcon b b'
  clear hcon
  generalize Lib.compareInt a a' = r at h1 ⊢
  generalize Lib.compareInt b b' = s at h2 ⊢
  have h3 := fun blk w => or_raw r s blk w
  generalize (if r ≠ 0 then r else s) = z at h3 ⊢
  go_enter Tryz.func86, Tryz.ntmps86
  go_wp2_with (fail)
  change Code.wp _ _ _ _ ((W.alloc (.cells #[.int .i64 a, .int .i64 b, .int .i64 c, .int .i64 d] 64)).alloc (.cells #[.int .i64 a', .int .i64 b', .int .i64 c', .int .i64 d'] 64))
  have f0 : ((W.alloc (.cells #[.int .i64 a, .int .i64 b, .int .i64 c, .int .i64 d] 64)).alloc (.cells #[.int .i64 a', .int .i64 b', .int .i64 c', .int .i64 d'] 64)).cell? ⟨W.heap.size, 0, none⟩ = some (.int .i64 a) := (two_cells W _ _ _ 0).1
  have f1 : ((W.alloc (.cells #[.int .i64 a, .int .i64 b, .int .i64 c, .int .i64 d] 64)).alloc (.cells #[.int .i64 a', .int .i64 b', .int .i64 c', .int .i64 d'] 64)).cell? ⟨W.heap.size, 1, none⟩ = some (.int .i64 b) := (two_cells W _ _ _ 1).1
  have g0 : ((W.alloc (.cells #[.int .i64 a, .int .i64 b, .int .i64 c, .int .i64 d] 64)).alloc (.cells #[.int .i64 a', .int .i64 b', .int .i64 c', .int .i64 d'] 64)).cell? ⟨W.heap.size + 1, 0, none⟩ = some (.int .i64 a') := (two_cells W _ _ _ 0).2
  have g1 : ((W.alloc (.cells #[.int .i64 a, .int .i64 b, .int .i64 c, .int .i64 d] 64)).alloc (.cells #[.int .i64 a', .int .i64 b', .int .i64 c', .int .i64 d'] 64)).cell? ⟨W.heap.size + 1, 1, none⟩ = some (.int .i64 b') := (two_cells W _ _ _ 1).2
  have hgr : grow W (#[.cells #[.int .i64 a, .int .i64 b, .int .i64 c, .int .i64 d] 64] ++ #[.cells #[.int .i64 a', .int .i64 b', .int .i64 c', .int .i64 d'] 64]) = ((W.alloc (.cells #[.int .i64 a, .int .i64 b, .int .i64 c, .int .i64 d] 64)).alloc (.cells #[.int .i64 a', .int .i64 b', .int .i64 c', .int .i64 d'] 64)) := by rw [alloc_eq_grow, alloc_eq_grow, grow_grow]
  generalize ((W.alloc (.cells #[.int .i64 a, .int .i64 b, .int .i64 c, .int .i64 d] 64)).alloc (.cells #[.int .i64 a', .int .i64 b', .int .i64 c', .int .i64 d'] 64)) = W2 at f0 f1 g0 g1 hgr ⊢
  have hX : ∃ X, grow W X = W2 := ⟨_, hgr⟩
  clear hgr
  have f0' : W2.drew.cell? ⟨W.heap.size, 0, none⟩ = some (.int .i64 a) := f0
  have f1' : W2.drew.cell? ⟨W.heap.size, 1, none⟩ = some (.int .i64 b) := f1
  have g0' : W2.drew.cell? ⟨W.heap.size + 1, 0, none⟩ = some (.int .i64 a') := g0
  have g1' : W2.drew.cell? ⟨W.heap.size + 1, 1, none⟩ = some (.int .i64 b') := g1
  have h4 := h3 W2.heap.size (W2.drew.alloc (.cells #[.int .i64 r, .int .i64 s] 3)) (one_cell W2.drew _ _ 0) (one_cell W2.drew _ _ 1)
  clear h3
  refine wp_region_still_tail 10 (by kernel_rfl) (by kernel_rfl) ?_
  simp only [List.take_succ_cons, List.take_zero, List.drop_succ_cons, List.drop_zero]
  still_step
  still_step
  still_step
  still_step
  still_call (h1 _)
  still_step
  still_step
  still_step
  still_step
  still_call (h2 _)
  refine wpStill_nil ?_
  change wpList _ _ _ _ _ W2.drew
  go_wp2_with (go_at_call 64; refine h4.mono ?_; rintro e w' ⟨rfl, rfl⟩)
  go_ret
  obtain ⟨X, rfl⟩ := hX
  refine ⟨rfl, 1, X ++ #[.cells #[.int .i64 r, .int .i64 s] 3], ?_⟩
  rw [alloc_eq_grow]
  exact grow_grow (W.drewN 1) X _
theorem cmpI_lib (x y : Int) : Lib.compareInt x y = cmpI x y := rfl
theorem cfA_raw (x y : Ar) : (if Lib.compareInt (x.t : Int) y.t ≠ 0 then Lib.compareInt (x.t : Int) y.t else Lib.compareInt (x.l : Int) y.l) = cfA x y := by
  simp only [cmpI_lib]
  rfl
theorem clo_lays (blk off size : Nat) (w : World) : CmpLays Tryz.prog 86 #[] encA 4 cfA blk off size w := by
  intro m os dk _ x y
  rw [← cfA_raw]
  exact clo_raw x.t x.l x.b x.r y.t y.l y.b y.r _
theorem rg_agg (w : World) : (isAgg 64).run Tryz.prog w = .ok true w := Abs.run_isAgg ti64 w
theorem rg_size (w : World) : (Go.sizeOf 64).run Tryz.prog w = .ok 4 w := Abs.run_sizeOf ti64 w
theorem sortRg_spec (l : List Ar) (hl : l.length ≤ 1000000) (hk : KeysOne l) :
    Ctr Tryz.prog G 85 [.lsl 0 4 0 l.length, .d (.fn (.func 86) [] [])] [.row false (regC (rgs l))] .undef [.row false (regC (rgs (l.mergeSort leA)))] := by
  refine sortf_ctr go85 l (l.mergeSort leA) (List.length_mergeSort l) (fun p cap fv w => AnyF.slices_SortFunc_none Tryz.sortRgL p cap fv w) fun _ blk cap w hH hblk => ?_
  have eg : ∀ args w, (callFunc 86 args).run Tryz.prog w = .ok (.enter 86 args) w := enters_of Tryz.func86 (by kernel_rfl) rfl
  have hcon := AnyQ.slices_SortFunc Tryz.sortRgL 4 rg_agg rg_size encA (fun _ => rfl) (fun x v hv => by simp [encA, numsA] at hv; rcases hv with rfl | rfl | rfl | rfl <;> rfl) cfA cfA_swo 86 #[] blk 0 cap l.toArray w eg (clo_lays blk 0 l.toArray.size w) hH hblk (by simp; omega)
  refine hcon.mono ?_
  rintro e w' ⟨he, d', n, os, hp, hs, hw⟩
  exact ⟨he, n, os, by rw [hw, perm_sorted hk hp hs]⟩
def MRg : Muts := fun k => k == 85 || k == 84
theorem MRg_p : MRg 84 = true := rfl
theorem MRg_s : MRg 85 = true := rfl
theorem MRg_n {k : Nat} (h : k ≠ 85 ∧ k ≠ 84) : MRg k = false := by
  simp only [MRg, Bool.or_eq_false_iff, beq_eq_false_iff_ne]; exact h
set_option maxHeartbeats 8000000 in
set_option maxRecDepth 100000 in
theorem regions_spec (g : List Row) (full : Bool) (hg : okGrid g) (h : Grd g) :
    Ctr Tryz.prog G 37 [.d (.agg [Gr g full])] [] (.lsl 0 4 0 (regsL g).length) [.row false (regC (rgs (regsL g)))] := by
  have gl := @rowsD_length g
  have g1 := h.gl
  have g2 := h.gw
  refine Ctr.body (M := MRg) hmix Tryz.func37 rfl go37 ?_
  have sp := split_any (G := G) g hg (wholeG g) (whole_in h) full (Nat.le_trans (leaves_few h) (by decide))
  rw [show splitX g ((wholeG g).sz + 1) (wholeG g) = leavesX g (wholeG g) from rfl] at sp
  have so := sortRg_spec (G := G) (leavesX g (wholeG g)) (leaves_few h) (keys_of (leavesOK (whole_in h)))
  rw [show (leavesX g (wholeG g)).mergeSort leA = regsL g from rfl] at so
  have le : (regsL g).length = (leavesX g (wholeG g)).length := (regs_perm g).length_eq
  rw [le]
  generalize leavesX g (wholeG g) = L at *
  simp (config := { maxSteps := 1000000 }) (disch := ((try simp only [awL]); omega)) only [QR, QS, QT, QU, QV, QW, QX, QY, QZ, Q0, Q1, Q2, MRg_s, MRg_p, MRg_n, gl, Tryz.f37, ↓awU, awV, awF, Qa, Qb, Qc, Qd, forall_const, ↓reduceIte, ↓reduceDIte, ↓Qe, Qf, Qg, Qh, Qi, Qj, Qk, Ql, Qm, Qn, Qo, Qp, Qq, Qr, Qs, implies_true, Qt, Qu, Qv, Qw, Qx, Qy, Qz, QA, QB, QC, QD, QE, QF, QG, QH, QI, QJ, QK, QL, QM, QN, QO, QP, QQ]
  refine CallC.of (width_spec g false hg) (by rfl) ?_
  simp (config := { maxSteps := 1000000 }) (disch := ((try simp only [awL]); omega)) only [QR, QS, QT, QU, QV, QW, QX, QY, QZ, Q0, Q1, Q2, MRg_s, MRg_p, MRg_n, gl, ↓awU, awV, awF, Qa, Qb, Qc, Qd, forall_const, ↓reduceIte, ↓reduceDIte, ↓Qe, Qf, Qg, Qh, Qi, Qj, Qk, Ql, Qm, Qn, Qo, Qp, Qq, Qr, Qs, implies_true, Qt, Qu, Qv, Qw, Qx, Qy, Qz, QA, QB, QC, QD, QE, QF, QG, QH, QI, QJ, QK, QL, QM, QN, QO, QP, QQ]
  refine CallC.by sp (by rfl) (by rfl) (Nat.zero_le _) ?_
  simp (config := { maxSteps := 1000000 }) (disch := ((try simp only [awL]); omega)) only [QR, QS, QT, QU, QV, QW, QX, QY, QZ, Q0, Q1, Q2, MRg_s, MRg_p, MRg_n, gl, ↓awU, awV, awF, Qa, Qb, Qc, Qd, forall_const, ↓reduceIte, ↓reduceDIte, ↓Qe, Qf, Qg, Qh, Qi, Qj, Qk, Ql, Qm, Qn, Qo, Qp, Qq, Qr, Qs, implies_true, Qt, Qu, Qv, Qw, Qx, Qy, Qz, QA, QB, QC, QD, QE, QF, QG, QH, QI, QJ, QK, QL, QM, QN, QO, QP, QQ]
  refine ⟨by rfl, CallC.by so (by rfl) (by rfl) (Nat.le_refl _) ?_⟩
  simp (config := { maxSteps := 1000000 }) (disch := ((try simp only [awL]); omega)) only [QR, QS, QT, QU, QV, QW, QX, QY, QZ, Q0, Q1, Q2, MRg_s, MRg_p, MRg_n, gl, ↓awU, awV, awF, Qa, Qb, Qc, Qd, forall_const, ↓reduceIte, ↓reduceDIte, ↓Qe, Qf, Qg, Qh, Qi, Qj, Qk, Ql, Qm, Qn, Qo, Qp, Qq, Qr, Qs, implies_true, Qt, Qu, Qv, Qw, Qx, Qy, Qz, QA, QB, QC, QD, QE, QF, QG, QH, QI, QJ, QK, QL, QM, QN, QO, QP, QQ]
  first | exact ⟨[some 1], rfl, by simp, by simp [HWeak, BWeak, SWeak, AWeak], .inl (by simp [AWeak, SWeak])⟩ | trace_state
end Go.Proofs.YtacepalmphbnfaaGreatDoor

namespace Go.Proofs.YtacepalmphbnfaaGreatDoor
open Go Go.Proofs Go.Abs
/-! Sheet, plain: a cut at a blank column. -/
end Go.Proofs.YtacepalmphbnfaaGreatDoor

namespace Go.Proofs.YtacepalmphbnfaaGreatDoor
open Go Go.Proofs Go.Abs
/-! Sheet, plain: the box is tight; the first blank row or column. -/
end Go.Proofs.YtacepalmphbnfaaGreatDoor

namespace Go.Proofs.YtacepalmphbnfaaGreatDoor
open Go Go.Proofs Go.Abs
variable {G : Globals}
/-! Sheet: the reference's tighten. -/
end Go.Proofs.YtacepalmphbnfaaGreatDoor

namespace Go.Proofs.YtacepalmphbnfaaGreatDoor
open Go Go.Proofs Go.Abs
variable {G : Globals}
/-! Sheet: the reference's done. -/
end Go.Proofs.YtacepalmphbnfaaGreatDoor

namespace Go.Proofs.YtacepalmphbnfaaGreatDoor
open Go Go.Proofs Go.Abs
variable {G : Globals}
/-! Sheet: the reference's done. -/
end Go.Proofs.YtacepalmphbnfaaGreatDoor

namespace Go.Proofs.YtacepalmphbnfaaGreatDoor
open Go Go.Proofs Go.Abs
variable {G : Globals}
/-! Sheet: the reference's Regions: plain. -/
end Go.Proofs.YtacepalmphbnfaaGreatDoor

namespace Go.Proofs.YtacepalmphbnfaaGreatDoor
open Go Go.Proofs Go.Abs
variable {G : Globals}
/-! Sheet: the reference's Regions. -/
theorem rgs_length (l : List Ar) : (rgs l).length = l.length := List.length_map _
theorem rgs_get {l : List Ar} {k : Nat} (h : k < l.length) : (rgs l).getD k noRg = (l.getD k default).rg := by
  rw [List.getD_eq_getElem?_getD, List.getD_eq_getElem?_getD, List.getElem?_map, List.getElem?_eq_getElem h]; rfl
theorem rgs_cells {l : List Ar} {k : Nat} (h : k < l.length) : ((regC (rgs l)).drop (k * 4)).take 4 = [.int .i64 (l.getD k default).t, .int .i64 (l.getD k default).l, .int .i64 (l.getD k default).b, .int .i64 (l.getD k default).r] := by
  rw [regC_get (by rw [rgs_length]; exact h), rgs_get h]
end Go.Proofs.YtacepalmphbnfaaGreatDoor

namespace Go.Proofs.YtacepalmphbnfaaGreatDoor
open Go Go.Proofs Go.Abs
variable {G : Globals}
/-! Sheet: the sanity check. -/
def saneG : List Row := [[[97], [98], [], [99]], [[100], [], [], [101]]]
def saneR : List Ar := [⟨0, 0, 2, 2⟩, ⟨0, 3, 2, 4⟩]
def saneS : List UInt8 := [48, 44, 48, 44, 50, 44, 50, 59, 48, 44, 51, 44, 50, 44, 52]
theorem saneG_small : SmallG 8 saneG := by
  refine ⟨by decide, fun r hr => ?_⟩
  simp only [saneG, List.mem_cons, List.not_mem_nil, or_false] at hr
  rcases hr with rfl | rfl
  · exact ⟨by decide, fun s hs => by simp only [List.mem_cons, List.not_mem_nil, or_false] at hs; rcases hs with rfl | rfl | rfl | rfl <;> simp⟩
  · exact ⟨by decide, fun s hs => by simp only [List.mem_cons, List.not_mem_nil, or_false] at hs; rcases hs with rfl | rfl | rfl | rfl <;> simp⟩
set_option maxRecDepth 100000 in
theorem sane_leaves : leavesX saneG (wholeG saneG) = saneR := by decide +kernel
theorem sane_regs : regsL saneG = saneR := by
  refine (regs_is (saneG_small.ok (by decide)).2 (l := saneR) (by rw [sane_leaves]) ?_).symm
  unfold saneR
  decide
set_option maxRecDepth 100000 in
theorem sane_textR : textR (rgs saneR) = some saneS := by decide +kernel
theorem sane_par : parO saneS = some (rgs saneR) := (parO_iff (by decide)).2 sane_textR
set_option maxHeartbeats 4000000 in
set_option maxRecDepth 100000 in
theorem ssane_spec (hI : HI G) (hE : HE G) : Ctr Tryz.prog G 35 [] [] (.d (.bool true)) [] := by
  refine Ctr.pure (M := M0) hmix Tryz.func35 rfl go35 ?_
  have h0 := saneG_small.ok (by decide)
  have r0 := regions_spec (G := G) saneG false h0.1 h0.2
  have t0 := stext_spec hI (rgs saneR) false (by decide)
  have p0 := sparse_spec hI hE saneS (by decide)
  rw [sane_regs] at r0
  rw [sane_textR] at t0
  unfold parD at p0
  rw [if_neg (by decide), sane_par] at p0
  dsimp only at p0
  have hs : S saneS = S [48, 44, 48, 44, 50, 44, 50, 59, 48, 44, 51, 44, 50, 44, 52] := rfl
  have cl : (regC (rgs saneR)).length = 8 := rfl
  have cu : cut (regC (rgs saneR)) 0 (2 * 4) = regC (rgs saneR) := rfl
  have cc : ((regC (rgs saneR)).drop (1 * 4)).take 4 = [.int .i64 0, .int .i64 3, .int .i64 2, .int .i64 4] := rfl
  have l2 : (rgs saneR).length = 2 := rfl
  have l3 : saneR.length = 2 := rfl
  rw [l2] at p0 t0
  rw [l3] at r0
  simp (config := { maxSteps := 1000000 }) (disch := ((try simp only [awL]); omega)) only [QR, QS, QT, QU, QV, QW, QX, QY, QZ, Q0, Q1, Q2, Tryz.f35, ↓awU, awV, awF, Qa, Qb, Qc, Qd, forall_const, ↓reduceIte, ↓reduceDIte, ↓Qe, Qf, Qg, Qh, Qi, Qj, Qk, Ql, Qm, Qn, Qo, Qp, Qq, Qr, Qs, implies_true, Qt, Qu, Qv, Qw, Qx, Qy, Qz, QA, QB, QC, QD, QE, QF, QG, QH, QI, QJ, QK, QL, QM, QN, QO, QP, QQ]
  refine CallC.by r0 (by rfl) (by rfl) (Nat.zero_le _) ?_
  generalize regC (rgs saneR) = C at *
  simp (config := { maxSteps := 1000000 }) (disch := ((try simp only [awL]); omega)) only [QR, QS, QT, QU, QV, QW, QX, QY, QZ, Q0, Q1, Q2, cl, cu, ↓awU, awV, awF, Qa, Qb, Qc, Qd, forall_const, ↓reduceIte, ↓reduceDIte, ↓Qe, Qf, Qg, Qh, Qi, Qj, Qk, Ql, Qm, Qn, Qo, Qp, Qq, Qr, Qs, implies_true, Qt, Qu, Qv, Qw, Qx, Qy, Qz, QA, QB, QC, QD, QE, QF, QG, QH, QI, QJ, QK, QL, QM, QN, QO, QP, QQ]
  refine CallC.frozenE t0 (by first | rfl | rw [cu]) ?_
  simp (config := { maxSteps := 1000000 }) (disch := ((try simp only [awL]); omega)) only [QR, QS, QT, QU, QV, QW, QX, QY, QZ, Q0, Q1, Q2, textD, cl, cu, ↓awU, awV, awF, Qa, Qb, Qc, Qd, forall_const, ↓reduceIte, ↓reduceDIte, ↓Qe, Qf, Qg, Qh, Qi, Qj, Qk, Ql, Qm, Qn, Qo, Qp, Qq, Qr, Qs, implies_true, Qt, Qu, Qv, Qw, Qx, Qy, Qz, QA, QB, QC, QD, QE, QF, QG, QH, QI, QJ, QK, QL, QM, QN, QO, QP, QQ]
  refine CallC.of p0 (by rfl) ?_
  simp (config := { maxSteps := 1000000 }) (disch := ((try simp only [awL]); omega)) only [QR, QS, QT, QU, QV, QW, QX, QY, QZ, Q0, Q1, Q2, cl, cu, cc, hs, beq_self_eq_true, ↓awU, awV, awF, Qa, Qb, Qc, Qd, forall_const, ↓reduceIte, ↓reduceDIte, ↓Qe, Qf, Qg, Qh, Qi, Qj, Qk, Ql, Qm, Qn, Qo, Qp, Qq, Qr, Qs, implies_true, Qt, Qu, Qv, Qw, Qx, Qy, Qz, QA, QB, QC, QD, QE, QF, QG, QH, QI, QJ, QK, QL, QM, QN, QO, QP, QQ]
  rfl
end Go.Proofs.YtacepalmphbnfaaGreatDoor

namespace Go.Proofs.YtacepalmphbnfaaGreatDoor
open Go Go.Proofs Go.Abs
variable {G : Globals}
/-! The law SheetJoins. -/
theorem regs_in {g : List Row} (h : Grd g) {x : Ar} (hx : x ∈ regsL g) : x.t ≤ x.b ∧ x.b ≤ 1000 ∧ x.l ≤ x.r ∧ x.r ≤ 1000 := by
  obtain ⟨a, b1, b2, b3, b4⟩ := (regs_ok h).leaf x hx
  have := h.gl
  have := h.gw
  have := a.tb
  have := a.lr
  simp only [wholeG] at b2 b4
  omega
end Go.Proofs.YtacepalmphbnfaaGreatDoor

namespace Go.Proofs.YtacepalmphbnfaaGreatDoor
open Go Go.Proofs Go.Abs
variable {G : Globals}
/-! The law SheetCovers. -/
theorem cutF_leaf {g : List Row} {r : Ar} (h1 : r.t < r.b) (h2 : r.l < r.r) (h3 : r.b ≤ 1000) (h4 : r.r ≤ 60) : cutF g r.rg = (cutG g r, 0) := by
  have ho : okRg r.rg = true := by simp only [okRg, Ar.rg, decide_eq_true_eq]; omega
  rw [cutF, if_neg (by rw [ho]; decide), if_neg (by simp only [Ar.rg]; omega)]
  rfl
theorem countP_take {l : List Ar} {p : Ar → Bool} {i : Nat} (h : i < l.length) : (l.take (i + 1)).countP p = (l.take i).countP p + if p (l.getD i default) = true then 1 else 0 := by
  rw [List.take_add_one, getD_some (d := default) h, List.countP_append]
  simp [List.countP_cons]
set_option maxHeartbeats 16000000 in
set_option maxRecDepth 100000 in
theorem covers_law (hI : HI G) (hE : HE G) (t : List Int) (ht : OkS t) (hl : t.length ≤ 9223372036854775807) :
    Ctr Tryz.prog G 10 [.d (.sl t.length false (ints .u8 t))] [] (.d (.bool true)) [] := by
  refine Ctr.pure (M := M0) hmix Tryz.func10 rfl go10 ?_
  have hmm := ht.take
  simp (config := { maxSteps := 1000000 }) (disch := ((try simp only [awL]); omega)) only [QR, QS, QT, QU, QV, QW, QX, QY, QZ, Q0, Q1, Q2, Tryz.f10, ↓awU, awV, awF, Qa, Qb, Qc, Qd, forall_const, ↓reduceIte, ↓reduceDIte, ↓Qe, Qf, Qg, Qh, Qi, Qj, Qk, Ql, Qm, Qn, Qo, Qp, Qq, Qr, Qs, implies_true, Qt, Qu, Qv, Qw, Qx, Qy, Qz, QA, QB, QC, QD, QE, QF, QG, QH, QI, QJ, QK, QL, QM, QN, QO, QP, QQ]
  refine CallC.pure (ssane_spec hI hE) ?_
  simp (config := { maxSteps := 1000000 }) (disch := ((try simp only [awL]); omega)) only [QR, QS, QT, QU, QV, QW, QX, QY, QZ, Q0, Q1, Q2, ↓awU, awV, awF, Qa, Qb, Qc, Qd, forall_const, ↓reduceIte, ↓reduceDIte, ↓Qe, Qf, Qg, Qh, Qi, Qj, Qk, Ql, Qm, Qn, Qo, Qp, Qq, Qr, Qs, implies_true, Qt, Qu, Qv, Qw, Qx, Qy, Qz, QA, QB, QC, QD, QE, QF, QG, QH, QI, QJ, QK, QL, QM, QN, QO, QP, QQ]
  refine CallC.by (new_spec t hl) (by rfl) (by rfl) (Nat.zero_le _) ?_
  generalize t.take 300 = s at *
  simp (config := { maxSteps := 1000000 }) (disch := ((try simp only [awL]); omega)) only [QR, QS, QT, QU, QV, QW, QX, QY, QZ, Q0, Q1, Q2, ↓awU, awV, awF, Qa, Qb, Qc, Qd, forall_const, ↓reduceIte, ↓reduceDIte, ↓Qe, Qf, Qg, Qh, Qi, Qj, Qk, Ql, Qm, Qn, Qo, Qp, Qq, Qr, Qs, implies_true, Qt, Qu, Qv, Qw, Qx, Qy, Qz, QA, QB, QC, QD, QE, QF, QG, QH, QI, QJ, QK, QL, QM, QN, QO, QP, QQ]
  refine CallC.by (page_spec s 0 hmm) (by rfl) (by rfl) (Nat.le_refl _) ?_
  have ga := page_small s 0
  generalize pageM s 0 = g at *
  generalize pageK s 0 = k at *
  have gl := @rowsD_length g
  obtain ⟨g1, g2⟩ := ga.ok (by decide)
  have g8 := ga.1
  have gw : widG g ≤ 8 := widG_le fun r hr => (ga.2 r hr).1
  have fa := regs_few g2
  have ra := regions_spec (G := G) g false g1 g2
  have hin := fun (x : Ar) (hx : x ∈ regsL g) => regs_in g2 hx
  have hlf := fun (x : Ar) (hx : x ∈ regsL g) => (regs_ok g2).leaf x hx
  have hcn := regs_count g2
  simp (config := { maxSteps := 1000000 }) (disch := ((try simp only [awL]); omega)) only [QR, QS, QT, QU, QV, QW, QX, QY, QZ, Q0, Q1, Q2, ↓awU, awV, awF, Qa, Qb, Qc, Qd, forall_const, ↓reduceIte, ↓reduceDIte, ↓Qe, Qf, Qg, Qh, Qi, Qj, Qk, Ql, Qm, Qn, Qo, Qp, Qq, Qr, Qs, implies_true, Qt, Qu, Qv, Qw, Qx, Qy, Qz, QA, QB, QC, QD, QE, QF, QG, QH, QI, QJ, QK, QL, QM, QN, QO, QP, QQ]
  refine CallC.by (L := []) ra (by rfl) (by rfl) (by simp) ?_
  generalize regsL g = la at *
  have ol := regC_length (rgs la)
  rw [rgs_length] at ol
  simp (config := { maxSteps := 1000000 }) (disch := ((try simp only [awL]); omega)) only [QR, QS, QT, QU, QV, QW, QX, QY, QZ, Q0, Q1, Q2, ↓awU, awV, awF, Qa, Qb, Qc, Qd, forall_const, ↓reduceIte, ↓reduceDIte, ↓Qe, Qf, Qg, Qh, Qi, Qj, Qk, Ql, Qm, Qn, Qo, Qp, Qq, Qr, Qs, implies_true, Qt, Qu, Qv, Qw, Qx, Qy, Qz, QA, QB, QC, QD, QE, QF, QG, QH, QI, QJ, QK, QL, QM, QN, QO, QP, QQ]
  refine LoopC.fx 48 (α := Nat) (β := Unit) (fun i => g.length - i) (fun i => [(6, .d (.int .i64 i))]) (fun _ => [.dead, .box [.d (Gr g false)], .row false (regC (rgs la))]) (fun i => i ≤ g.length) 48 (fun _ => []) (fun _ => [.dead, .box [.d (Gr g false)], .row false (regC (rgs la))]) (fun _ => True) 0 (Nat.zero_le _) ?_ ?_ ?_
  · exact ⟨[some 0, some 1, some 2], rfl, by simp, by simp [setsA, keepA, SWeak, AWeak], by simp [HWeak, BWeak, SWeak, AWeak]⟩
  · intro i hi
    simp only [awK, Nat.reduceMod, Nat.reduceDiv, reduceIte]
    rcases Nat.lt_or_ge i g.length with h | h
    · simp (config := { maxSteps := 1000000 }) (disch := ((try simp only [awL]); omega)) only [QR, QS, QT, QU, QV, QW, QX, QY, QZ, Q0, Q1, Q2, gl, ↓awU, awV, awF, Qa, Qb, Qc, Qd, forall_const, ↓reduceIte, ↓reduceDIte, ↓Qe, Qf, Qg, Qh, Qi, Qj, Qk, Ql, Qm, Qn, Qo, Qp, Qq, Qr, Qs, implies_true, Qt, Qu, Qv, Qw, Qx, Qy, Qz, QA, QB, QC, QD, QE, QF, QG, QH, QI, QJ, QK, QL, QM, QN, QO, QP, QQ]
      refine LoopC.fr 112 (α := Nat) (fun j => widG g - j) (fun j => [(7, .d (.int .i64 j))]) (fun _ => [.dead, .box [.d (Gr g false)], .row false (regC (rgs la))]) (fun j => j ≤ widG g) 0 (Nat.zero_le _) ?_ ?_
      · exact ⟨[some 0, some 1, some 2], rfl, by simp, by simp [setsA, keepA, SWeak, AWeak], by simp [HWeak, BWeak, SWeak, AWeak]⟩
      · intro j hj
        simp only [awK, Nat.reduceMod, Nat.reduceDiv, reduceIte]
        simp (config := { maxSteps := 1000000 }) (disch := ((try simp only [awL]); omega)) only [QR, QS, QT, QU, QV, QW, QX, QY, QZ, Q0, Q1, Q2, gl, ↓awU, awV, awF, Qa, Qb, Qc, Qd, forall_const, ↓reduceIte, ↓reduceDIte, ↓Qe, Qf, Qg, Qh, Qi, Qj, Qk, Ql, Qm, Qn, Qo, Qp, Qq, Qr, Qs, implies_true, Qt, Qu, Qv, Qw, Qx, Qy, Qz, QA, QB, QC, QD, QE, QF, QG, QH, QI, QJ, QK, QL, QM, QN, QO, QP, QQ]
        refine CallC.of (width_spec g false g1) (by rfl) ?_
        rcases Nat.lt_or_ge j (widG g) with h2 | h2
        · simp (config := { maxSteps := 1000000 }) (disch := ((try simp only [awL]); omega)) only [QR, QS, QT, QU, QV, QW, QX, QY, QZ, Q0, Q1, Q2, gl, ↓awU, awV, awF, Qa, Qb, Qc, Qd, forall_const, ↓reduceIte, ↓reduceDIte, ↓Qe, Qf, Qg, Qh, Qi, Qj, Qk, Ql, Qm, Qn, Qo, Qp, Qq, Qr, Qs, implies_true, Qt, Qu, Qv, Qw, Qx, Qy, Qz, QA, QB, QC, QD, QE, QF, QG, QH, QI, QJ, QK, QL, QM, QN, QO, QP, QQ]
          refine LoopC.fx 412316860656 (α := Nat) (β := Unit) (fun q => la.length - q) (fun q => [(8, .d (.int .i64 ((la.take q).countP (inR i j) : Nat))), (39, .d (.int .i64 q))]) (fun _ => [.dead, .box [.d (Gr g false)], .row false (regC (rgs la))]) (fun q => q ≤ la.length)
            240 (fun _ => [(8, .d (.int .i64 (la.countP (inR i j) : Nat)))]) (fun _ => [.dead, .box [.d (Gr g false)], .row false (regC (rgs la))]) (fun _ => True) 0 (Nat.zero_le _) ?_ ?_ ?_
          · exact ⟨[some 0, some 1, some 2], rfl, by simp, by simp [setsA, keepA, SWeak, AWeak], by simp [HWeak, BWeak, SWeak, AWeak]⟩
          · intro q hq
            have cle : (la.take q).countP (inR i j) ≤ 1000000 := Nat.le_trans List.countP_le_length (by rw [List.length_take]; omega)
            simp only [awK, Nat.reduceMod, Nat.reduceDiv, reduceIte]
            rcases Nat.lt_or_ge q la.length with h3 | h3
            · have gc := rgs_cells h3
              have ct := countP_take (p := inR i j) h3
              have hr := hin _ (memD (d := default) h3)
              generalize la.getD q default = r at *
              generalize (la.take q).countP (inR i j) = n at *
              by_cases hx : inR i j r = true
              · rw [if_pos hx] at ct
                obtain ⟨x1, x2, x3, x4⟩ := inR_iff.1 hx
                simp (config := { maxSteps := 1000000 }) (disch := ((try simp only [awL]); omega)) only [QR, QS, QT, QU, QV, QW, QX, QY, QZ, Q0, Q1, Q2, ol, gc, ↓awU, awV, awF, Qa, Qb, Qc, Qd, forall_const, ↓reduceIte, ↓reduceDIte, ↓Qe, Qf, Qg, Qh, Qi, Qj, Qk, Ql, Qm, Qn, Qo, Qp, Qq, Qr, Qs, implies_true, Qt, Qu, Qv, Qw, Qx, Qy, Qz, QA, QB, QC, QD, QE, QF, QG, QH, QI, QJ, QK, QL, QM, QN, QO, QP, QQ]
                exact ⟨q + 1, h3, by simp only; omega, ⟨[some 0, some 1, some 2], rfl, by simp, by simp [setsA, keepA, SWeak, AWeak, ct], by simp [HWeak, BWeak, SWeak, AWeak]⟩⟩
              · rw [if_neg hx, Nat.add_zero] at ct
                have hx2 : ¬ (r.t ≤ i ∧ i < r.b ∧ r.l ≤ j ∧ j < r.r) := fun e => hx (inR_iff.2 e)
                rcases (by omega : i < r.t ∨ (r.t ≤ i ∧ r.b ≤ i) ∨ (r.t ≤ i ∧ i < r.b ∧ j < r.l) ∨ (r.t ≤ i ∧ i < r.b ∧ r.l ≤ j ∧ r.r ≤ j)) with y | ⟨y, y2⟩ | ⟨y, y2, y3⟩ | ⟨y, y2, y3, y4⟩
                all_goals
                  simp (config := { maxSteps := 1000000 }) (disch := ((try simp only [awL]); omega)) only [QR, QS, QT, QU, QV, QW, QX, QY, QZ, Q0, Q1, Q2, ol, gc, ↓awU, awV, awF, Qa, Qb, Qc, Qd, forall_const, ↓reduceIte, ↓reduceDIte, ↓Qe, Qf, Qg, Qh, Qi, Qj, Qk, Ql, Qm, Qn, Qo, Qp, Qq, Qr, Qs, implies_true, Qt, Qu, Qv, Qw, Qx, Qy, Qz, QA, QB, QC, QD, QE, QF, QG, QH, QI, QJ, QK, QL, QM, QN, QO, QP, QQ]
                  exact ⟨q + 1, h3, by simp only; omega, ⟨[some 0, some 1, some 2], rfl, by simp, by simp [setsA, keepA, SWeak, AWeak, ct], by simp [HWeak, BWeak, SWeak, AWeak]⟩⟩
            · rw [List.take_of_length_le h3]
              obtain rfl : q = la.length := by omega
              simp (config := { maxSteps := 1000000 }) (disch := ((try simp only [awL]); omega)) only [QR, QS, QT, QU, QV, QW, QX, QY, QZ, Q0, Q1, Q2, ol, ↓awU, awV, awF, Qa, Qb, Qc, Qd, forall_const, ↓reduceIte, ↓reduceDIte, ↓Qe, Qf, Qg, Qh, Qi, Qj, Qk, Ql, Qm, Qn, Qo, Qp, Qq, Qr, Qs, implies_true, Qt, Qu, Qv, Qw, Qx, Qy, Qz, QA, QB, QC, QD, QE, QF, QG, QH, QI, QJ, QK, QL, QM, QN, QO, QP, QQ]
              exact ⟨(), trivial, ⟨[some 0, some 1, some 2], rfl, by simp, by simp [setsA, keepA, SWeak, AWeak], by simp [HWeak, BWeak, SWeak, AWeak]⟩⟩
          · rintro ⟨⟩ -
            obtain ⟨cn1, cn2⟩ := hcn i j
            have at0 := gat_spec (G := G) g false g1 (i : Int) (j : Int) (by omega) (by omega) (by omega) (by omega)
            rw [atG_nat] at at0
            have al := atG_len g1 i j
            have hik : inkG g i j = !(Lib.trimB ((g.getD i []).getD j []) 32 == []) := rfl
            generalize (g.getD i []).getD j [] = f at *
            generalize la.countP (inR i j) = n at *
            simp only [awK, Nat.reduceMod, Nat.reduceDiv, reduceIte]
            simp (config := { maxSteps := 1000000 }) (disch := ((try simp only [awL]); omega)) only [QR, QS, QT, QU, QV, QW, QX, QY, QZ, Q0, Q1, Q2, ↓awU, awV, awF, Qa, Qb, Qc, Qd, forall_const, ↓reduceIte, ↓reduceDIte, ↓Qe, Qf, Qg, Qh, Qi, Qj, Qk, Ql, Qm, Qn, Qo, Qp, Qq, Qr, Qs, implies_true, Qt, Qu, Qv, Qw, Qx, Qy, Qz, QA, QB, QC, QD, QE, QF, QG, QH, QI, QJ, QK, QL, QM, QN, QO, QP, QQ]
            refine CallC.of at0 (by rfl) ?_
            simp (config := { maxSteps := 1000000 }) (disch := ((try simp only [awL]); omega)) only [QR, QS, QT, QU, QV, QW, QX, QY, QZ, Q0, Q1, Q2, ↓awU, awV, awF, Qa, Qb, Qc, Qd, forall_const, ↓reduceIte, ↓reduceDIte, ↓Qe, Qf, Qg, Qh, Qi, Qj, Qk, Ql, Qm, Qn, Qo, Qp, Qq, Qr, Qs, implies_true, Qt, Qu, Qv, Qw, Qx, Qy, Qz, QA, QB, QC, QD, QE, QF, QG, QH, QI, QJ, QK, QL, QM, QN, QO, QP, QQ]
            refine CallC.of (rtrim_spec f (by omega)) (by rfl) ?_
            generalize Lib.trimB f 32 = z at *
            cases hz : (z == [])
            · rw [hz] at hik
              have := cn2 hik
              subst this
              simp (config := { maxSteps := 1000000 }) (disch := ((try simp only [awL]); omega)) only [QR, QS, QT, QU, QV, QW, QX, QY, QZ, Q0, Q1, Q2, hz, ↓awU, awV, awF, Qa, Qb, Qc, Qd, forall_const, ↓reduceIte, ↓reduceDIte, ↓Qe, Qf, Qg, Qh, Qi, Qj, Qk, Ql, Qm, Qn, Qo, Qp, Qq, Qr, Qs, implies_true, Qt, Qu, Qv, Qw, Qx, Qy, Qz, QA, QB, QC, QD, QE, QF, QG, QH, QI, QJ, QK, QL, QM, QN, QO, QP, QQ]
              exact ⟨j + 1, by omega, by simp only; omega, ⟨[some 0, some 1, some 2], rfl, by simp, by simp [setsA, keepA, SWeak, AWeak], by simp [HWeak, BWeak, SWeak, AWeak]⟩⟩
            · simp (config := { maxSteps := 1000000 }) (disch := ((try simp only [awL]); omega)) only [QR, QS, QT, QU, QV, QW, QX, QY, QZ, Q0, Q1, Q2, hz, ↓awU, awV, awF, Qa, Qb, Qc, Qd, forall_const, ↓reduceIte, ↓reduceDIte, ↓Qe, Qf, Qg, Qh, Qi, Qj, Qk, Ql, Qm, Qn, Qo, Qp, Qq, Qr, Qs, implies_true, Qt, Qu, Qv, Qw, Qx, Qy, Qz, QA, QB, QC, QD, QE, QF, QG, QH, QI, QJ, QK, QL, QM, QN, QO, QP, QQ]
              exact ⟨j + 1, by omega, by simp only; omega, ⟨[some 0, some 1, some 2], rfl, by simp, by simp [setsA, keepA, SWeak, AWeak], by simp [HWeak, BWeak, SWeak, AWeak]⟩⟩
        · simp (config := { maxSteps := 1000000 }) (disch := ((try simp only [awL]); omega)) only [QR, QS, QT, QU, QV, QW, QX, QY, QZ, Q0, Q1, Q2, gl, ↓awU, awV, awF, Qa, Qb, Qc, Qd, forall_const, ↓reduceIte, ↓reduceDIte, ↓Qe, Qf, Qg, Qh, Qi, Qj, Qk, Ql, Qm, Qn, Qo, Qp, Qq, Qr, Qs, implies_true, Qt, Qu, Qv, Qw, Qx, Qy, Qz, QA, QB, QC, QD, QE, QF, QG, QH, QI, QJ, QK, QL, QM, QN, QO, QP, QQ]
          exact ⟨i + 1, h, by simp only; omega, ⟨[some 0, some 1, some 2], rfl, by simp, by simp [setsA, keepA, SWeak, AWeak], by simp [HWeak, BWeak, SWeak, AWeak]⟩⟩
    · simp (config := { maxSteps := 1000000 }) (disch := ((try simp only [awL]); omega)) only [QR, QS, QT, QU, QV, QW, QX, QY, QZ, Q0, Q1, Q2, gl, ↓awU, awV, awF, Qa, Qb, Qc, Qd, forall_const, ↓reduceIte, ↓reduceDIte, ↓Qe, Qf, Qg, Qh, Qi, Qj, Qk, Ql, Qm, Qn, Qo, Qp, Qq, Qr, Qs, implies_true, Qt, Qu, Qv, Qw, Qx, Qy, Qz, QA, QB, QC, QD, QE, QF, QG, QH, QI, QJ, QK, QL, QM, QN, QO, QP, QQ]
      exact ⟨(), trivial, ⟨[some 0, some 1, some 2], rfl, by simp, by simp [setsA, keepA, SWeak, AWeak], by simp [HWeak, BWeak, SWeak, AWeak]⟩⟩
  · rintro ⟨⟩ -
    simp only [awK, Nat.reduceMod, Nat.reduceDiv, reduceIte]
    simp (config := { maxSteps := 1000000 }) (disch := ((try simp only [awL]); omega)) only [QR, QS, QT, QU, QV, QW, QX, QY, QZ, Q0, Q1, Q2, ↓awU, awV, awF, Qa, Qb, Qc, Qd, forall_const, ↓reduceIte, ↓reduceDIte, ↓Qe, Qf, Qg, Qh, Qi, Qj, Qk, Ql, Qm, Qn, Qo, Qp, Qq, Qr, Qs, implies_true, Qt, Qu, Qv, Qw, Qx, Qy, Qz, QA, QB, QC, QD, QE, QF, QG, QH, QI, QJ, QK, QL, QM, QN, QO, QP, QQ]
    refine LoopC.fr 14507109835375550096474128 (α := Nat) (fun q => la.length - q) (fun q => [(84, .d (.int .i64 q))]) (fun _ => [.dead, .box [.d (Gr g false)], .row false (regC (rgs la))]) (fun q => q ≤ la.length) 0 (Nat.zero_le _) ?_ ?_
    · exact ⟨[some 0, some 1, some 2], rfl, by simp, by simp [setsA, keepA, SWeak, AWeak], by simp [HWeak, BWeak, SWeak, AWeak]⟩
    · intro q hq
      simp only [awK, Nat.reduceMod, Nat.reduceDiv, reduceIte]
      rcases Nat.lt_or_ge q la.length with h3 | h3
      · have gc := rgs_cells h3
        obtain ⟨lf, sb⟩ := hlf _ (memD (d := default) h3)
        generalize la.getD q default = r at *
        have tb := lf.tb
        have lr := lf.lr
        obtain ⟨s1, s2, s3, s4⟩ := sb
        simp only [wholeG] at s1 s2 s3 s4
        have cs := cut_spec (G := G) g false g1 r.rg ⟨⟨by simp only [Ar.rg]; omega, by simp only [Ar.rg]; omega⟩, ⟨by simp only [Ar.rg]; omega, by simp only [Ar.rg]; omega⟩, ⟨by simp only [Ar.rg]; omega, by simp only [Ar.rg]; omega⟩, by simp only [Ar.rg]; omega, by simp only [Ar.rg]; omega⟩
        rw [cutF_leaf tb lr (by omega) (by omega)] at cs
        unfold gridE at cs
        have rc := regs_cut lf (by omega) (by omega)
        have rs := regions_spec (G := G) (cutG g r) false (cutG_ok g1 (by omega) (by omega)) (cut_grd tb (by omega) (by omega))
        rw [rc] at rs
        have cl := cutG_len g r
        have cD := @rowsD_length (cutG g r)
        rw [cl] at cD
        simp only [Gr, cl] at cs rs
        generalize cutG g r = C at *
        have e1 : ((r.b : Int) - r.t) = ((r.b - r.t : Nat) : Int) := by omega
        have e2 : ((r.r : Int) - r.l) = ((r.r - r.l : Nat) : Int) := by omega
        simp (config := { maxSteps := 1000000 }) (disch := ((try simp only [awL]); omega)) only [QR, QS, QT, QU, QV, QW, QX, QY, QZ, Q0, Q1, Q2, ol, gc, ↓awU, awV, awF, Qa, Qb, Qc, Qd, forall_const, ↓reduceIte, ↓reduceDIte, ↓Qe, Qf, Qg, Qh, Qi, Qj, Qk, Ql, Qm, Qn, Qo, Qp, Qq, Qr, Qs, implies_true, Qt, Qu, Qv, Qw, Qx, Qy, Qz, QA, QB, QC, QD, QE, QF, QG, QH, QI, QJ, QK, QL, QM, QN, QO, QP, QQ]
        refine CallC.of cs (by rfl) ?_
        simp (config := { maxSteps := 1000000 }) (disch := ((try simp only [awL]); omega)) only [QR, QS, QT, QU, QV, QW, QX, QY, QZ, Q0, Q1, Q2, ol, gc, cl, cD, e1, e2, ↓awU, awV, awF, Qa, Qb, Qc, Qd, forall_const, ↓reduceIte, ↓reduceDIte, ↓Qe, Qf, Qg, Qh, Qi, Qj, Qk, Ql, Qm, Qn, Qo, Qp, Qq, Qr, Qs, implies_true, Qt, Qu, Qv, Qw, Qx, Qy, Qz, QA, QB, QC, QD, QE, QF, QG, QH, QI, QJ, QK, QL, QM, QN, QO, QP, QQ]
        refine CallC.by (L := []) rs (by rfl) (by rfl) (by simp) ?_
        have q4 : (regC (rgs [⟨0, 0, r.b - r.t, r.r - r.l⟩])).drop (0 * 4) = regC (rgs [⟨0, 0, r.b - r.t, r.r - r.l⟩]) := rfl
        have q5 : (regC (rgs [⟨0, 0, r.b - r.t, r.r - r.l⟩])).take 4 = [.int .i64 0, .int .i64 0, .int .i64 (r.b - r.t : Nat), .int .i64 (r.r - r.l : Nat)] := rfl
        have q6 : (regC (rgs [⟨0, 0, r.b - r.t, r.r - r.l⟩])).length = 4 := rfl
        generalize regC (rgs [⟨0, 0, r.b - r.t, r.r - r.l⟩]) = Z at *
        simp (config := { maxSteps := 1000000 }) (disch := ((try simp only [awL]); omega)) only [QR, QS, QT, QU, QV, QW, QX, QY, QZ, Q0, Q1, Q2, e1, e2, q5, q6, List.length_singleton, beq_self_eq_true, ↓awU, awV, awF, Qa, Qb, Qc, Qd, forall_const, ↓reduceIte, ↓reduceDIte, ↓Qe, Qf, Qg, Qh, Qi, Qj, Qk, Ql, Qm, Qn, Qo, Qp, Qq, Qr, Qs, implies_true, Qt, Qu, Qv, Qw, Qx, Qy, Qz, QA, QB, QC, QD, QE, QF, QG, QH, QI, QJ, QK, QL, QM, QN, QO, QP, QQ]
        exact ⟨by rfl, q + 1, h3, by simp only; omega, ⟨[some 0, some 1, some 2], rfl, by simp, by simp [setsA, keepA, SWeak, AWeak], by simp [HWeak, BWeak, SWeak, AWeak]⟩⟩
      · obtain rfl : q = la.length := by omega
        simp (config := { maxSteps := 1000000 }) (disch := ((try simp only [awL]); omega)) only [QR, QS, QT, QU, QV, QW, QX, QY, QZ, Q0, Q1, Q2, ol, ↓awU, awV, awF, Qa, Qb, Qc, Qd, forall_const, ↓reduceIte, ↓reduceDIte, ↓Qe, Qf, Qg, Qh, Qi, Qj, Qk, Ql, Qm, Qn, Qo, Qp, Qq, Qr, Qs, implies_true, Qt, Qu, Qv, Qw, Qx, Qy, Qz, QA, QB, QC, QD, QE, QF, QG, QH, QI, QJ, QK, QL, QM, QN, QO, QP, QQ]
end Go.Proofs.YtacepalmphbnfaaGreatDoor
