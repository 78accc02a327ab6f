/-
  Contracts of the functions, one after another.
-/
import Derived.Test.YthbnileadffpiaaGreatDoorZbYn1
set_option linter.all false
open Go.Abs renaming ofVal → Qa, ofVal0 → Qb, isShift → Qc, aggK → Qd, purePost → Qe, combine → Qf, idsA → Qg, cellsA → Qh, numsOf → Qi, srcA → Qj, calleeA → Qk, refsA → Ql, isScalar → Qm, scalarD → Qn, scalar0 → Qo, putL → Qr, unfA → Qs, sidsB → QJ, keyKD → QL, isIntK → QM, aggD → QN, aggL → QO, eqKs → QP, boxRow → QQ, nextC_more → QT, nextC_over → QU, bs_size → QV, bs_extract → QW, bs_toList → QX, bs_append → QY, byteAt_bs → QZ, bs_cells → Q0, nums_length → Q1, nums_getD → Q2
open Go.Abs.AV renaming one → Qp
open Go.Abs.D renaming one → Qq
open Go.IntKind renaming signed → Qt
open Nat renaming reduceAdd → Qu, reduceSub → Qv, reduceMul → Qw, reducePow → Qx, reduceDiv → Qy, reduceMod → Qz, reduceEqDiff → QI, reduceBEq → QK
open Int renaming reduceAdd → QA, reduceSub → QB, reduceMul → QC, reducePow → QD, reduceNeg → QE, reduceToNat → QF, reduceLT → QG, reduceLE → QH
open Option renaming toList_some → QR, toList_none → QS
namespace Go.Proofs.YthbnileadffpiaaGreatDoor
open Go Go.Proofs Go.Abs
variable {G : Globals}
/-! header.Apply. -/
def badG (id : Int) (name : List UInt8) (g : List Row) (m : Nat) : Bool := !okId id name || (namesG g m (widG g)).any badB || (g.drop m).any fun r => r.any badB
def colG (g : List Row) (m k n : Nat) : List Cel := (List.range n).map fun i => (atG g ((m + i : Nat) : Int) k, false)
def colsG (g : List Row) (m k : Nat) : List Col := (List.range k).map fun (j : Nat) => ⟨(namesG g m (widG g)).getD j [], colG g m j (g.length - m)⟩
def tabG (id : Int) (name : List UInt8) (g : List Row) (m : Nat) : Tab := ⟨id, name, colsG g m (widG g)⟩
def zeroT : Tab := ⟨0, [], []⟩
def applyT (id : Int) (name : List UInt8) (g : List Row) (n : Int) : Tab × Int :=
  if n < 0 ∨ 3 < n ∨ (g.length : Int) < n then (zeroT, 2) else if badG id name g n.toNat = true then (zeroT, 1)
  else if 4096 < g.length - n.toNat ∨ 64 < widG g then (zeroT, 3) else (tabG id name g n.toNat, 0)
theorem colG_len (g : List Row) (m k n : Nat) : (colG g m k n).length = n := by simp [colG]
theorem colsG_len (g : List Row) (m k : Nat) : (colsG g m k).length = k := by simp [colsG]
theorem colG_succ (g : List Row) (m k n : Nat) : colG g m k (n + 1) = colG g m k n ++ [(atG g ((m + n : Nat) : Int) k, false)] := by
  unfold colG; rw [List.range_succ, List.map_append]; rfl
theorem colsG_succ (g : List Row) (m k : Nat) : colsG g m (k + 1) = colsG g m k ++ [⟨(namesG g m (widG g)).getD k [], colG g m k (g.length - m)⟩] := by
  unfold colsG; rw [List.range_succ, List.map_append]; rfl
theorem namesG_le {g : List Row} (h : okH g) {m : Nat} (hm : m ≤ 100) : ∀ k, k ≤ 1000 → ∀ s ∈ namesG g m k, s.length ≤ 1000000000
  | 0, _, s, hs => by cases hs
  | k + 1, hk, s, hs => by
    rw [namesG] at hs
    rcases List.mem_append.1 hs with hs | hs
    · exact namesG_le h hm k (by omega) s hs
    · rw [List.mem_singleton.1 hs]
      have bl := baseG_len h (k := k) (m := m) (by omega) hm
      have nl := namesG_len g m k
      obtain ⟨h1, h2⟩ := nameN_free (out := namesG g m k) (b := baseG g k m) (by omega)
      rcases h2 with h2 | ⟨h2, n, h3, h4, h5⟩
      · rw [h2]; omega
      · rw [h4]
        have : n ≤ 1001 := by
          rcases Nat.lt_or_ge n 100000 with q | q
          · have := takenTo_le h2 h5 q; omega
          · have := takenTo_le (n := 99999) h2 (fun j j1 j2 => h5 j j1 (by omega)) (by omega); omega
        have := cand_len (b := baseG g k m) (n := n) (by omega)
        omega
theorem drop_okG {g : List Row} (h : okGrid g) (m : Nat) : ∀ r ∈ g.drop m, r.length ≤ 1000000000 ∧ ∀ s ∈ r, s.length ≤ 1000000000 := fun r hr => h.2 r (List.mem_of_mem_drop hr)
theorem rowsD_drop (g : List Row) (m : Nat) : cut (rowsD g) m (g.length - m) = rowsD (g.drop m) := by
  unfold cut rowsD
  rw [← List.map_drop, List.take_of_length_le (by simp)]
def B6 (g : List Row) (full : Bool) (id : Int) (name : List UInt8) (m k : Nat) (nm : List UInt8) (j : Nat) : List ABlk :=
  [.box [.d (Gr g full)], .box [.d (.int .i64 0), .d (.str ByteArray.empty), .d (.sl 0 true [])], .box [.d (.int .i64 id), .d (S name), .lsl 3 2 0 k], .row false (colsD (colsG g m k)), .box [.d (S nm), .lsl 5 2 0 j], .row false (celsD (colG g m k j))]
set_option maxHeartbeats 16000000 in
set_option maxRecDepth 100000 in
theorem apply_spec (hT : HT G) (hI : HI G) (g : List Row) (full : Bool) (hg : okH g) (id : Int) (name : List UInt8) (hs : name.length ≤ 1000000000) (n : Int)
    (i1 : -9223372036854775808 ≤ id) (i2 : id ≤ 9223372036854775807) (n1 : -9223372036854775808 ≤ n) (n2 : n ≤ 9223372036854775807) :
    Ctr Tryz.prog G 19 [.d (.int .i64 id), .d (S name), .d (.agg [Gr g full]), .d (.int .i64 n)] [] (.d (.tup [TabD (applyT id name g n).1 false, .int .i64 (applyT id name g n).2])) [] := by
  obtain ⟨r, hr⟩ : ∃ r, r = applyT id name g n := ⟨_, rfl⟩
  rw [← hr]
  unfold applyT at hr
  refine Ctr.pure (M := M0) hmix Tryz.func19 rfl go19 ?_
  have gl := @rowsD_length g
  have hgl := hg.1
  have hw := hg.wid
  rcases (by omega : n < 0 ∨ 3 < n ∨ (0 ≤ n ∧ n ≤ 3 ∧ (g.length : Int) < n) ∨ (0 ≤ n ∧ n ≤ 3 ∧ n ≤ g.length)) with h | h | h | h
  · rw [if_pos (by omega)] at hr
    subst hr
    simp (config := { maxSteps := 1000000 }) (disch := ((try simp only [awL]); omega)) only [QR, QS, QT, QU, QV, QW, QX, QY, QZ, Q0, Q1, Q2, gl, Tryz.f19, ↓awU, awV, awF, Qa, Qb, Qc, Qd, forall_const, ↓reduceIte, ↓reduceDIte, ↓Qe, Qf, Qg, Qh, Qi, Qj, Qk, Ql, Qm, Qn, Qo, Qp, Qq, Qr, Qs, implies_true, Qt, Qu, Qv, Qw, Qx, Qy, Qz, QA, QB, QC, QD, QE, QF, QG, QH, QI, QJ, QK, QL, QM, QN, QO, QP, QQ]
    first | done | rfl
  · rw [if_pos (by omega)] at hr
    subst hr
    simp (config := { maxSteps := 1000000 }) (disch := ((try simp only [awL]); omega)) only [QR, QS, QT, QU, QV, QW, QX, QY, QZ, Q0, Q1, Q2, gl, Tryz.f19, ↓awU, awV, awF, Qa, Qb, Qc, Qd, forall_const, ↓reduceIte, ↓reduceDIte, ↓Qe, Qf, Qg, Qh, Qi, Qj, Qk, Ql, Qm, Qn, Qo, Qp, Qq, Qr, Qs, implies_true, Qt, Qu, Qv, Qw, Qx, Qy, Qz, QA, QB, QC, QD, QE, QF, QG, QH, QI, QJ, QK, QL, QM, QN, QO, QP, QQ]
    first | done | rfl
  · rw [if_pos (by omega)] at hr
    subst hr
    simp (config := { maxSteps := 1000000 }) (disch := ((try simp only [awL]); omega)) only [QR, QS, QT, QU, QV, QW, QX, QY, QZ, Q0, Q1, Q2, gl, Tryz.f19, ↓awU, awV, awF, Qa, Qb, Qc, Qd, forall_const, ↓reduceIte, ↓reduceDIte, ↓Qe, Qf, Qg, Qh, Qi, Qj, Qk, Ql, Qm, Qn, Qo, Qp, Qq, Qr, Qs, implies_true, Qt, Qu, Qv, Qw, Qx, Qy, Qz, QA, QB, QC, QD, QE, QF, QG, QH, QI, QJ, QK, QL, QM, QN, QO, QP, QQ]
    first | done | rfl
  · obtain ⟨m, rfl⟩ : ∃ m : Nat, n = m := ⟨n.toNat, by omega⟩
    rw [if_neg (by omega), Int.toNat_natCast] at hr
    simp (config := { maxSteps := 1000000 }) (disch := ((try simp only [awL]); omega)) only [QR, QS, QT, QU, QV, QW, QX, QY, QZ, Q0, Q1, Q2, gl, Tryz.f19, ↓awU, awV, awF, Qa, Qb, Qc, Qd, forall_const, ↓reduceIte, ↓reduceDIte, ↓Qe, Qf, Qg, Qh, Qi, Qj, Qk, Ql, Qm, Qn, Qo, Qp, Qq, Qr, Qs, implies_true, Qt, Qu, Qv, Qw, Qx, Qy, Qz, QA, QB, QC, QD, QE, QF, QG, QH, QI, QJ, QK, QL, QM, QN, QO, QP, QQ]
    refine CallC.pure (names_spec hI g false hg m (by omega) (by omega)) ?_
    rw [show mRows g m = m by unfold mRows; omega]
    have nl := namesG_len g m (widG g)
    have nle := namesG_le hg (m := m) (by omega) (widG g) hw
    have sl := @strs_length (namesG g m (widG g))
    unfold badG at hr
    simp (config := { maxSteps := 1000000 }) (disch := ((try simp only [awL]); omega)) only [QR, QS, QT, QU, QV, QW, QX, QY, QZ, Q0, Q1, Q2, gl, ↓awU, awV, awF, Qa, Qb, Qc, Qd, forall_const, ↓reduceIte, ↓reduceDIte, ↓Qe, Qf, Qg, Qh, Qi, Qj, Qk, Ql, Qm, Qn, Qo, Qp, Qq, Qr, Qs, implies_true, Qt, Qu, Qv, Qw, Qx, Qy, Qz, QA, QB, QC, QD, QE, QF, QG, QH, QI, QJ, QK, QL, QM, QN, QO, QP, QQ]
    refine CallC.of (validNone_spec hT id name hs false i1 i2) (by rfl) ?_
    cases b1 : okId id name
    · rw [b1, Bool.not_false, Bool.true_or, Bool.true_or, if_pos rfl] at hr
      subst hr
      simp (config := { maxSteps := 1000000 }) (disch := ((try simp only [awL]); omega)) only [QR, QS, QT, QU, QV, QW, QX, QY, QZ, Q0, Q1, Q2, gl, ↓awU, awV, awF, Qa, Qb, Qc, Qd, forall_const, ↓reduceIte, ↓reduceDIte, ↓Qe, Qf, Qg, Qh, Qi, Qj, Qk, Ql, Qm, Qn, Qo, Qp, Qq, Qr, Qs, implies_true, Qt, Qu, Qv, Qw, Qx, Qy, Qz, QA, QB, QC, QD, QE, QF, QG, QH, QI, QJ, QK, QL, QM, QN, QO, QP, QQ]
      first | done | rfl
    · rw [b1, Bool.not_true, Bool.false_or] at hr
      simp (config := { maxSteps := 1000000 }) (disch := ((try simp only [awL]); omega)) only [QR, QS, QT, QU, QV, QW, QX, QY, QZ, Q0, Q1, Q2, gl, ↓awU, awV, awF, Qa, Qb, Qc, Qd, forall_const, ↓reduceIte, ↓reduceDIte, ↓Qe, Qf, Qg, Qh, Qi, Qj, Qk, Ql, Qm, Qn, Qo, Qp, Qq, Qr, Qs, implies_true, Qt, Qu, Qv, Qw, Qx, Qy, Qz, QA, QB, QC, QD, QE, QF, QG, QH, QI, QJ, QK, QL, QM, QN, QO, QP, QQ]
      refine CallC.of (containsFunc_spec 47 badB (namesG g m (widG g)) false (by omega) fun s hm => bad_spec9 hT s (nle s hm)) (by rfl) ?_
      cases b2 : (namesG g m (widG g)).any badB
      · rw [b2, Bool.false_or] at hr
        simp (config := { maxSteps := 1000000 }) (disch := ((try simp only [awL]); omega)) only [QR, QS, QT, QU, QV, QW, QX, QY, QZ, Q0, Q1, Q2, gl, ↓awU, awV, awF, Qa, Qb, Qc, Qd, forall_const, ↓reduceIte, ↓reduceDIte, ↓Qe, Qf, Qg, Qh, Qi, Qj, Qk, Ql, Qm, Qn, Qo, Qp, Qq, Qr, Qs, implies_true, Qt, Qu, Qv, Qw, Qx, Qy, Qz, QA, QB, QC, QD, QE, QF, QG, QH, QI, QJ, QK, QL, QM, QN, QO, QP, QQ]
        have rl := @rowsD_length (g.drop m)
        refine CallC.of (containsFuncG_spec 49 (fun r => r.any badB) (g.drop m) false (by simp; omega) fun r hm => badRow_spec hT r (drop_okG hg.ok m r hm)) (by rw [rowsD_drop]; unfold Gr; rw [List.length_drop]; rfl) ?_
        cases b3 : (g.drop m).any fun r => r.any badB
        · rw [b3, if_neg (by decide)] at hr
          rcases (by omega : 4096 < g.length - m ∨ (g.length - m ≤ 4096 ∧ 64 < widG g) ∨ (g.length - m ≤ 4096 ∧ widG g ≤ 64)) with l1 | l1 | l1
          · exfalso; omega
          · rw [if_pos (.inr l1.2)] at hr
            subst hr
            simp (config := { maxSteps := 1000000 }) (disch := ((try simp only [awL]); omega)) only [QR, QS, QT, QU, QV, QW, QX, QY, QZ, Q0, Q1, Q2, gl, nl, ↓awU, awV, awF, Qa, Qb, Qc, Qd, forall_const, ↓reduceIte, ↓reduceDIte, ↓Qe, Qf, Qg, Qh, Qi, Qj, Qk, Ql, Qm, Qn, Qo, Qp, Qq, Qr, Qs, implies_true, Qt, Qu, Qv, Qw, Qx, Qy, Qz, QA, QB, QC, QD, QE, QF, QG, QH, QI, QJ, QK, QL, QM, QN, QO, QP, QQ]
            first | done | rfl
          · rw [if_neg (by omega)] at hr
            simp (config := { maxSteps := 1000000 }) (disch := ((try simp only [awL]); omega)) only [QR, QS, QT, QU, QV, QW, QX, QY, QZ, Q0, Q1, Q2, gl, nl, ↓awU, awV, awF, Qa, Qb, Qc, Qd, forall_const, ↓reduceIte, ↓reduceDIte, ↓Qe, Qf, Qg, Qh, Qi, Qj, Qk, Ql, Qm, Qn, Qo, Qp, Qq, Qr, Qs, implies_true, Qt, Qu, Qv, Qw, Qx, Qy, Qz, QA, QB, QC, QD, QE, QF, QG, QH, QI, QJ, QK, QL, QM, QN, QO, QP, QQ]
            refine LoopC.fx 110680464442257312072 (α := Nat) (β := Unit) (fun k => widG g - k) (fun k => [(67, .d (.int .i64 (k : Nat)))])
              (fun k => [.box [.d (Gr g full)], .box [.d (.int .i64 0), .d (.str ByteArray.empty), .d (.sl 0 true [])], .box [.d (.int .i64 id), .d (S name), .lsl 3 2 0 k], .row false (colsD (colsG g m k))])
              (fun k => k ≤ widG g) 2304 (fun _ => [])
              (fun _ => [.box [.d (Gr g full)], .box [.d (.int .i64 0), .d (.str ByteArray.empty), .d (.sl 0 true [])], .box [.d (.int .i64 id), .d (S name), .lsl 3 2 0 (widG g)], .row false (colsD (colsG g m (widG g)))])
              (fun _ => True) 0 (Nat.zero_le _) ?_ ?_ ?_
            · exact ⟨[some 0, some 1, some 2, none], rfl, by simp, by simp [setsA, keepA, SWeak, AWeak], by simp [HWeak, BWeak, SWeak, AWeak, colsG, colsD]⟩
            · intro k hk
              have cl := colsD_length (colsG g m k)
              rw [colsG_len] at cl
              simp only [awK, Nat.reduceMod, Nat.reduceDiv, reduceIte]
              rcases Nat.lt_or_ge k (widG g) with h3 | h3
              · have cs := colsG_succ g m k
                have gk := strs_getD (l := namesG g m (widG g)) (i := k) (by omega)
                generalize (namesG g m (widG g)).getD k [] = nm at *
                simp (config := { maxSteps := 1000000 }) (disch := ((try simp only [awL]); omega)) only [QR, QS, QT, QU, QV, QW, QX, QY, QZ, Q0, Q1, Q2, gl, nl, sl, gk, ↓awU, awV, awF, Qa, Qb, Qc, Qd, forall_const, ↓reduceIte, ↓reduceDIte, ↓Qe, Qf, Qg, Qh, Qi, Qj, Qk, Ql, Qm, Qn, Qo, Qp, Qq, Qr, Qs, implies_true, Qt, Qu, Qv, Qw, Qx, Qy, Qz, QA, QB, QC, QD, QE, QF, QG, QH, QI, QJ, QK, QL, QM, QN, QO, QP, QQ]
                have b5 : ∀ j : Nat, [.box [.d (Gr g full)], .box [.d (.int .i64 0), .d (.str ByteArray.empty), .d (.sl 0 true [])], .box [.d (.int .i64 id), .d (S name), .lsl 3 2 0 k], .row false (colsD (colsG g m k)), .box [.d (S nm), .lsl 5 2 0 j], .row false (celsD (colG g m k j))] = B6 g full id name m k nm j := fun _ => rfl
                refine LoopC.fx 258254417031933745480 (α := Nat) (β := Unit) (fun j => g.length - m - j) (fun j => [(15, .d (.int .i64 (m + j : Nat)))]) (fun j => B6 g full id name m k nm j) (fun j => m + j ≤ g.length)
                  258254417031933741384 (fun _ => []) (fun _ => B6 g full id name m k nm (g.length - m)) (fun _ => True) 0 (by omega) ?_ ?_ ?_
                · exact ⟨[some 0, some 1, some 2, some 3, some 4, none], rfl, by simp [B6], by simp [setsA, keepA, SWeak, AWeak], by simp [B6, HWeak, BWeak, SWeak, AWeak, colG, celsD]⟩
                · intro j hj
                  have ce := celsD_length (colG g m k j)
                  rw [colG_len] at ce
                  unfold B6
                  simp only [awK, Nat.reduceMod, Nat.reduceDiv, reduceIte]
                  rcases Nat.lt_or_ge (m + j) g.length with h4 | h4
                  · have cg := colG_succ g m k j
                    simp (config := { maxSteps := 1000000 }) (disch := ((try simp only [awL]); omega)) only [QR, QS, QT, QU, QV, QW, QX, QY, QZ, Q0, Q1, Q2, gl, nl, sl, ce, ↓awU, awV, awF, Qa, Qb, Qc, Qd, forall_const, ↓reduceIte, ↓reduceDIte, ↓Qe, Qf, Qg, Qh, Qi, Qj, Qk, Ql, Qm, Qn, Qo, Qp, Qq, Qr, Qs, implies_true, Qt, Qu, Qv, Qw, Qx, Qy, Qz, QA, QB, QC, QD, QE, QF, QG, QH, QI, QJ, QK, QL, QM, QN, QO, QP, QQ]
                    refine CallC.pure (gat_spec g false hg.ok.w ((m + j : Nat) : Int) k (by omega) (by omega) (by omega) (by omega)) ?_
                    generalize atG g ((m + j : Nat) : Int) k = s at *
                    simp (config := { maxSteps := 1000000 }) (disch := ((try simp only [awL]); omega)) only [QR, QS, QT, QU, QV, QW, QX, QY, QZ, Q0, Q1, Q2, gl, nl, sl, ce, ↓awU, awV, awF, Qa, Qb, Qc, Qd, forall_const, ↓reduceIte, ↓reduceDIte, ↓Qe, Qf, Qg, Qh, Qi, Qj, Qk, Ql, Qm, Qn, Qo, Qp, Qq, Qr, Qs, implies_true, Qt, Qu, Qv, Qw, Qx, Qy, Qz, QA, QB, QC, QD, QE, QF, QG, QH, QI, QJ, QK, QL, QM, QN, QO, QP, QQ]
                    have cge : celsD (colG g m k (j + 1)) = celsD (colG g m k j) ++ [.bool false, .str (bs s)] := by rw [cg, celsD_app]; rfl
                    refine ⟨by rfl, by rfl, j + 1, by omega, by simp only; omega, ⟨[some 0, some 1, some 2, some 3, some 4, some 7], rfl, by simp, by simp [setsA, keepA, SWeak, AWeak, Nat.add_assoc], ?_⟩⟩
                    simp [B6, HWeak, BWeak, SWeak, AWeak, cut, cge]
                  · have e : j = g.length - m := by omega
                    subst e
                    simp (config := { maxSteps := 1000000 }) (disch := ((try simp only [awL]); omega)) only [QR, QS, QT, QU, QV, QW, QX, QY, QZ, Q0, Q1, Q2, gl, nl, ↓awU, awV, awF, Qa, Qb, Qc, Qd, forall_const, ↓reduceIte, ↓reduceDIte, ↓Qe, Qf, Qg, Qh, Qi, Qj, Qk, Ql, Qm, Qn, Qo, Qp, Qq, Qr, Qs, implies_true, Qt, Qu, Qv, Qw, Qx, Qy, Qz, QA, QB, QC, QD, QE, QF, QG, QH, QI, QJ, QK, QL, QM, QN, QO, QP, QQ]
                    exact ⟨(), trivial, ⟨[some 0, some 1, some 2, some 3, some 4, some 5], rfl, by simp, by simp [setsA, keepA, SWeak, AWeak], by simp [HWeak, BWeak, SWeak, AWeak]⟩⟩
                · rintro ⟨⟩ -
                  have ce := celsD_length (colG g m k (g.length - m))
                  rw [colG_len] at ce
                  unfold B6
                  simp only [awK, Nat.reduceMod, Nat.reduceDiv, reduceIte]
                  simp (config := { maxSteps := 1000000 }) (disch := ((try simp only [awL]); omega)) only [QR, QS, QT, QU, QV, QW, QX, QY, QZ, Q0, Q1, Q2, gl, nl, sl, ce, cl, ↓awU, awV, awF, Qa, Qb, Qc, Qd, forall_const, ↓reduceIte, ↓reduceDIte, ↓Qe, Qf, Qg, Qh, Qi, Qj, Qk, Ql, Qm, Qn, Qo, Qp, Qq, Qr, Qs, implies_true, Qt, Qu, Qv, Qw, Qx, Qy, Qz, QA, QB, QC, QD, QE, QF, QG, QH, QI, QJ, QK, QL, QM, QN, QO, QP, QQ]
                  have cce : colsD (colsG g m (k + 1)) = colsD (colsG g m k) ++ [.str (bs nm), CelS (colG g m k (g.length - m)) false] := by rw [cs, colsD_app]; rfl
                  have ccs : D.sl (g.length - m) false (cut (celsD (colG g m k (g.length - m))) 0 ((g.length - m) * 2)) = CelS (colG g m k (g.length - m)) false := by
                    rw [cut_all (by rw [ce]; omega)]; unfold CelS; rw [colG_len]
                  rw [ccs]
                  refine ⟨by rfl, k + 1, h3, by simp only; omega, ⟨[some 0, some 1, some 2, some 7], rfl, by simp, by simp [setsA, keepA, SWeak, AWeak], ?_⟩⟩
                  simp [HWeak, BWeak, SWeak, AWeak, cut, cce]
              · have e : k = widG g := by omega
                subst e
                simp (config := { maxSteps := 1000000 }) (disch := ((try simp only [awL]); omega)) only [QR, QS, QT, QU, QV, QW, QX, QY, QZ, Q0, Q1, Q2, gl, nl, ↓awU, awV, awF, Qa, Qb, Qc, Qd, forall_const, ↓reduceIte, ↓reduceDIte, ↓Qe, Qf, Qg, Qh, Qi, Qj, Qk, Ql, Qm, Qn, Qo, Qp, Qq, Qr, Qs, implies_true, Qt, Qu, Qv, Qw, Qx, Qy, Qz, QA, QB, QC, QD, QE, QF, QG, QH, QI, QJ, QK, QL, QM, QN, QO, QP, QQ]
                exact ⟨(), trivial, ⟨[some 0, some 1, some 2, some 3], rfl, by simp, by simp [setsA, keepA, SWeak, AWeak], by simp [HWeak, BWeak, SWeak, AWeak]⟩⟩
            · rintro ⟨⟩ -
              simp only [awK, Nat.reduceMod, Nat.reduceDiv, reduceIte]
              have cl := colsD_length (colsG g m (widG g))
              rw [colsG_len] at cl
              subst hr
              simp (config := { maxSteps := 1000000 }) (disch := ((try simp only [awL]); omega)) only [QR, QS, QT, QU, QV, QW, QX, QY, QZ, Q0, Q1, Q2, gl, cl, ↓awU, awV, awF, Qa, Qb, Qc, Qd, forall_const, ↓reduceIte, ↓reduceDIte, ↓Qe, Qf, Qg, Qh, Qi, Qj, Qk, Ql, Qm, Qn, Qo, Qp, Qq, Qr, Qs, implies_true, Qt, Qu, Qv, Qw, Qx, Qy, Qz, QA, QB, QC, QD, QE, QF, QG, QH, QI, QJ, QK, QL, QM, QN, QO, QP, QQ]
              rw [cut_all (by rw [cl]; omega)]
              unfold tabG TabD ColS
              rw [colsG_len]
        · rw [b3, if_pos rfl] at hr
          subst hr
          simp (config := { maxSteps := 1000000 }) (disch := ((try simp only [awL]); omega)) only [QR, QS, QT, QU, QV, QW, QX, QY, QZ, Q0, Q1, Q2, gl, ↓awU, awV, awF, Qa, Qb, Qc, Qd, forall_const, ↓reduceIte, ↓reduceDIte, ↓Qe, Qf, Qg, Qh, Qi, Qj, Qk, Ql, Qm, Qn, Qo, Qp, Qq, Qr, Qs, implies_true, Qt, Qu, Qv, Qw, Qx, Qy, Qz, QA, QB, QC, QD, QE, QF, QG, QH, QI, QJ, QK, QL, QM, QN, QO, QP, QQ]
          first | done | rfl
      · rw [b2, Bool.true_or, if_pos rfl] at hr
        subst hr
        simp (config := { maxSteps := 1000000 }) (disch := ((try simp only [awL]); omega)) only [QR, QS, QT, QU, QV, QW, QX, QY, QZ, Q0, Q1, Q2, gl, ↓awU, awV, awF, Qa, Qb, Qc, Qd, forall_const, ↓reduceIte, ↓reduceDIte, ↓Qe, Qf, Qg, Qh, Qi, Qj, Qk, Ql, Qm, Qn, Qo, Qp, Qq, Qr, Qs, implies_true, Qt, Qu, Qv, Qw, Qx, Qy, Qz, QA, QB, QC, QD, QE, QF, QG, QH, QI, QJ, QK, QL, QM, QN, QO, QP, QQ]
        first | done | rfl
end Go.Proofs.YthbnileadffpiaaGreatDoor

namespace Go.Proofs.YthbnileadffpiaaGreatDoor
open Go Go.Proofs Go.Abs
variable {G : Globals}
/-! Which tables are valid, by the reference. -/
end Go.Proofs.YthbnileadffpiaaGreatDoor

namespace Go.Proofs.YthbnileadffpiaaGreatDoor
open Go Go.Proofs Go.Abs
variable {G : Globals}
/-! Equal tables are the same. -/
end Go.Proofs.YthbnileadffpiaaGreatDoor

namespace Go.Proofs.YthbnileadffpiaaGreatDoor
open Go Go.Proofs Go.Abs
variable {G : Globals}
/-! The reference's Apply. -/
theorem widG_ge {g : List Row} {r : Row} (h : r ∈ g) : r.length ≤ widG g := by
  have : ∀ (l : List Row) (a : Nat), (a ≤ l.foldl (fun m r => max m r.length) a) ∧ ∀ r ∈ l, r.length ≤ l.foldl (fun m r => max m r.length) a := by
    intro l
    induction l with
    | nil => intro a; exact ⟨Nat.le_refl _, fun r hr => by cases hr⟩
    | cons x l ih =>
      intro a
      obtain ⟨i1, i2⟩ := ih (max a x.length)
      rw [List.foldl_cons]
      refine ⟨by omega, fun r hr => ?_⟩
      rcases List.mem_cons.1 hr with rfl | hr
      · omega
      · exact i2 r hr
  exact (this g 0).2 r h
end Go.Proofs.YthbnileadffpiaaGreatDoor

namespace Go.Proofs.YthbnileadffpiaaGreatDoor
open Go Go.Proofs Go.Abs
variable {G : Globals}
/-! The reference's Apply: its walk. -/
end Go.Proofs.YthbnileadffpiaaGreatDoor

namespace Go.Proofs.YthbnileadffpiaaGreatDoor
open Go Go.Proofs Go.Abs
variable {G : Globals}
/-! Header: the sanity check. -/
def saneH : List Row := [[[99, 105, 116, 121], [115, 105, 122, 101]], [[66, 101, 114, 110], [53]], [[85, 108, 109], [55]]]
theorem saneH_ok : okH saneH := by
  refine ⟨by decide, fun r hr => ?_⟩
  simp only [saneH, List.mem_cons, List.not_mem_nil, or_false] at hr
  rcases hr with rfl | rfl | rfl <;> exact ⟨by decide, fun s hs => by simp only [List.mem_cons, List.not_mem_nil, or_false] at hs; rcases hs with rfl | rfl <;> simp⟩
set_option maxRecDepth 100000 in
theorem sane_e1 : (evN saneH 1).fr = 1 ∧ (evN saneH 1).ag = 0 := by decide +kernel
set_option maxRecDepth 100000 in
theorem sane_e0 : (evN saneH 0).fr = 0 ∧ (evN saneH 0).ag = 1 := by decide +kernel
set_option maxRecDepth 100000 in
theorem sane_e2 : (evN saneH 2).fr = 0 ∧ (evN saneH 2).ag = 1 := by decide +kernel
set_option maxRecDepth 100000 in
theorem sane_e3 : (evN saneH 3).fr = 0 ∧ (evN saneH 3).ag = 1 := by decide +kernel
theorem sane_opts : optsH saneH = [evN saneH 1, evN saneH 0, evN saneH 2, evN saneH 3] := by
  have p : preH saneH 4 = [evN saneH 1, evN saneH 0, evN saneH 2, evN saneH 3] := rfl
  have s1 : scO (evN saneH 1) = 1 := by unfold scO; rw [sane_e1.1, sane_e1.2]; rfl
  have s0 : scO (evN saneH 0) = -1 := by unfold scO; rw [sane_e0.1, sane_e0.2]; rfl
  have s2 : scO (evN saneH 2) = -1 := by unfold scO; rw [sane_e2.1, sane_e2.2]; rfl
  have s3 : scO (evN saneH 3) = -1 := by unfold scO; rw [sane_e3.1, sane_e3.2]; rfl
  rw [optsH, p]
  simp [sortB, insB, posB, befH, s1, s0, s2, s3]
set_option maxRecDepth 100000 in
theorem sane_names : namesG saneH 1 2 = [[99, 105, 116, 121], [115, 105, 122, 101]] := by decide +kernel
theorem sane_w : widG saneH = 2 := rfl
set_option maxRecDepth 100000 in
theorem sane_bad : badG 1 [120] saneH 1 = false := by
  unfold badG
  rw [sane_w, sane_names]
  decide +kernel
def saneC : List Col := [⟨[99, 105, 116, 121], [([66, 101, 114, 110], false), ([85, 108, 109], false)]⟩, ⟨[115, 105, 122, 101], [([53], false), ([55], false)]⟩]
theorem sane_apply : applyT 1 [120] saneH 1 = (⟨1, [120], saneC⟩, 0) := by
  unfold applyT
  rw [if_neg (by decide), show (1 : Int).toNat = 1 from rfl, sane_bad, if_neg (by decide), if_neg (by decide)]
  unfold tabG colsG
  rw [sane_w, sane_names]
  rfl
set_option maxRecDepth 100000 in
theorem sane_num : numB [49, 50, 58, 51, 48] = true := by decide +kernel
set_option maxHeartbeats 4000000 in
set_option maxRecDepth 100000 in
theorem hsane_spec (hG : Num.HG G) (hT : HT G) (hI : HI G) : Ctr Tryz.prog G 7 [] [] (.d (.bool true)) [] := by
  refine Ctr.pure (M := M0) hmix Tryz.func7 rfl go7 ?_
  have v1 := evidence_spec hG hI saneH false saneH_ok.ok 1 (by decide) (by decide)
  have v0 := evidence_spec hG hI saneH false saneH_ok.ok 0 (by decide) (by decide)
  have vo := hoptions_spec hG hI saneH false saneH_ok.ok
  have va := apply_spec hT hI saneH false saneH_ok 1 [120] (by decide) 1 (by decide) (by decide) (by decide) (by decide)
  have vn := number_spec9 hG [49, 50, 58, 51, 48] (by decide)
  rw [show evG saneH 1 = evN saneH 1 from rfl] at v1
  rw [show evG saneH 0 = evN saneH 0 from rfl] at v0
  rw [sane_apply] at va
  rw [sane_num] at vn
  have c1 : (evN saneH 1).cells = [S (Lib.decDigits 1), .int .i64 1, .int .i64 0] := by unfold Opt.cells; rw [sane_e1.1, sane_e1.2]; rfl
  have c0 : (evN saneH 0).cells = [S (Lib.decDigits 0), .int .i64 0, .int .i64 1] := by unfold Opt.cells; rw [sane_e0.1, sane_e0.2]; rfl
  rw [c1] at v1
  rw [c0] at v0
  have d1 : Lib.decDigits 1 = [49] := Lib.decDigits_one (by decide)
  have ol : (optsH saneH).length = 4 := by rw [sane_opts]; rfl
  have o0 : (optC (optsH saneH)).getD 0 .nilp = S [49] := by
    rw [sane_opts]
    show S (Lib.decDigits 1) = _
    rw [d1]
  have oc := optC_length (optsH saneH)
  rw [ol] at oc vo
  simp (config := { maxSteps := 1000000 }) (disch := ((try simp only [awL]); omega)) only [QR, QS, QT, QU, QV, QW, QX, QY, QZ, Q0, Q1, Q2, Tryz.f7, ↓awU, awV, awF, Qa, Qb, Qc, Qd, forall_const, ↓reduceIte, ↓reduceDIte, ↓Qe, Qf, Qg, Qh, Qi, Qj, Qk, Ql, Qm, Qn, Qo, Qp, Qq, Qr, Qs, implies_true, Qt, Qu, Qv, Qw, Qx, Qy, Qz, QA, QB, QC, QD, QE, QF, QG, QH, QI, QJ, QK, QL, QM, QN, QO, QP, QQ]
  refine CallC.frozenE v1 (by rfl) ?_
  simp (config := { maxSteps := 1000000 }) (disch := ((try simp only [awL]); omega)) only [QR, QS, QT, QU, QV, QW, QX, QY, QZ, Q0, Q1, Q2, ↓awU, awV, awF, Qa, Qb, Qc, Qd, forall_const, ↓reduceIte, ↓reduceDIte, ↓Qe, Qf, Qg, Qh, Qi, Qj, Qk, Ql, Qm, Qn, Qo, Qp, Qq, Qr, Qs, implies_true, Qt, Qu, Qv, Qw, Qx, Qy, Qz, QA, QB, QC, QD, QE, QF, QG, QH, QI, QJ, QK, QL, QM, QN, QO, QP, QQ]
  refine CallC.frozenE v0 (by rfl) ?_
  simp (config := { maxSteps := 1000000 }) (disch := ((try simp only [awL]); omega)) only [QR, QS, QT, QU, QV, QW, QX, QY, QZ, Q0, Q1, Q2, ↓awU, awV, awF, Qa, Qb, Qc, Qd, forall_const, ↓reduceIte, ↓reduceDIte, ↓Qe, Qf, Qg, Qh, Qi, Qj, Qk, Ql, Qm, Qn, Qo, Qp, Qq, Qr, Qs, implies_true, Qt, Qu, Qv, Qw, Qx, Qy, Qz, QA, QB, QC, QD, QE, QF, QG, QH, QI, QJ, QK, QL, QM, QN, QO, QP, QQ]
  refine CallC.frozenE va (by rfl) ?_
  have cc1 : (colsD saneC).getD 2 .nilp = S [115, 105, 122, 101] := rfl
  have cc0 : (colsD saneC).getD 1 .nilp = CelS [([66, 101, 114, 110], false), ([85, 108, 109], false)] false := rfl
  have cl : (colsD saneC).length = 4 := rfl
  have c2 : saneC.length = 2 := rfl
  simp (config := { maxSteps := 1000000 }) (disch := ((try simp only [awL]); omega)) only [QR, QS, QT, QU, QV, QW, QX, QY, QZ, Q0, Q1, Q2, cl, c2, ↓awU, awV, awF, Qa, Qb, Qc, Qd, forall_const, ↓reduceIte, ↓reduceDIte, ↓Qe, Qf, Qg, Qh, Qi, Qj, Qk, Ql, Qm, Qn, Qo, Qp, Qq, Qr, Qs, implies_true, Qt, Qu, Qv, Qw, Qx, Qy, Qz, QA, QB, QC, QD, QE, QF, QG, QH, QI, QJ, QK, QL, QM, QN, QO, QP, QQ]
  refine CallC.frozenE vo (by rfl) ?_
  generalize optC (optsH saneH) = od at *
  simp (config := { maxSteps := 1000000 }) (disch := ((try simp only [awL]); omega)) only [QR, QS, QT, QU, QV, QW, QX, QY, QZ, Q0, Q1, Q2, oc, o0, cl, c2, cc1, cc0, beq_self_eq_true, ↓awU, awV, awF, Qa, Qb, Qc, Qd, forall_const, ↓reduceIte, ↓reduceDIte, ↓Qe, Qf, Qg, Qh, Qi, Qj, Qk, Ql, Qm, Qn, Qo, Qp, Qq, Qr, Qs, implies_true, Qt, Qu, Qv, Qw, Qx, Qy, Qz, QA, QB, QC, QD, QE, QF, QG, QH, QI, QJ, QK, QL, QM, QN, QO, QP, QQ]
  refine CallC.of vn (by rfl) ?_
  simp (config := { maxSteps := 1000000 }) (disch := ((try simp only [awL]); omega)) only [QR, QS, QT, QU, QV, QW, QX, QY, QZ, Q0, Q1, Q2, ↓awU, awV, awF, Qa, Qb, Qc, Qd, forall_const, ↓reduceIte, ↓reduceDIte, ↓Qe, Qf, Qg, Qh, Qi, Qj, Qk, Ql, Qm, Qn, Qo, Qp, Qq, Qr, Qs, implies_true, Qt, Qu, Qv, Qw, Qx, Qy, Qz, QA, QB, QC, QD, QE, QF, QG, QH, QI, QJ, QK, QL, QM, QN, QO, QP, QQ]
  first | done | rfl | exact ⟨by rfl, by rfl⟩
end Go.Proofs.YthbnileadffpiaaGreatDoor

namespace Go.Proofs.YthbnileadffpiaaGreatDoor
open Go Go.Proofs Go.Abs
variable {G : Globals}
/-! Header: what the tables of the dice's grids are (plain). -/
theorem OddG.okH {g : List Row} {m n : Nat} (h : OddG g m n) (hm : m ≤ 100) (hn : n ≤ 64) : okH g :=
  ⟨by have := h.len; omega, fun r hr => ⟨by have := (h.row r hr).2; omega, fun s hs => by have := (h.txt r hr s hs).2; omega⟩⟩
theorem OddG.at {g : List Row} {m n : Nat} (h : OddG g m n) (i k : Int) : okT (atG g i k) := by
  unfold atG
  split
  · exact okT_nil
  · rcases Nat.lt_or_ge i.toNat g.length with h1 | h1
    · have m1 := h.txt _ (memD (d := []) h1)
      generalize g.getD i.toNat [] = r at *
      rcases Nat.lt_or_ge k.toNat r.length with h2 | h2
      · exact m1 _ (memD (d := []) h2)
      · rw [List.getD_eq_getElem?_getD, List.getElem?_eq_none h2]; exact okT_nil
    · have e : g.getD i.toNat [] = [] := by rw [List.getD_eq_getElem?_getD, List.getElem?_eq_none h1]; rfl
      rw [e]; exact okT_nil
theorem fine_of {s : List UInt8} (h : okT s) : fineB s = true := by
  unfold fineB; rw [h.1, decide_eq_true (by have := h.2; omega)]; rfl
theorem valid_dec (n : Nat) : Lib.validD (Lib.decDigits n) = true := valid_ascii _ fun c hc => by have := (dec_bytes n c hc).2; omega
theorem valid_jt : ∀ l : Row, (∀ s ∈ l, Lib.validD s = true) → Lib.validD (Lib.joinTail [32] l) = true
  | [], _ => rfl
  | x :: l, h => by
    have e : Lib.joinTail [32] (x :: l) = [32] ++ (x ++ Lib.joinTail [32] l) := by simp [Lib.joinTail]
    rw [e]
    exact valid_app (by decide) (valid_app (h x (by simp)) (valid_jt l fun s hs => h s (List.mem_cons_of_mem _ hs)))
theorem valid_join {l : Row} (h : ∀ s ∈ l, Lib.validD s = true) : Lib.validD (Lib.join l [32]) = true := by
  rcases l with _ | ⟨x, l⟩
  · rfl
  · rw [Lib.join_cons]
    exact valid_app (h x (by simp)) (valid_jt l fun s hs => h s (List.mem_cons_of_mem _ hs))
theorem OddG.base {g : List Row} {m n : Nat} (h : OddG g m n) {k p : Nat} (hp : p ≤ 3) (hk : k < 1000) : Lib.validD (baseG g k p) = true ∧ (baseG g k p).length ≤ 200 := by
  have mem : ∀ s ∈ partsG g k p, okT s := fun s hs => by
    obtain ⟨i, _, rfl⟩ := List.mem_map.1 (List.mem_filter.1 hs).1
    have a := h.at i k
    exact ⟨valid_trim a.1, Nat.le_trans (trimB_len _) a.2⟩
  have mb : ∀ s ∈ baseP g k p, Lib.validD s = true ∧ s.length ≤ 30 := fun s hs => by
    unfold baseP at hs
    split at hs
    · rcases List.mem_cons.1 hs with rfl | hs
      · exact ⟨by decide, by decide⟩
      · rw [List.mem_singleton.1 hs]
        exact ⟨valid_dec _, by have := dec_len (n := k + 1) (by omega); omega⟩
    · exact mem s hs
  have l : (baseP g k p).length ≤ 3 := by
    unfold baseP
    split
    · simp
    · have := partsG_len g k p; omega
  refine ⟨valid_join fun s hs => (mb s hs).1, ?_⟩
  have j := join_len [32] 30 (Nat.le_refl _) (baseP g k p) fun s hs => (mb s hs).2
  have : (baseP g k p).length * (30 + 1) ≤ 3 * (30 + 1) := Nat.mul_le_mul_right _ l
  unfold baseG; omega
theorem OddG.names {g : List Row} {m n : Nat} (h : OddG g m n) {p : Nat} (hp : p ≤ 3) : ∀ k, k ≤ 1000 → ∀ s ∈ namesG g p k, fineB s = true
  | 0, _, s, hs => by cases hs
  | k + 1, hk, s, hs => by
    rw [namesG] at hs
    rcases List.mem_append.1 hs with hs | hs
    · exact h.names hp k (by omega) s hs
    · rw [List.mem_singleton.1 hs]
      obtain ⟨b1, b2⟩ := h.base (k := k) hp (by omega)
      have nl := namesG_len g p k
      obtain ⟨h1, h2⟩ := nameN_free (out := namesG g p k) (b := baseG g k p) (by omega)
      unfold fineB
      rcases h2 with h2 | ⟨h2, q, h3, h4, h5⟩
      · rw [h2, b1, decide_eq_true (by omega)]; rfl
      · rw [h4]
        have : q ≤ 1001 := by
          rcases Nat.lt_or_ge q 100000 with z | z
          · have := takenTo_le h2 h5 z; omega
          · have := takenTo_le (n := 99999) h2 (fun j j1 j2 => h5 j j1 (by omega)) (by omega); omega
        have cl := cand_len (b := baseG g k p) (n := q) (by omega)
        rw [decide_eq_true (by omega), cand, valid_app (valid_app b1 (by decide)) (valid_dec q)]; rfl
theorem OddG.wid {g : List Row} {m n : Nat} (h : OddG g m n) : widG g ≤ n := widG_le fun r hr => (h.row r hr).2
theorem OddG.badG {g : List Row} {m n : Nat} (h : OddG g m n) (hn : n ≤ 64) {p : Nat} (hp : p ≤ 3) {id : Int} {name : List UInt8} (hi : okId id name = true) : badG id name g p = false := by
  unfold Proofs.YthbnileadffpiaaGreatDoor.badG
  rw [hi]
  have a : (namesG g p (widG g)).any badB = false := List.any_eq_false.2 fun s hs => by
    have := h.names hp (widG g) (by have := h.wid; omega) s hs
    simp [badB, this]
  have b : (g.drop p).any (fun r => r.any badB) = false := List.any_eq_false.2 fun r hr => by
    have : r.any badB = false := List.any_eq_false.2 fun s hs => by
      have := fine_of (h.txt r (List.mem_of_mem_drop hr) s hs)
      simp [badB, this]
    rw [this]; decide
  rw [a, b]; rfl
theorem OddG.apply {g : List Row} {m n : Nat} (h : OddG g m n) (hm : m ≤ 100) (hn : n ≤ 64) {p : Nat} (hp : p ≤ 3) (hpl : p ≤ g.length) {id : Int} {name : List UInt8} (hi : okId id name = true) : applyT id name g p = (tabG id name g p, 0) := by
  unfold applyT
  have := h.wid
  have := h.len
  rw [if_neg (by omega), Int.toNat_natCast, h.badG hn hp hi, if_neg (by decide), if_neg (by omega)]
end Go.Proofs.YthbnileadffpiaaGreatDoor

namespace Go.Proofs.YthbnileadffpiaaGreatDoor
open Go Go.Proofs Go.Abs
variable {G : Globals}
/-! Plain facts about a row of names above columns of which one has numbers alone (HeaderFinds). -/
def hdr5 : Row := [[110, 97, 109, 101], [99, 105, 116, 121], [115, 105, 122, 101], [100, 97, 116, 101], [107, 105, 110, 100]]
structure DataR (c num : Nat) (r : Row) : Prop where
  len : r.length = c
  nm : numB (r.getD num []) = true
  oth : ∀ j, j < c → j ≠ num → nameB (r.getD j []) = true
  sml : ∀ s ∈ r, s.length ≤ 20
theorem num_ne {s : List UInt8} (h : numB s = true) : Lib.trimB s 32 ≠ [] := fun e => by
  unfold numB at h
  rw [e] at h
  revert h; decide +kernel
theorem name_ne {s : List UInt8} (h : nameB s = true) : Lib.trimB s 32 ≠ [] ∧ numB s = false := by
  unfold nameB at h
  simpa using h
theorem atG_single (r : Row) (k : Nat) : atG [r] 0 (k : Nat) = r.getD k [] := by
  unfold atG
  rw [if_neg (by omega)]; simp
theorem numsR_num {c num : Nat} : ∀ {l : List Row}, (∀ r ∈ l, DataR c num r) → numsR (num : Nat) l true = true
  | [], _ => rfl
  | r :: l, h => by
    have hr := h r (by simp)
    rw [numsR, atG_single, if_neg (num_ne hr.nm), if_pos hr.nm]
    exact numsR_num fun x hx => h x (by simp [hx])
theorem numsR_num' {c num : Nat} {l : List Row} (h : ∀ r ∈ l, DataR c num r) (hn : l ≠ []) : numsR (num : Nat) l false = true := by
  rcases l with _ | ⟨r, l⟩
  · exact absurd rfl hn
  · have hr := h r (by simp)
    rw [numsR, atG_single, if_neg (num_ne hr.nm), if_pos hr.nm]
    exact numsR_num fun x hx => h x (by simp [hx])
theorem numsR_oth {c num k : Nat} (hk : k < c) (hkn : k ≠ num) {l : List Row} (h : ∀ r ∈ l, DataR c num r) : numsR (k : Nat) l false = false := by
  rcases l with _ | ⟨r, l⟩
  · rfl
  · have hr := name_ne ((h r (by simp)).oth k hk hkn)
    rw [numsR, atG_single, if_neg hr.1, if_neg (by rw [hr.2]; exact Bool.false_ne_true)]
theorem cntB_zero {f : Nat → Bool} : ∀ {c : Nat}, (∀ k, k < c → f k = false) → cntB f c = 0
  | 0, _ => rfl
  | c + 1, h => by rw [cntB, cntB_zero fun k hk => h k (by omega), h c (by omega)]; rfl
theorem cntB_one {f : Nat → Bool} {num : Nat} : ∀ {c : Nat}, num < c → (∀ k, k < c → f k = decide (k = num)) → cntB f c = 1
  | 0, h0, _ => absurd h0 (by omega)
  | c + 1, h0, h => by
    rw [cntB, h c (by omega)]
    by_cases e : c = num
    · rw [cntB_zero fun k hk => by rw [h k (by omega), decide_eq_false (by omega)], decide_eq_true e]; rfl
    · rw [cntB_one (num := num) (by omega) fun k hk => h k (by omega), decide_eq_false e]; rfl
/-- The grid: the first c names above the rows rs. -/
def findG (c : Nat) (rs : List Row) : List Row := hdr5.take c :: rs
structure FindG (c num : Nat) (rs : List Row) : Prop where
  c1 : 1 ≤ c
  c4 : c ≤ 4
  hn : num < c
  ne : rs ≠ []
  len : rs.length ≤ 5
  row : ∀ r ∈ rs, DataR c num r
theorem hdr_get {c k : Nat} (h : k < c) : (hdr5.take c).getD k [] = hdr5.getD k [] := by
  rw [List.getD_eq_getElem?_getD, List.getD_eq_getElem?_getD, List.getElem?_take_of_lt h]
theorem hdr_len {c : Nat} (h : c ≤ 5) : (hdr5.take c).length = c := by
  rw [List.length_take]; show min c 5 = c; omega
theorem hdr_sml : ∀ s ∈ hdr5, s.length ≤ 20 := by decide
theorem FindG.okG {c num : Nat} {rs : List Row} (h : FindG c num rs) : okGrid (findG c rs) := by
  have l4 := h.len
  have c4 := h.c4
  refine ⟨by unfold findG; rw [List.length_cons]; omega, fun r hr => ?_⟩
  rcases List.mem_cons.1 hr with e | hr
  · subst e
    exact ⟨by rw [hdr_len (by omega)]; omega, fun s hs => by have := hdr_sml s (List.mem_of_mem_take hs); omega⟩
  · have d := h.row r hr
    exact ⟨by rw [d.len]; omega, fun s hs => by have := d.sml s hs; omega⟩
theorem FindG.wid {c num : Nat} {rs : List Row} (h : FindG c num rs) : widG (findG c rs) = c := by
  have c4 := h.c4
  have a : widG (findG c rs) ≤ c := widG_le fun r hr => by
    rcases List.mem_cons.1 hr with e | hr
    · subst e; rw [hdr_len (by omega)]; exact Nat.le_refl _
    · rw [(h.row r hr).len]; exact Nat.le_refl _
  have b := widG_ge (g := findG c rs) (r := hdr5.take c) (by unfold findG; simp)
  rw [hdr_len (by omega)] at b
  omega
theorem find_at0 {c k : Nat} {rs : List Row} (h : k < c) : atG (findG c rs) 0 (k : Nat) = hdr5.getD k [] := by
  unfold atG findG
  rw [if_neg (by omega), ← hdr_get h]; rfl
theorem find_atS {c k i : Nat} {rs : List Row} : atG (findG c rs) ((i + 1 : Nat) : Int) (k : Nat) = (rs.getD i []).getD k [] := by
  unfold atG findG
  rw [if_neg (by omega), Int.toNat_natCast, Int.toNat_natCast, List.getD_cons_succ]
theorem find_drop {c i : Nat} {rs : List Row} : (findG c rs).drop (i + 1) = rs.drop i := rfl
theorem hdr_name : ∀ k, k < 5 → nameB (hdr5.getD k []) = true ∧ nameB (Lib.trimB (hdr5.getD k []) 32) = true ∧ numB (hdr5.getD k []) = false := by decide +kernel
theorem hdr_diff : ∀ k, k < 5 → ∀ i, i < k → Lib.trimB (hdr5.getD i []) 32 ≠ Lib.trimB (hdr5.getD k []) 32 := by decide +kernel
theorem FindG.pro1 {c num : Nat} {rs : List Row} (h : FindG c num rs) : cntB (proB (findG c rs) 1) c = 1 := by
  have c4 := h.c4
  refine cntB_one h.hn fun k hk => ?_
  unfold proB
  rw [if_neg (by omega), show ((1 : Nat) : Int) - 1 = 0 from rfl, find_at0 hk, (hdr_name k (by omega)).2.1, Bool.and_true]
  unfold numsB
  rw [show (findG c rs).drop 1 = rs from rfl]
  by_cases e : k = num
  · subst e; rw [numsR_num' h.row h.ne, decide_eq_true rfl]
  · rw [numsR_oth hk e h.row, decide_eq_false e]
theorem FindG.con1 {c num : Nat} {rs : List Row} (h : FindG c num rs) : cntB (conB (findG c rs) 1) c = 0 := by
  have c4 := h.c4
  refine cntB_zero fun k hk => ?_
  unfold conB
  rw [if_neg (by omega), show ((1 : Nat) : Int) - 1 = 0 from rfl, find_at0 hk, (hdr_name k (by omega)).2.1, Bool.not_true, Bool.false_or]
  refine decide_eq_false fun hm => ?_
  unfold lastR at hm
  obtain ⟨i, hi, e⟩ := List.mem_map.1 hm
  have hi := List.mem_range.1 hi
  rw [show ((1 : Nat) : Int) - 1 = 0 from rfl, find_at0 (by omega)] at e
  exact hdr_diff k (by omega) i hi e
theorem FindG.pro0 {c num : Nat} {rs : List Row} (h : FindG c num rs) : cntB (proB (findG c rs) 0) c = 0 := by
  have c4 := h.c4
  refine cntB_zero fun k hk => ?_
  unfold proB
  rw [if_pos rfl, find_at0 hk, (hdr_name k (by omega)).2.2, Bool.and_false]
theorem FindG.proS {c num : Nat} {rs : List Row} (h : FindG c num rs) {n : Nat} (hn : n < rs.length) : cntB (proB (findG c rs) (n + 2)) c = 0 := by
  refine cntB_zero fun k hk => ?_
  unfold proB
  rw [if_neg (by omega), show ((n + 2 : Nat) : Int) - 1 = ((n + 1 : Nat) : Int) by omega, find_atS]
  have hr := h.row _ (memD (d := []) hn)
  by_cases e : k = num
  · subst e
    have : nameB (Lib.trimB ((rs.getD n []).getD k []) 32) = false := by
      unfold nameB; rw [numB_trim, hr.nm, Bool.not_true, Bool.and_false]
    rw [this, Bool.and_false]
  · unfold numsB
    rw [find_drop, numsR_oth hk e fun r hr => h.row r (List.mem_of_mem_drop hr), Bool.false_and]
theorem posB_pos {bf : Opt → Opt → Bool} {o : Opt} {s : List Opt} (h : bf o (s.getD 0 noO) = false) : ∀ n, 1 ≤ n → 1 ≤ posB bf o s n
  | 0, h0 => absurd h0 (by omega)
  | 1, _ => by rw [posB, if_neg (by rw [h]; exact Bool.false_ne_true)]; omega
  | n + 2, _ => by
    rw [posB]
    split
    · exact posB_pos h (n + 1) (by omega)
    · omega
theorem insB_head {bf : Opt → Opt → Bool} {o : Opt} {s : List Opt} (hs : s ≠ []) (h : bf o (s.getD 0 noO) = false) : insB bf o s ≠ [] ∧ (insB bf o s).getD 0 noO = s.getD 0 noO := by
  have l0 : 1 ≤ s.length := by rcases s with _ | ⟨a, s⟩; exact absurd rfl hs; simp
  have p := posB_pos (bf := bf) h s.length l0
  unfold insB
  obtain ⟨q, hq⟩ : ∃ q, posB bf o s s.length = q + 1 := ⟨_, (Nat.sub_add_cancel p).symm⟩
  rw [hq]
  rcases s with _ | ⟨a, s⟩
  · exact absurd rfl hs
  · exact ⟨by simp, by simp⟩
theorem fold_head {bf : Opt → Opt → Bool} {o : Opt} : ∀ (l s : List Opt), s ≠ [] → s.getD 0 noO = o → (∀ x ∈ l, bf x o = false) → (l.foldl (fun s x => insB bf x s) s).getD 0 noO = o
  | [], s, _, h, _ => h
  | x :: l, s, hs, h, hl => by
    have a := insB_head (bf := bf) (o := x) hs (by rw [h]; exact hl x (by simp))
    exact fold_head l _ a.1 (a.2.trans h) fun y hy => hl y (by simp [hy])
theorem sortB_head {bf : Opt → Opt → Bool} {o : Opt} {l : List Opt} (h : ∀ x ∈ l, bf x o = false) : (sortB bf (o :: l)).getD 0 noO = o :=
  fold_head l [o] (by simp) rfl h
theorem FindG.best {c num : Nat} {rs : List Row} (h : FindG c num rs) : 1 ≤ (optsH (findG c rs)).length ∧ ((optsH (findG c rs)).getD 0 noO).cells = [S [49], .int .i64 1, .int .i64 0] := by
  have w := h.wid
  have hl : 1 ≤ rs.length := by have := h.ne; rcases rs with _ | ⟨a, rs⟩; exact absurd rfl this; simp
  have gl : (findG c rs).length = rs.length + 1 := by unfold findG; simp
  have s1 : evN (findG c rs) 1 = ⟨Lib.decDigits 1, 1, 0, 1⟩ := by unfold evN; rw [w, h.pro1, h.con1]
  have s0 : ∀ n, n ≠ 1 → n ≤ (findG c rs).length → (evN (findG c rs) n).fr = 0 := fun n n1 n2 => by
    unfold evN
    rw [w]
    show cntB (proB (findG c rs) n) c = 0
    rcases n with _ | _ | n
    · exact h.pro0
    · exact absurd rfl n1
    · exact h.proS (by omega)
  obtain ⟨l, hl2, hl3⟩ : ∃ l, preH (findG c rs) 4 = evN (findG c rs) 1 :: l ∧ ∀ x ∈ l, x.fr = 0 := by
    refine ⟨(([0, 2, 3] : List Nat).filter fun n => decide (n ≤ (findG c rs).length)).map (evN (findG c rs)), ?_, fun x hx => ?_⟩
    · unfold preH
      rw [show hs4.take 4 = 1 :: [0, 2, 3] from rfl, List.filter_cons, if_pos (by rw [decide_eq_true (by omega)]), List.map_cons]
    · obtain ⟨n, hn, rfl⟩ := List.mem_map.1 hx
      have hn := List.mem_filter.1 hn
      exact s0 n (fun e => by subst e; simp at hn) (of_decide_eq_true hn.2)
  have e : optsH (findG c rs) = sortB befH (evN (findG c rs) 1 :: l) := by unfold optsH; rw [hl2]
  rw [e]
  refine ⟨by rw [sortB_len]; simp, ?_⟩
  rw [sortB_head fun x hx => ?_]
  · rw [s1]
    show [S (Lib.decDigits 1), .int .i64 1, .int .i64 0] = _
    rw [show Lib.decDigits 1 = [49] by decide +kernel]
  · unfold befH scO
    rw [s1, hl3 x hx]
    exact decide_eq_false (by simp only; omega)
/-! The dice's numbers are numeric, its words are names. -/
theorem nm_all : ∀ a, a < 5 → ∀ b, b < 40 → ∀ x ∈ [signL.getD a [] ++ itoaL b, (if notDig ((signL.getD a [] ++ itoaL b).getD 0 0) = true then signL.getD a [] ++ itoaL b else 48 :: (signL.getD a [] ++ itoaL b))],
    numB x = true ∧ ∀ f, f < 6 → numB (x ++ (46 :: fracsL.getD f [])) = true := by decide +kernel
theorem numM_num (t : List Int) (k : Nat) : numB (numM t k) = true := by
  obtain ⟨a, ha, ha2⟩ := pk_nat t k 5 (by omega)
  obtain ⟨b, hb, hb2⟩ := pk_nat t (k + 1) 40 (by omega)
  obtain ⟨f, hf, hf2⟩ := pk_nat t (k + 4) 6 (by omega)
  have h := nm_all a (by omega) b (by omega)
  have h2 : numB (num2 t k) = true ∧ ∀ f, f < 6 → numB (num2 t k ++ (46 :: fracsL.getD f [])) = true := by
    unfold num2 num1
    rw [ha, hb, Int.toNat_natCast, Int.toNat_natCast]
    by_cases e : pk t (k + 2) 3 = 0
    · rw [if_pos e]; exact h _ (by simp)
    · rw [if_neg e]; exact h _ (by simp)
  unfold numM
  by_cases e : pk t (k + 3) 3 = 0
  · rw [if_pos e, hf, Int.toNat_natCast]; exact h2.2 f (by omega)
  · rw [if_neg e]; exact h2.1
theorem word_name : ∀ i, i < 8 → nameB (wordsL.getD i []) = true ∧ (wordsL.getD i []).length ≤ 20 := by decide +kernel
def fRow (t : List Int) (num : Nat) : Nat → Nat → Nat → Row × Nat
  | 0, _, p => ([], p)
  | m + 1, k, p => if k = num then (numM t p :: (fRow t num m (k + 1) (numK t p)).1, (fRow t num m (k + 1) (numK t p)).2)
      else (wordsL.getD (pk t p 8).toNat [] :: (fRow t num m (k + 1) (p + 1)).1, (fRow t num m (k + 1) (p + 1)).2)
def fRows (t : List Int) (num c : Nat) : Nat → Nat → List Row × Nat
  | 0, p => ([], p)
  | m + 1, p => ((fRow t num c 0 p).1 :: (fRows t num c m (fRow t num c 0 p).2).1, (fRows t num c m (fRow t num c 0 p).2).2)
theorem fRow_ok (t : List Int) (num : Nat) : ∀ m k p, (fRow t num m k p).1.length = m ∧ (∀ j, j < m → (k + j = num → numB ((fRow t num m k p).1.getD j []) = true) ∧ (k + j ≠ num → nameB ((fRow t num m k p).1.getD j []) = true)) ∧ ∀ s ∈ (fRow t num m k p).1, s.length ≤ 20
  | 0, k, p => ⟨rfl, fun j hj => absurd hj (by omega), fun s hs => by cases hs⟩
  | m + 1, k, p => by
    rw [fRow]
    by_cases e : k = num
    · rw [if_pos e]
      have ih := fRow_ok t num m (k + 1) (numK t p)
      refine ⟨by rw [List.length_cons, ih.1], fun j hj => ?_, fun s hs => ?_⟩
      · rcases j with _ | j
        · exact ⟨fun _ => numM_num t p, fun h => absurd e h⟩
        · have := ih.2.1 j (by omega)
          rw [show k + 1 + j = k + (j + 1) by omega] at this
          simpa using this
      · rcases List.mem_cons.1 hs with q | hs
        · rw [q]; exact (numM_len t p).2
        · exact ih.2.2 s hs
    · rw [if_neg e]
      have ih := fRow_ok t num m (k + 1) (p + 1)
      obtain ⟨i, hi, hi2⟩ := pk_nat t p 8 (by omega)
      have wn := word_name i (by omega)
      rw [hi, Int.toNat_natCast]
      refine ⟨by rw [List.length_cons, ih.1], fun j hj => ?_, fun s hs => ?_⟩
      · rcases j with _ | j
        · exact ⟨fun h => absurd h e, fun _ => wn.1⟩
        · have := ih.2.1 j (by omega)
          rw [show k + 1 + j = k + (j + 1) by omega] at this
          simpa using this
      · rcases List.mem_cons.1 hs with q | hs
        · rw [q]; exact wn.2
        · exact ih.2.2 s hs
theorem fRow_data (t : List Int) {num c : Nat} (h : num < c) (p : Nat) : DataR c num (fRow t num c 0 p).1 := by
  have a := fRow_ok t num c 0 p
  refine ⟨a.1, (a.2.1 num h).1 (by omega), fun j hj hn => (a.2.1 j hj).2 (by omega), a.2.2⟩
theorem fRows_ok (t : List Int) {num c : Nat} (h : num < c) : ∀ m p, (fRows t num c m p).1.length = m ∧ ∀ r ∈ (fRows t num c m p).1, DataR c num r
  | 0, _ => ⟨rfl, fun r hr => by cases hr⟩
  | m + 1, p => by
    rw [fRows]
    have ih := fRows_ok t h m (fRow t num c 0 p).2
    refine ⟨by rw [List.length_cons, ih.1], fun r hr => ?_⟩
    rcases List.mem_cons.1 hr with e | hr
    · subst e; exact fRow_data t h p
    · exact ih.2 r hr
end Go.Proofs.YthbnileadffpiaaGreatDoor

namespace Go.Proofs.YthbnileadffpiaaGreatDoor
open Go Go.Proofs Go.Abs
variable {G : Globals}
/-! The law HeaderFinds. -/
theorem optC_best {l : List Opt} {a b c : D} (h : 1 ≤ l.length ∧ (l.getD 0 noO).cells = [a, b, c]) : (optC l).getD 0 .nilp = a ∧ (optC l).getD 1 .nilp = b ∧ (optC l).getD 2 .nilp = c ∧ 3 ≤ (optC l).length := by
  obtain ⟨h1, h2⟩ := h
  rcases l with _ | ⟨o, l⟩
  · simp at h1
  · have e : optC (o :: l) = o.cells ++ optC l := by simp [optC]
    have h2 : o.cells = [a, b, c] := h2
    rw [e, h2]
    exact ⟨rfl, rfl, rfl, by simp⟩
set_option maxHeartbeats 32000000 in
set_option maxRecDepth 100000 in
theorem hfinds_law (hG : Num.HG G) (hT : HT G) (hI : HI G) (t : List Int) (ht : OkS t) (hl : t.length ≤ 9223372036854775807) :
    Ctr Tryz.prog G 5 [.d (.sl t.length false (ints .u8 t))] [] (.d (.bool true)) [] := by
  refine Ctr.pure (M := M0) hmix Tryz.func5 rfl go5 ?_
  have hmm := ht.take
  simp (config := { maxSteps := 1000000 }) (disch := ((try simp only [awL]); omega)) only [QR, QS, QT, QU, QV, QW, QX, QY, QZ, Q0, Q1, Q2, Tryz.f5, ↓awU, awV, awF, Qa, Qb, Qc, Qd, forall_const, ↓reduceIte, ↓reduceDIte, ↓Qe, Qf, Qg, Qh, Qi, Qj, Qk, Ql, Qm, Qn, Qo, Qp, Qq, Qr, Qs, implies_true, Qt, Qu, Qv, Qw, Qx, Qy, Qz, QA, QB, QC, QD, QE, QF, QG, QH, QI, QJ, QK, QL, QM, QN, QO, QP, QQ]
  refine CallC.pure (hsane_spec hG hT hI) ?_
  simp (config := { maxSteps := 1000000 }) (disch := ((try simp only [awL]); omega)) only [QR, QS, QT, QU, QV, QW, QX, QY, QZ, Q0, Q1, Q2, ↓awU, awV, awF, Qa, Qb, Qc, Qd, forall_const, ↓reduceIte, ↓reduceDIte, ↓Qe, Qf, Qg, Qh, Qi, Qj, Qk, Ql, Qm, Qn, Qo, Qp, Qq, Qr, Qs, implies_true, Qt, Qu, Qv, Qw, Qx, Qy, Qz, QA, QB, QC, QD, QE, QF, QG, QH, QI, QJ, QK, QL, QM, QN, QO, QP, QQ]
  refine CallC.by (new_spec t hl) (by rfl) (by rfl) (Nat.zero_le _) ?_
  generalize t.take 300 = s at *
  obtain ⟨q, hq, hq2⟩ := pk_nat s 0 4 (by decide)
  simp (config := { maxSteps := 1000000 }) (disch := ((try simp only [awL]); omega)) only [QR, QS, QT, QU, QV, QW, QX, QY, QZ, Q0, Q1, Q2, ↓awU, awV, awF, Qa, Qb, Qc, Qd, forall_const, ↓reduceIte, ↓reduceDIte, ↓Qe, Qf, Qg, Qh, Qi, Qj, Qk, Ql, Qm, Qn, Qo, Qp, Qq, Qr, Qs, implies_true, Qt, Qu, Qv, Qw, Qx, Qy, Qz, QA, QB, QC, QD, QE, QF, QG, QH, QI, QJ, QK, QL, QM, QN, QO, QP, QQ]
  refine CallC.by (pick_spec s 0 4 hmm (by decide) (by decide)) (by rfl) (by rfl) (Nat.le_refl _) ?_
  rw [hq]
  have e1 : (1 : Int) + (q : Int) = ((1 + q : Nat) : Int) := by omega
  obtain ⟨c, hc⟩ : ∃ c, c = 1 + q := ⟨_, rfl⟩
  rw [← hc] at e1
  have c1 : 1 ≤ c := by omega
  have c4 : c ≤ 4 := by omega
  clear hc hq hq2
  simp (config := { maxSteps := 1000000 }) (disch := ((try simp only [awL]); omega)) only [QR, QS, QT, QU, QV, QW, QX, QY, QZ, Q0, Q1, Q2, e1, ↓awU, awV, awF, Qa, Qb, Qc, Qd, forall_const, ↓reduceIte, ↓reduceDIte, ↓Qe, Qf, Qg, Qh, Qi, Qj, Qk, Ql, Qm, Qn, Qo, Qp, Qq, Qr, Qs, implies_true, Qt, Qu, Qv, Qw, Qx, Qy, Qz, QA, QB, QC, QD, QE, QF, QG, QH, QI, QJ, QK, QL, QM, QN, QO, QP, QQ]
  refine CallC.by (pick_spec s 1 c hmm (by omega) (by omega)) (by rfl) (by rfl) (Nat.le_refl _) ?_
  obtain ⟨num, hn, hn2⟩ := pk_nat s 1 c (by omega)
  rw [hn]
  simp (config := { maxSteps := 1000000 }) (disch := ((try simp only [awL]); omega)) only [QR, QS, QT, QU, QV, QW, QX, QY, QZ, Q0, Q1, Q2, ↓awU, awV, awF, Qa, Qb, Qc, Qd, forall_const, ↓reduceIte, ↓reduceDIte, ↓Qe, Qf, Qg, Qh, Qi, Qj, Qk, Ql, Qm, Qn, Qo, Qp, Qq, Qr, Qs, implies_true, Qt, Qu, Qv, Qw, Qx, Qy, Qz, QA, QB, QC, QD, QE, QF, QG, QH, QI, QJ, QK, QL, QM, QN, QO, QP, QQ]
  refine CallC.by (pick_spec s 2 5 hmm (by decide) (by decide)) (by rfl) (by rfl) (Nat.le_refl _) ?_
  obtain ⟨m, hm, hm2⟩ := pk_nat s 2 5 (by decide)
  rw [hm]
  have e2 : (1 : Int) + (m : Int) = ((1 + m : Nat) : Int) := by omega
  have fok := fRows_ok s (num := num) (c := c) (by omega) (1 + m) 3
  obtain ⟨R, hR⟩ : ∃ R, R = findG c (fRows s num c (1 + m) 3).1 := ⟨_, rfl⟩
  have hF : FindG c num (fRows s num c (1 + m) 3).1 := ⟨c1, c4, by omega, fun e => by rw [e] at fok; have := fok.1; simp at this; omega, by rw [fok.1]; omega, fok.2⟩
  have best := hF.best
  have okR := hF.okG
  rw [← hR] at best okR
  clear hF fok
  have hR2 : R = [hdr5.take c] ++ (fRows s num c (1 + m) 3).1 := hR
  have hl1 := hdr_len (c := c) (by omega)
  have ch : cut [D.str ⟨#[110, 97, 109, 101]⟩, D.str ⟨#[99, 105, 116, 121]⟩, D.str ⟨#[115, 105, 122, 101]⟩, D.str ⟨#[100, 97, 116, 101]⟩, D.str ⟨#[107, 105, 110, 100]⟩] 0 c = strs (hdr5.take c) := by
    rcases (by omega : c = 1 ∨ c = 2 ∨ c = 3 ∨ c = 4) with h | h | h | h <;> subst h <;> rfl
  clear hn hm
  simp (config := { maxSteps := 1000000 }) (disch := ((try simp only [awL]); omega)) only [QR, QS, QT, QU, QV, QW, QX, QY, QZ, Q0, Q1, Q2, e2, ↓awU, awV, awF, Qa, Qb, Qc, Qd, forall_const, ↓reduceIte, ↓reduceDIte, ↓Qe, Qf, Qg, Qh, Qi, Qj, Qk, Ql, Qm, Qn, Qo, Qp, Qq, Qr, Qs, implies_true, Qt, Qu, Qv, Qw, Qx, Qy, Qz, QA, QB, QC, QD, QE, QF, QG, QH, QI, QJ, QK, QL, QM, QN, QO, QP, QQ]
  generalize 1 + m = m0 at *
  refine LoopC.fr 120 (α := List Row × Nat × Nat) (fun x => x.2.1) (fun x => [(7, .d (.int .i64 (x.2.1 : Nat)))]) (fun x => [DiceM s x.2.2, .dead, .row false (rowsD x.1), .box [.lsl 2 1 0 x.1.length]])
    (fun x => x.1.length + x.2.1 ≤ 6 ∧ R = x.1 ++ (fRows s num c x.2.1 x.2.2).1) ([hdr5.take c], m0, 3) ⟨by simp only [List.length_singleton]; omega, hR2⟩ ?_ ?_
  · refine ⟨[some 0, some 1, some 2, some 3], rfl, by simp, by simp [setsA, keepA, SWeak, AWeak], ?_⟩
    simp [HWeak, BWeak, SWeak, AWeak, rowsD, ch, hl1]
  · rintro ⟨acc, n, p⟩ ⟨h1, h2⟩
    simp only at h1 h2
    have al := @rowsD_length acc
    simp only [awK, Nat.reduceMod, Nat.reduceDiv, reduceIte]
    match n with
    | 0 =>
      simp only [fRows, List.append_nil] at h2
      subst h2
      have cu : cut (rowsD R) 0 R.length = rowsD R := cut_all al.symm
      simp (config := { maxSteps := 1000000 }) (disch := ((try simp only [awL]); omega)) only [QR, QS, QT, QU, QV, QW, QX, QY, QZ, Q0, Q1, Q2, ↓awU, awV, awF, Qa, Qb, Qc, Qd, forall_const, ↓reduceIte, ↓reduceDIte, ↓Qe, Qf, Qg, Qh, Qi, Qj, Qk, Ql, Qm, Qn, Qo, Qp, Qq, Qr, Qs, implies_true, Qt, Qu, Qv, Qw, Qx, Qy, Qz, QA, QB, QC, QD, QE, QF, QG, QH, QI, QJ, QK, QL, QM, QN, QO, QP, QQ]
      refine CallC.frozenE (hoptions_spec hG hI R false okR) (by rw [cu]) ?_
      obtain ⟨q0, q1, q2, q3⟩ := optC_best best
      have q4 : ((optsH R).length : Int) > 0 := by have := best.1; omega
      generalize optC (optsH R) = Q at *
      simp (config := { maxSteps := 1000000 }) (disch := ((try simp only [awL]); omega)) only [QR, QS, QT, QU, QV, QW, QX, QY, QZ, Q0, Q1, Q2, cu, q0, q1, q2, ↓awU, awV, awF, Qa, Qb, Qc, Qd, forall_const, ↓reduceIte, ↓reduceDIte, ↓Qe, Qf, Qg, Qh, Qi, Qj, Qk, Ql, Qm, Qn, Qo, Qp, Qq, Qr, Qs, implies_true, Qt, Qu, Qv, Qw, Qx, Qy, Qz, QA, QB, QC, QD, QE, QF, QG, QH, QI, QJ, QK, QL, QM, QN, QO, QP, QQ]
      first | done | rfl | trace_state
    | n + 1 =>
      simp (config := { maxSteps := 1000000 }) (disch := ((try simp only [awL]); omega)) only [QR, QS, QT, QU, QV, QW, QX, QY, QZ, Q0, Q1, Q2, ↓awU, awV, awF, Qa, Qb, Qc, Qd, forall_const, ↓reduceIte, ↓reduceDIte, ↓Qe, Qf, Qg, Qh, Qi, Qj, Qk, Ql, Qm, Qn, Qo, Qp, Qq, Qr, Qs, implies_true, Qt, Qu, Qv, Qw, Qx, Qy, Qz, QA, QB, QC, QD, QE, QF, QG, QH, QI, QJ, QK, QL, QM, QN, QO, QP, QQ]
      obtain ⟨row0, hrow⟩ : ∃ x, x = fRow s num c 0 p := ⟨_, rfl⟩
      simp only [fRows, ← hrow] at h2
      refine LoopC.fr 248 (α := Row × Nat × Nat) (fun x => c - x.2.1) (fun x => [(8, .lsl 4 1 0 x.1.length), (9, .d (.int .i64 (x.2.1 : Nat)))]) (fun x => [DiceM s x.2.2, .dead, .row false (rowsD acc), .box [.lsl 2 1 0 acc.length], .row false (strs x.1)])
        (fun x => x.2.1 ≤ c ∧ x.1.length = x.2.1 ∧ row0 = (x.1 ++ (fRow s num (c - x.2.1) x.2.1 x.2.2).1, (fRow s num (c - x.2.1) x.2.1 x.2.2).2)) ([], 0, p) ⟨Nat.zero_le _, rfl, by simpa using hrow⟩ ?_ ?_
      · exact ⟨[some 0, some 1, some 2, some 3, none], rfl, by simp, by simp [setsA, keepA, SWeak, AWeak], by simp [HWeak, BWeak, SWeak, AWeak, strs]⟩
      · rintro ⟨ro, k, p2⟩ ⟨j0, j1, j2⟩
        simp only at j0 j1 j2
        have sl := @strs_length ro
        simp only [awK, Nat.reduceMod, Nat.reduceDiv, reduceIte]
        rcases Nat.lt_or_ge k c with h | h
        · obtain ⟨d, hd⟩ : ∃ d, c - k = d + 1 := ⟨c - k - 1, by omega⟩
          have hd2 : c - (k + 1) = d := by omega
          rw [hd, fRow] at j2
          by_cases e : k = num
          · rw [if_pos e] at j2
            have sp := @strs_push ro (numM s p2)
            have tl : (ro ++ [numM s p2]).length = ro.length + 1 := by simp
            simp (config := { maxSteps := 1000000 }) (disch := ((try simp only [awL]); omega)) only [QR, QS, QT, QU, QV, QW, QX, QY, QZ, Q0, Q1, Q2, ↓awU, awV, awF, Qa, Qb, Qc, Qd, forall_const, ↓reduceIte, ↓reduceDIte, ↓Qe, Qf, Qg, Qh, Qi, Qj, Qk, Ql, Qm, Qn, Qo, Qp, Qq, Qr, Qs, implies_true, Qt, Qu, Qv, Qw, Qx, Qy, Qz, QA, QB, QC, QD, QE, QF, QG, QH, QI, QJ, QK, QL, QM, QN, QO, QP, QQ]
            refine CallC.by (number_spec s p2 hmm) (by rfl) (by rfl) (Nat.le_refl _) ?_
            have j3 : row0 = ((ro ++ [numM s p2]) ++ (fRow s num (c - (k + 1)) (k + 1) (numK s p2)).1, (fRow s num (c - (k + 1)) (k + 1) (numK s p2)).2) := by rw [hd2, j2]; simp
            generalize numK s p2 = p3 at *
            generalize ro ++ [numM s p2] = ro2 at *
            generalize numM s p2 = x at *
            simp (config := { maxSteps := 1000000 }) (disch := ((try simp only [awL]); omega)) only [QR, QS, QT, QU, QV, QW, QX, QY, QZ, Q0, Q1, Q2, sl, sp, ↓awU, awV, awF, Qa, Qb, Qc, Qd, forall_const, ↓reduceIte, ↓reduceDIte, ↓Qe, Qf, Qg, Qh, Qi, Qj, Qk, Ql, Qm, Qn, Qo, Qp, Qq, Qr, Qs, implies_true, Qt, Qu, Qv, Qw, Qx, Qy, Qz, QA, QB, QC, QD, QE, QF, QG, QH, QI, QJ, QK, QL, QM, QN, QO, QP, QQ]
            first
            | exact ⟨(ro2, k + 1, p3), ⟨h, by simp only; omega, j3⟩, by simp only; omega, ⟨[some 0, some 1, some 2, some 3, some 6], rfl, by simp, by simp [setsA, keepA, SWeak, AWeak, tl], by simp [HWeak, BWeak, SWeak, AWeak, tl]⟩⟩
          · rw [if_neg e] at j2
            obtain ⟨i, hi, hi2⟩ := pk_nat s p2 8 (by decide)
            rw [hi, Int.toNat_natCast] at j2
            have wl : wordsL.length = 16 := rfl
            have wsl : (strs wordsL).length = 16 := rfl
            have wg := strs_getD (l := wordsL) (i := i) (by omega)
            have sp := @strs_push ro (wordsL.getD i [])
            have tl : (ro ++ [wordsL.getD i []]).length = ro.length + 1 := by simp
            simp (config := { maxSteps := 1000000 }) (disch := ((try simp only [awL]); omega)) only [QR, QS, QT, QU, QV, QW, QX, QY, QZ, Q0, Q1, Q2, ↓awU, awV, awF, Qa, Qb, Qc, Qd, forall_const, ↓reduceIte, ↓reduceDIte, ↓Qe, Qf, Qg, Qh, Qi, Qj, Qk, Ql, Qm, Qn, Qo, Qp, Qq, Qr, Qs, implies_true, Qt, Qu, Qv, Qw, Qx, Qy, Qz, QA, QB, QC, QD, QE, QF, QG, QH, QI, QJ, QK, QL, QM, QN, QO, QP, QQ]
            refine CallC.of words_spec (by rfl) ?_
            simp (config := { maxSteps := 1000000 }) (disch := ((try simp only [awL]); omega)) only [QR, QS, QT, QU, QV, QW, QX, QY, QZ, Q0, Q1, Q2, ↓awU, awV, awF, Qa, Qb, Qc, Qd, forall_const, ↓reduceIte, ↓reduceDIte, ↓Qe, Qf, Qg, Qh, Qi, Qj, Qk, Ql, Qm, Qn, Qo, Qp, Qq, Qr, Qs, implies_true, Qt, Qu, Qv, Qw, Qx, Qy, Qz, QA, QB, QC, QD, QE, QF, QG, QH, QI, QJ, QK, QL, QM, QN, QO, QP, QQ]
            refine CallC.by (pick_spec s p2 8 hmm (by decide) (by decide)) (by rfl) (by rfl) (Nat.le_refl _) ?_
            rw [hi]
            have j3 : row0 = ((ro ++ [wordsL.getD i []]) ++ (fRow s num (c - (k + 1)) (k + 1) (p2 + 1)).1, (fRow s num (c - (k + 1)) (k + 1) (p2 + 1)).2) := by rw [hd2, j2]; simp
            generalize ro ++ [wordsL.getD i []] = ro2 at *
            generalize wordsL.getD i [] = x at *
            simp (config := { maxSteps := 1000000 }) (disch := ((try simp only [awL]); omega)) only [QR, QS, QT, QU, QV, QW, QX, QY, QZ, Q0, Q1, Q2, sl, wl, wsl, wg, sp, ↓awU, awV, awF, Qa, Qb, Qc, Qd, forall_const, ↓reduceIte, ↓reduceDIte, ↓Qe, Qf, Qg, Qh, Qi, Qj, Qk, Ql, Qm, Qn, Qo, Qp, Qq, Qr, Qs, implies_true, Qt, Qu, Qv, Qw, Qx, Qy, Qz, QA, QB, QC, QD, QE, QF, QG, QH, QI, QJ, QK, QL, QM, QN, QO, QP, QQ]
            first
            | exact ⟨(ro2, k + 1, p2 + 1), ⟨h, by simp only; omega, j3⟩, by simp only; omega, ⟨[some 0, some 1, some 2, some 3, some 6], rfl, by simp, by simp [setsA, keepA, SWeak, AWeak, tl], by simp [HWeak, BWeak, SWeak, AWeak, tl]⟩⟩
        · have e : k = c := by omega
          subst e
          have cu : cut (strs ro) 0 (List.length ro) = strs ro := cut_all (by omega)
          have sp := @rowsD_push acc ro
          have tl : (acc ++ [ro]).length = acc.length + 1 := by simp
          have h3 : R = (acc ++ [ro]) ++ (fRows s num k n p2).1 := by
            rw [h2, j2]; simp [fRow]
          generalize acc ++ [ro] = acc2 at *
          simp (config := { maxSteps := 1000000 }) (disch := ((try simp only [awL]); omega)) only [QR, QS, QT, QU, QV, QW, QX, QY, QZ, Q0, Q1, Q2, cu, al, sl, sp, ↓awU, awV, awF, Qa, Qb, Qc, Qd, forall_const, ↓reduceIte, ↓reduceDIte, ↓Qe, Qf, Qg, Qh, Qi, Qj, Qk, Ql, Qm, Qn, Qo, Qp, Qq, Qr, Qs, implies_true, Qt, Qu, Qv, Qw, Qx, Qy, Qz, QA, QB, QC, QD, QE, QF, QG, QH, QI, QJ, QK, QL, QM, QN, QO, QP, QQ]
          first
          | exact ⟨(acc2, n, p2), ⟨by simp only; omega, h3⟩, by simp only; omega, ⟨[some 0, some 1, some 6, some 3], rfl, by simp, by simp [setsA, keepA, SWeak, AWeak], by simp [HWeak, BWeak, SWeak, AWeak, tl]⟩⟩
end Go.Proofs.YthbnileadffpiaaGreatDoor
