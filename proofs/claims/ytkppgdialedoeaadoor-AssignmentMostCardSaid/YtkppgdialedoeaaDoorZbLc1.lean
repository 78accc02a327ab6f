/-
  Contracts of the functions, one after another.
-/
import Derived.Test.YtkppgdialedoeaaDoorMb3
set_option linter.all false
namespace Go.Proofs.YtkppgdialedoeaaDoor
open Go Go.Proofs Go.Abs
/-! The best assignment is one, has the best weight, and none is heavier. -/
def tot : List (List Rat) → List Int → Rat
  | r :: rs, k :: l => (if 0 ≤ k then r.getD k.toNat 0 else 0) + tot rs l
  | _, _ => 0
def feas : List (List Rat) → Nat → List Int → Prop
  | [], _, [] => True
  | r :: rs, u, k :: l => (k = -1 ∧ feas rs u l) ∨ ∃ c : Nat, k = (c : Int) ∧ c < r.length ∧ ¬ u.testBit c = true ∧ feas rs (u ||| 2 ^ c) l
  | _, _, _ => False
def Nonneg (w : List (List Rat)) : Prop := ∀ r ∈ w, ∀ x ∈ r, 0 ≤ x
theorem rle_add {a b c : Rat} (h : a ≤ b) : c + a ≤ c + b := Rat.add_le_add_left.2 h
theorem rnot {a b : Rat} (h : ¬ a < b) : b ≤ a := Rat.not_lt.1 h
theorem bit_or {u k j : Nat} : (u ||| 2 ^ k).testBit j = (u.testBit j || decide (k = j)) := by
  rw [Nat.testBit_or, Nat.testBit_two_pow]
abbrev blocked (r : List Rat) (u k : Nat) : Prop := u.testBit k = true ∨ r.getD k 0 = 0
theorem bstep_le {f : Nat → Rat} {r : List Rat} {u k : Nat} {b : Rat} : b ≤ bstep f r u k b := by
  unfold bstep
  split
  · exact Rat.le_refl
  · split
    · rename_i h; exact Rat.le_of_lt h
    · exact Rat.le_refl
theorem bloop_le {f : Nat → Rat} {r : List Rat} {u : Nat} {b : Rat} : ∀ n, b ≤ bloop f r u b n
  | 0 => Rat.le_refl
  | n + 1 => Rat.le_trans (bloop_le n) bstep_le
theorem bloop_mono {f : Nat → Rat} {r : List Rat} {u : Nat} {b : Rat} {k : Nat} : ∀ {n}, k ≤ n → bloop f r u b k ≤ bloop f r u b n
  | 0, h => by have : k = 0 := by omega
               subst this; exact Rat.le_refl
  | n + 1, h => by
    by_cases e : k = n + 1
    · subst e; exact Rat.le_refl
    · exact Rat.le_trans (bloop_mono (by omega)) bstep_le
theorem bstep_ge {f : Nat → Rat} {r : List Rat} {u k : Nat} {b : Rat} (h : ¬ blocked r u k) : r.getD k 0 + f (u ||| 2 ^ k) ≤ bstep f r u k b := by
  unfold bstep
  rw [if_neg h]
  split
  · exact Rat.le_refl
  · rename_i h2; exact rnot h2
theorem bloop_ge {f : Nat → Rat} {r : List Rat} {u : Nat} {b : Rat} {k n : Nat} (hk : k < n) (h : ¬ blocked r u k) : r.getD k 0 + f (u ||| 2 ^ k) ≤ bloop f r u b n :=
  Rat.le_trans (bstep_ge (b := bloop f r u b k) h) (bloop_mono (k := k + 1) hk)
theorem bloop_hit {f : Nat → Rat} {r : List Rat} {u : Nat} {b : Rat} : ∀ n, bloop f r u b n = b ∨ ∃ k, k < n ∧ ¬ blocked r u k ∧ bloop f r u b n = r.getD k 0 + f (u ||| 2 ^ k)
  | 0 => .inl rfl
  | n + 1 => by
    have ih := bloop_hit (f := f) (r := r) (u := u) (b := b) n
    have up : (bloop f r u b n = b ∨ ∃ k, k < n ∧ ¬ blocked r u k ∧ bloop f r u b n = r.getD k 0 + f (u ||| 2 ^ k)) → bloop f r u b n = b ∨ ∃ k, k < n + 1 ∧ ¬ blocked r u k ∧ bloop f r u b n = r.getD k 0 + f (u ||| 2 ^ k) := by
      rintro (h | ⟨k, a, c, d⟩)
      · exact .inl h
      · exact .inr ⟨k, by omega, c, d⟩
    simp only [bloop, bstep]
    split
    · exact up ih
    · rename_i h
      split
      · exact .inr ⟨n, Nat.lt_succ_self _, h, rfl⟩
      · exact up ih
theorem bst_anti : ∀ (rs : List (List Rat)) (u u' : Nat), (∀ j, u.testBit j = true → u'.testBit j = true) → bst rs u' ≤ bst rs u
  | [], _, _, _ => Rat.le_refl
  | r :: rs, u, u', h => by
    have ih := bst_anti rs
    simp only [bst]
    rcases bloop_hit (f := bst rs) (r := r) (u := u') (b := bst rs u') r.length with e | ⟨k, hk, hb, e⟩
    · rw [e]; exact Rat.le_trans (ih u u' h) (bloop_le _)
    · rw [e]
      have hb2 : ¬ blocked r u k := fun h2 => hb (h2.elim (fun h3 => .inl (h k h3)) .inr)
      refine Rat.le_trans (rle_add (ih (u ||| 2 ^ k) (u' ||| 2 ^ k) fun j hj => ?_)) (bloop_ge hk hb2)
      rw [bit_or] at hj ⊢
      rcases (Bool.or_eq_true _ _).mp hj with h1 | h1
      · rw [h j h1, Bool.true_or]
      · rw [h1, Bool.or_true]
theorem bst_take (rs : List (List Rat)) (u c : Nat) : bst rs (u ||| 2 ^ c) ≤ bst rs u := bst_anti rs u _ fun j hj => by rw [bit_or, hj, Bool.true_or]
theorem tot_le : ∀ (w : List (List Rat)) (u : Nat) (l : List Int), feas w u l → tot w l ≤ bst w u
  | [], _, [], _ => Rat.le_refl
  | [], _, _ :: _, h => h.elim
  | _ :: _, _, [], h => h.elim
  | r :: rs, u, k :: l, h => by
    simp only [feas] at h
    simp only [tot, bst]
    rcases h with ⟨rfl, h⟩ | ⟨c, rfl, hc, hu, h⟩
    · rw [if_neg (by decide), Rat.zero_add]
      exact Rat.le_trans (tot_le rs u l h) (bloop_le _)
    · rw [if_pos (by omega), Int.toNat_natCast]
      have ih := tot_le rs _ l h
      by_cases h0 : r.getD c 0 = 0
      · rw [h0, Rat.zero_add]
        exact Rat.le_trans ih (Rat.le_trans (bst_take rs u c) (bloop_le _))
      · exact Rat.le_trans (rle_add ih) (bloop_ge hc (fun hb => hb.elim hu h0))
theorem firstK_none {f : Nat → Rat} {r : List Rat} {u : Nat} {b : Rat} : ∀ {n k : Nat}, firstK f r u b k n = none → ∀ j, k ≤ j → j < k + n → ¬ okK f r u j b
  | 0, k, _, j, h1, h2 => by omega
  | n + 1, k, h, j, h1, h2 => by
    simp only [firstK] at h
    split at h
    · cases h
    · rename_i hno
      by_cases e : j = k
      · subst e; exact hno
      · exact firstK_none h j (by omega) (by omega)
/-- No weight that is taken is 0. -/
def taken : List (List Rat) → List Int → Prop
  | r :: rs, k :: l => (0 ≤ k → ¬ r.getD k.toNat 0 = 0) ∧ taken rs l
  | _, _ => True
theorem bestL_ok : ∀ (w : List (List Rat)) (u : Nat), feas w u (bestL w u) ∧ tot w (bestL w u) = bst w u ∧ taken w (bestL w u)
  | [], _ => ⟨trivial, rfl, trivial⟩
  | r :: rs, u => by
    simp only [bestL]
    cases h : firstK (bst rs) r u (bst (r :: rs) u) 0 r.length with
    | some k =>
      obtain ⟨_, h2, h3, h4, h5⟩ := firstK_lt h
      obtain ⟨i1, i2, i3⟩ := bestL_ok rs (u ||| 2 ^ k)
      refine ⟨.inr ⟨k, rfl, by omega, h3, i1⟩, ?_, fun _ => by rw [Int.toNat_natCast]; exact h4, i3⟩
      simp only [tot]
      rw [if_pos (by omega), Int.toNat_natCast, i2, h5]
    | none =>
      obtain ⟨i1, i2, i3⟩ := bestL_ok rs u
      refine ⟨.inl ⟨rfl, i1⟩, ?_, fun h => by omega, i3⟩
      simp only [tot]
      rw [if_neg (by decide), Rat.zero_add, i2]
      have hn := firstK_none h
      simp only [bst] at hn ⊢
      rcases bloop_hit (f := bst rs) (r := r) (u := u) (b := bst rs u) r.length with e | ⟨k, hk, hb, e⟩
      · exact e.symm
      · exact absurd ⟨fun h => hb (.inl h), fun h => hb (.inr h), e.symm⟩ (hn k (Nat.zero_le _) (by omega))
/-- The places of a list of columns, as a whole. -/
def plain (w : List (List Rat)) (u : Nat) (l : List Int) : Prop :=
  l.length = w.length ∧ (∀ i, i < l.length → -1 ≤ l.getD i 0 ∧ l.getD i 0 < ((w.getD i []).length : Nat)) ∧ (∀ i, i < l.length → 0 ≤ l.getD i 0 → ¬ u.testBit (l.getD i 0).toNat = true) ∧
    ∀ j, j < l.length → 0 ≤ l.getD j 0 → ∀ i, i < j → l.getD i 0 ≠ l.getD j 0
theorem feas_plain : ∀ (w : List (List Rat)) (u : Nat) (l : List Int), feas w u l ↔ plain w u l
  | [], u, [] => ⟨fun _ => ⟨rfl, by simp, by simp, by simp⟩, fun _ => trivial⟩
  | [], u, _ :: _ => ⟨fun h => h.elim, fun h => by have := h.1; simp at this⟩
  | _ :: _, u, [] => ⟨fun h => h.elim, fun h => by have := h.1; simp at this⟩
  | r :: rs, u, k :: l => by
    constructor
    · intro h
      simp only [feas] at h
      rcases h with ⟨rfl, h⟩ | ⟨c, rfl, hc, hu, h⟩
      · obtain ⟨p1, p2, p3, p4⟩ := (feas_plain rs u l).1 h
        refine ⟨by simp [p1], fun i hi => ?_, fun i hi h0 => ?_, fun j hj h0 i hij => ?_⟩
        · rcases i with _ | i
          · simp; omega
          · simpa using p2 i (by simpa using hi)
        · rcases i with _ | i
          · simp at h0
          · exact p3 i (by simpa using hi) (by simpa using h0)
        · rcases j with _ | j
          · omega
          · rcases i with _ | i
            · simp at h0 ⊢; omega
            · simpa using p4 j (by simpa using hj) (by simpa using h0) i (by omega)
      · obtain ⟨p1, p2, p3, p4⟩ := (feas_plain rs _ l).1 h
        refine ⟨by simp [p1], fun i hi => ?_, fun i hi h0 => ?_, fun j hj h0 i hij => ?_⟩
        · rcases i with _ | i
          · simp; omega
          · simpa using p2 i (by simpa using hi)
        · rcases i with _ | i
          · simp only [List.getD_cons_zero, Int.toNat_natCast]; exact hu
          · have := p3 i (by simpa using hi) (by simpa using h0)
            rw [bit_or] at this
            simp only [Bool.or_eq_true, not_or] at this
            exact this.1
        · rcases j with _ | j
          · omega
          · rcases i with _ | i
            · have := p3 j (by simpa using hj) (by simpa using h0)
              rw [bit_or] at this
              simp only [Bool.or_eq_true, not_or, decide_eq_true_eq] at this
              simp only [List.getD_cons_zero, List.getD_cons_succ] at h0 ⊢
              intro e
              exact this.2 (by omega)
            · simpa using p4 j (by simpa using hj) (by simpa using h0) i (by omega)
    · rintro ⟨p1, p2, p3, p4⟩
      have hk := p2 0 (by simp)
      simp only [List.getD_cons_zero] at hk
      simp only [feas]
      have rest : ∀ v, (∀ i, i < l.length → 0 ≤ l.getD i 0 → ¬ v.testBit (l.getD i 0).toNat = true) → feas rs v l := fun v hv =>
        (feas_plain rs v l).2 ⟨by simpa using p1, fun i hi => by simpa using p2 (i + 1) (by simpa using hi), hv,
          fun j hj h0 i hij => by simpa using p4 (j + 1) (by simpa using hj) (by simpa using h0) (i + 1) (by omega)⟩
      by_cases h0 : 0 ≤ k
      · obtain ⟨c, rfl⟩ : ∃ c : Nat, k = c := ⟨k.toNat, by omega⟩
        have hu := p3 0 (by simp) (by simpa using h0)
        simp only [List.getD_cons_zero, Int.toNat_natCast] at hu
        refine .inr ⟨c, rfl, by omega, hu, rest _ fun i hi h1 => ?_⟩
        have q1 := p3 (i + 1) (by simpa using hi) (by simpa using h1)
        have q2 := p4 (i + 1) (by simpa using hi) (by simpa using h1) 0 (by omega)
        simp only [List.getD_cons_zero, List.getD_cons_succ] at q1 q2
        rw [bit_or]
        simp only [Bool.or_eq_true, not_or, decide_eq_true_eq]
        exact ⟨q1, fun e => q2 (by omega)⟩
      · exact .inl ⟨by omega, rest u fun i hi h1 => by simpa using p3 (i + 1) (by simpa using hi) (by simpa using h1)⟩
theorem sumW_cons {r : List Rat} {rs : List (List Rat)} {k : Int} {l : List Int} : ∀ n, sumW (r :: rs) (k :: l) (n + 1) = lEnt (r :: rs) (k :: l) 0 + sumW rs l n
  | 0 => by simp only [sumW]; rw [Rat.zero_add, Rat.add_zero]
  | n + 1 => by
    rw [sumW, sumW_cons n, sumW, Rat.add_assoc]
    rfl
theorem sumW_tot : ∀ (w : List (List Rat)) (l : List Int), l.length = w.length → sumW w l l.length = tot w l
  | [], [], _ => rfl
  | [], _ :: _, h => by simp at h
  | _ :: _, [], h => by simp at h
  | r :: rs, k :: l, h => by
    rw [List.length_cons, sumW_cons, sumW_tot rs l (by simpa using h)]
    rfl
theorem not_zero (w : List (List Rat)) : ∀ (l : List Int) (i : Nat), l.length = w.length → taken w l → i < l.length → 0 ≤ l.getD i 0 → ¬ (w.getD i []).getD (l.getD i 0).toNat 0 = 0 := by
  induction w with
  | nil => intro l i hl _ hi; rw [hl] at hi; simp at hi
  | cons r rs ih =>
    intro l i hl ht hi h0
    cases l with
    | nil => simp at hl
    | cons k l =>
      simp only [taken] at ht
      rcases i with _ | i
      · exact ht.1 h0
      · exact ih l i (by simpa using hl) ht.2 (by simpa using hi) h0
/-- What is said of the best assignment: its weight is told, and no other is heavier. -/
theorem best_weight {w : List (List Rat)} (hv : validE w = 0) : weightR w (bestL w 0) = .tup [Frac (bst w 0), .int .i64 0] := by
  obtain ⟨f, t, _⟩ := bestL_ok w 0
  obtain ⟨p1, p2, p3, p4⟩ := (feas_plain w 0 _).1 f
  rw [wr_e hv p1 (not_bad p2) (no_dup p4), sumW_tot w _ p1, t]
theorem best_most {w : List (List Rat)} {l : List Int} : (∃ d : Int × Int, weightR w l = .tup [FracI d.1 d.2, .int .i64 0] ∧ ∃ s, FracI d.1 d.2 = Frac s ∧ s = sumW w l l.length ∧ s ≤ bst w 0) ∨ ∃ e, e ≠ 0 ∧ ∃ n d, weightR w l = .tup [FracI n d, .int .i64 e] ∧ n = 0 ∧ d = 0 := by
  by_cases hv : validE w = 0
  · by_cases h1 : l.length = w.length
    · by_cases h2 : badE w l
      · exact .inr ⟨2, by decide, 0, 0, by rw [wr_c hv h1 h2, Zf_I], rfl, rfl⟩
      · by_cases h3 : dupE l
        · exact .inr ⟨6, by decide, 0, 0, by rw [wr_d hv h1 h2 h3, Zf_I], rfl, rfl⟩
        · left
          have hp : plain w 0 l := by
            refine ⟨h1, fun i hi => ?_, fun i hi h0 => by simp, fun j hj h0 i hij he => h3 ⟨j, hj, i, hij, h0, he⟩⟩
            by_cases h4 : l.getD i 0 < -1 ∨ (((w.getD i []).length : Nat) : Int) ≤ l.getD i 0
            · exact absurd ⟨i, hi, h4⟩ h2
            · omega
          refine ⟨((sumW w l l.length).num, (sumW w l l.length).den), by rw [wr_e hv h1 h2 h3, Frac_I], _, (Frac_I _).symm, rfl, ?_⟩
          rw [sumW_tot w l h1]
          exact tot_le w 0 l ((feas_plain w 0 l).2 hp)
    · exact .inr ⟨1, by decide, 0, 0, by rw [wr_b hv h1, Zf_I], rfl, rfl⟩
  · exact .inr ⟨validE w, hv, 0, 0, by rw [wr_a hv, Zf_I], rfl, rfl⟩
end Go.Proofs.YtkppgdialedoeaaDoor

namespace Go.Proofs.YtkppgdialedoeaaDoor
open Go Go.Proofs Go.Abs
variable {G : Globals}
/-- All lists of columns, or none, for so many rows. -/
def allL (c : Nat) : Nat → List (List Int)
  | 0 => [[]]
  | n + 1 => (allL c n).flatMap fun a => (List.range (c + 1)).map fun k : Nat => a ++ [(k : Int) - 1]
theorem allL_ok {c : Nat} : ∀ {n : Nat} {a : List Int}, a ∈ allL c n → a.length = n ∧ ∀ k ∈ a, -1 ≤ k ∧ k ≤ c
  | 0, a, h => by simp [allL] at h; subst h; simp
  | n + 1, a, h => by
    simp only [allL, List.mem_flatMap, List.mem_map, List.mem_range] at h
    obtain ⟨b, hb, k, hk, rfl⟩ := h
    obtain ⟨h1, h2⟩ := allL_ok hb
    refine ⟨by simp [h1], fun x hx => ?_⟩
    rcases List.mem_append.1 hx with hx | hx
    · exact h2 x hx
    · simp at hx; subst hx; omega
theorem allL_len {c : Nat} : ∀ n : Nat, (allL c n).length = (c + 1) ^ n
  | 0 => rfl
  | n + 1 => by
    have gen : ∀ l : List (List Int), (l.flatMap fun a => (List.range (c + 1)).map fun k : Nat => a ++ [(k : Int) - 1]).length = l.length * (c + 1) := by
      intro l
      induction l with
      | nil => simp
      | cons x l ih => simp [List.flatMap_cons, ih, Nat.add_mul, Nat.add_comm]
    simp only [allL]
    rw [gen, allL_len n, Nat.pow_succ]
/-- Lists of lists of ints. -/
def LL (l : List (List Int)) : List D := l.map fun a => .sl a.length false (ints .i64 a)
theorem LL_length {l : List (List Int)} : (LL l).length = l.length := by simp [LL]
theorem LL_get {l : List (List Int)} {i : Nat} {d : D} (h : i < l.length) : (LL l).getD i d = .sl (l.getD i []).length false (ints .i64 (l.getD i [])) := by
  simp [LL, List.getD_eq_getElem?_getD, List.getElem?_map, List.getElem?_eq_getElem h]
theorem LL_push {l : List (List Int)} {a : List Int} {n : Nat} (h : n = a.length) : LL l ++ [.sl n false (ints .i64 a)] = LL (l ++ [a]) := by subst h; simp [LL]
theorem LL_one : [D.sl 0 false []] = LL [[]] := rfl
theorem OkI.of {l : List Int} (h : ∀ k ∈ l, -1000 ≤ k ∧ k ≤ 1000) : OkI l := by
  intro i
  rcases Nat.lt_or_ge i l.length with hi | hi
  · have := h _ (mem_getD (d := 0) hi); omega
  · rw [List.getD_eq_getElem?_getD, List.getElem?_eq_none hi]; simp
theorem matW_valid {t : List Int} {k r c : Nat} (hr : r ≤ 8) (hc : c ≤ 8) : validE (matW t k r c) = 0 := by
  have hrow : ∀ i, i < r → (matW t k r c).getD i [] = rowW t (k + 2 * c * i) c := fun i hi => by
    simp [matW, List.getD_eq_getElem?_getD, List.getElem?_map, List.getElem?_range hi]
  have hlen : ∀ i, i < (matW t k r c).length → ((matW t k r c).getD i []).length = c := fun i hi => by
    rw [hrow i (by rwa [matW_length] at hi), rowW_length]
  refine ve_e (side8_of (by rw [matW_length]; omega) (fun i hi => by rw [hlen i hi]; exact hc)) (sameL_of fun i hi => by rw [hlen i hi, hlen 0 (by omega)]) (fun i hi j hj => ?_)
  rw [hlen i hi] at hj
  rw [hrow i (by rwa [matW_length] at hi)]
  have : (rowW t (k + 2 * c * i) c).getD j 0 = ent t (k + 2 * c * i + 2 * j) := by
    simp [rowW, List.getD_eq_getElem?_getD, List.getElem?_map, List.getElem?_range hj]
  rw [this]
  exact Rat.not_lt.2 ent_Sm.2
theorem bestL_small {w : List (List Rat)} (hr : ∀ i, (w.getD i []).length ≤ 8) : ∀ k ∈ bestL w 0, -1000 ≤ k ∧ k ≤ 1000 := by
  obtain ⟨f, _, _⟩ := bestL_ok w 0
  obtain ⟨p1, p2, _, _⟩ := (feas_plain w 0 _).1 f
  intro k hk
  obtain ⟨i, hi, rfl⟩ := getD_of_mem (d := 0) hk
  have := p2 i hi
  have := hr i
  omega
def extL (c : Nat) (a : List Int) (q : Nat) : List (List Int) := (List.range q).map fun k : Nat => a ++ [(k : Int) - 1]
theorem extL_push {c q : Nat} {a : List Int} : extL c a q ++ [a ++ [(q : Int) - 1]] = extL c a (q + 1) := by simp [extL, List.range_succ]
def nextL (c : Nat) (l : List (List Int)) (j : Nat) : List (List Int) := (l.take j).flatMap fun a => extL c a (c + 1)
theorem nextL_push {c j : Nat} {l : List (List Int)} (h : j < l.length) : nextL c l j ++ extL c (l.getD j []) (c + 1) = nextL c l (j + 1) := by
  unfold nextL
  rw [List.take_add_one, List.getElem?_eq_getElem h, List.flatMap_append]
  simp [List.getD_eq_getElem?_getD, List.getElem?_eq_getElem h]
theorem nextL_all {c n : Nat} : nextL c (allL c n) (allL c n).length = allL c (n + 1) := by
  rw [nextL, List.take_of_length_le (Nat.le_refl _)]; rfl
theorem extL_length {c q : Nat} {a : List Int} : (extL c a q).length = q := by simp [extL]
theorem nextL_length {c : Nat} {l : List (List Int)} : ∀ {j : Nat}, j ≤ l.length → (nextL c l j).length = j * (c + 1)
  | 0, _ => by simp [nextL]
  | j + 1, h => by
    rw [← nextL_push (by omega), List.length_append, nextL_length (by omega), extL_length, Nat.add_mul]; omega
theorem allL_bound {c n : Nat} (hc : c ≤ 8) (hn : n ≤ 8) : (allL c n).length ≤ 43046721 := by
  rw [allL_len]
  calc (c + 1) ^ n ≤ 9 ^ n := Nat.pow_le_pow_left (by omega) n
    _ ≤ 9 ^ 8 := Nat.pow_le_pow_right (by decide) hn
theorem getD_mem_all {c n j : Nat} (h : j < (allL c n).length) : ((allL c n).getD j []).length = n ∧ ∀ k ∈ (allL c n).getD j [], -1 ≤ k ∧ k ≤ c := allL_ok (mem_getD h)
set_option maxHeartbeats 8000000 in
set_option maxRecDepth 100000 in
theorem most_law (hG : HG G) (t : List Int) (ht : OkI t) : Ctr Tryd.prog G 8 [.d (.sl t.length false (ints .i64 t))] [] (.d (.bool true)) [] := by
  refine Ctr.pure (M := M0) hmix Tryd.func8 rfl go8 ?_
  simp (config := { maxSteps := 1000000 }) (disch := ((try simp only [awL]); omega)) only [Tryd.f8, ↓awU, awV, awF, ofVal, ofVal0, isShift, aggK, forall_const, ↓reduceIte, ↓reduceDIte, ↓purePost, combine, idsA, cellsA, srcA, calleeA, refsA, isScalar, scalarD, scalar0, AV.one, putL, unfA, implies_true, IntKind.signed, Nat.reduceAdd, Nat.reduceSub, Nat.reduceMul, Nat.reducePow, Nat.reduceDiv, Nat.reduceMod, Int.reduceAdd, Int.reduceSub, Int.reduceMul, Int.reducePow, Int.reduceNeg, Int.reduceToNat, Int.reduceLT, Int.reduceLE, Nat.reduceEqDiff, sidsB, Nat.reduceBEq, keyKD, isIntK]
  refine CallC.pure (light_spec t) ?_
  by_cases hl : t.length ≤ 500
  · rw [decide_eq_true hl]
    have hT : OkT t := ⟨hl, ht⟩
    simp (config := { maxSteps := 1000000 }) (disch := ((try simp only [awL]); omega)) only [↓awU, awV, awF, ofVal, ofVal0, isShift, aggK, forall_const, ↓reduceIte, ↓reduceDIte, ↓purePost, combine, idsA, cellsA, srcA, calleeA, refsA, isScalar, scalarD, scalar0, AV.one, putL, unfA, implies_true, IntKind.signed, Nat.reduceAdd, Nat.reduceSub, Nat.reduceMul, Nat.reducePow, Nat.reduceDiv, Nat.reduceMod, Int.reduceAdd, Int.reduceSub, Int.reduceMul, Int.reducePow, Int.reduceNeg, Int.reduceToNat, Int.reduceLT, Int.reduceLE, Nat.reduceEqDiff, sidsB, Nat.reduceBEq, keyKD, isIntK]
    refine CallC.by (roll_spec t hl) rfl rfl (Nat.zero_le _) ?_
    simp (config := { maxSteps := 1000000 }) (disch := ((try simp only [awL]); omega)) only [↓awU, awV, awF, ofVal, ofVal0, isShift, aggK, forall_const, ↓reduceIte, ↓reduceDIte, ↓purePost, combine, idsA, cellsA, srcA, calleeA, refsA, isScalar, scalarD, scalar0, AV.one, putL, unfA, implies_true, IntKind.signed, Nat.reduceAdd, Nat.reduceSub, Nat.reduceMul, Nat.reducePow, Nat.reduceDiv, Nat.reduceMod, Int.reduceAdd, Int.reduceSub, Int.reduceMul, Int.reducePow, Int.reduceNeg, Int.reduceToNat, Int.reduceLT, Int.reduceLE, Nat.reduceEqDiff, sidsB, Nat.reduceBEq, keyKD, isIntK]
    refine CallC.by (next_spec t 0 4 hT (by decide) (by decide)) (by rfl) (by rfl) (Nat.le_refl _) ?_
    simp (config := { maxSteps := 1000000 }) (disch := ((try simp only [awL]); omega)) only [↓awU, awV, awF, ofVal, ofVal0, isShift, aggK, forall_const, ↓reduceIte, ↓reduceDIte, ↓purePost, combine, idsA, cellsA, srcA, calleeA, refsA, isScalar, scalarD, scalar0, AV.one, putL, unfA, implies_true, IntKind.signed, Nat.reduceAdd, Nat.reduceSub, Nat.reduceMul, Nat.reducePow, Nat.reduceDiv, Nat.reduceMod, Int.reduceAdd, Int.reduceSub, Int.reduceMul, Int.reducePow, Int.reduceNeg, Int.reduceToNat, Int.reduceLT, Int.reduceLE, Nat.reduceEqDiff, sidsB, Nat.reduceBEq, keyKD, isIntK]
    refine CallC.by (next_spec t 1 4 hT (by decide) (by decide)) (by rfl) (by rfl) (Nat.le_refl _) ?_
    simp (config := { maxSteps := 1000000 }) (disch := ((try simp only [awL]); omega)) only [↓awU, awV, awF, ofVal, ofVal0, isShift, aggK, forall_const, ↓reduceIte, ↓reduceDIte, ↓purePost, combine, idsA, cellsA, srcA, calleeA, refsA, isScalar, scalarD, scalar0, AV.one, putL, unfA, implies_true, IntKind.signed, Nat.reduceAdd, Nat.reduceSub, Nat.reduceMul, Nat.reducePow, Nat.reduceDiv, Nat.reduceMod, Int.reduceAdd, Int.reduceSub, Int.reduceMul, Int.reducePow, Int.reduceNeg, Int.reduceToNat, Int.reduceLT, Int.reduceLE, Nat.reduceEqDiff, sidsB, Nat.reduceBEq, keyKD, isIntK]
    have n1 := @nx_range t 0 4 (by decide)
    have n2 := @nx_range t 1 4 (by decide)
    obtain ⟨r, hr'⟩ : ∃ r : Nat, nx t 0 4 = r := ⟨(nx t 0 4).toNat, by omega⟩
    obtain ⟨c, hc'⟩ : ∃ c : Nat, nx t 1 4 = c := ⟨(nx t 1 4).toNat, by omega⟩
    rw [hr', hc']
    refine CallC.by (weights_spec t 2 r c hT (by omega) (by omega)) (by rfl) (by rfl) (Nat.le_refl _) ?_
    have hw := @matW_ok t 2 r c (by omega) (by omega)
    have hv := @matW_valid t 2 r c (by omega) (by omega)
    have hwl := @matW_length t 2 r c
    generalize matW t 2 r c = w at *
    generalize 2 + 2 * c * r = K at *
    have ml := @MxL_length w
    have hr8 := (valid_sides hv).2
    have ebr : bestR w = .tup [.sl (bestL w 0).length false (ints .i64 (bestL w 0)), Frac (bst w 0), .int .i64 0] := by rw [bestR, if_neg (by simp [hv])]
    have ebw := best_weight hv
    have fbst := (bst_Sm w (fun r hr => hw.sm r hr) 0).FV (by omega)
    obtain ⟨bf, _, btk⟩ := bestL_ok w 0
    obtain ⟨bp1, bp2, _, _⟩ := (feas_plain w 0 _).1 bf
    have bok := OkI.of (bestL_small (w := w) hr8)
    simp (config := { maxSteps := 1000000 }) (disch := ((try simp only [awL]); omega)) only [↓awU, awV, awF, ofVal, ofVal0, isShift, aggK, forall_const, ↓reduceIte, ↓reduceDIte, ↓purePost, combine, idsA, cellsA, srcA, calleeA, refsA, isScalar, scalarD, scalar0, AV.one, putL, unfA, implies_true, IntKind.signed, Nat.reduceAdd, Nat.reduceSub, Nat.reduceMul, Nat.reducePow, Nat.reduceDiv, Nat.reduceMod, Int.reduceAdd, Int.reduceSub, Int.reduceMul, Int.reducePow, Int.reduceNeg, Int.reduceToNat, Int.reduceLT, Int.reduceLE, Nat.reduceEqDiff, sidsB, Nat.reduceBEq, keyKD, isIntK]
    refine CallC.pure (best_spec hG w hw) ?_
    rw [ebr]
    generalize bestL w 0 = bl at *
    simp (config := { maxSteps := 1000000 }) (disch := ((try simp only [awL]); omega)) only [↓awU, awV, awF, ofVal, ofVal0, isShift, aggK, forall_const, ↓reduceIte, ↓reduceDIte, ↓purePost, combine, idsA, cellsA, srcA, calleeA, refsA, isScalar, scalarD, scalar0, AV.one, putL, unfA, implies_true, IntKind.signed, Nat.reduceAdd, Nat.reduceSub, Nat.reduceMul, Nat.reducePow, Nat.reduceDiv, Nat.reduceMod, Int.reduceAdd, Int.reduceSub, Int.reduceMul, Int.reducePow, Int.reduceNeg, Int.reduceToNat, Int.reduceLT, Int.reduceLE, Nat.reduceEqDiff, sidsB, Nat.reduceBEq, keyKD, isIntK]
    refine CallC.pure (weight_spec hG w bl hw (by omega) bok) ?_
    rw [ebw]
    simp (config := { maxSteps := 1000000 }) (disch := ((try simp only [awL]); omega)) only [↓awU, awV, awF, ofVal, ofVal0, isShift, aggK, forall_const, ↓reduceIte, ↓reduceDIte, ↓purePost, combine, idsA, cellsA, srcA, calleeA, refsA, isScalar, scalarD, scalar0, AV.one, putL, unfA, implies_true, IntKind.signed, Nat.reduceAdd, Nat.reduceSub, Nat.reduceMul, Nat.reducePow, Nat.reduceDiv, Nat.reduceMod, Int.reduceAdd, Int.reduceSub, Int.reduceMul, Int.reducePow, Int.reduceNeg, Int.reduceToNat, Int.reduceLT, Int.reduceLE, Nat.reduceEqDiff, sidsB, Nat.reduceBEq, keyKD, isIntK]
    refine CallC.pure (sameF_spec _ _ fbst fbst) ?_
    rw [decide_eq_true rfl]
    simp (config := { maxSteps := 1000000 }) (disch := ((try simp only [awL]); omega)) only [↓awU, awV, awF, ofVal, ofVal0, isShift, aggK, forall_const, ↓reduceIte, ↓reduceDIte, ↓purePost, combine, idsA, cellsA, srcA, calleeA, refsA, isScalar, scalarD, scalar0, AV.one, putL, unfA, implies_true, IntKind.signed, Nat.reduceAdd, Nat.reduceSub, Nat.reduceMul, Nat.reducePow, Nat.reduceDiv, Nat.reduceMod, Int.reduceAdd, Int.reduceSub, Int.reduceMul, Int.reducePow, Int.reduceNeg, Int.reduceToNat, Int.reduceLT, Int.reduceLE, Nat.reduceEqDiff, sidsB, Nat.reduceBEq, keyKD, isIntK]
    refine LoopC.fr 38111625095145107907898820723486494818384 (α := Nat) (fun k => bl.length - k) (fun k => [(60, .d (.int .i64 k)), (68, .undef), (69, .undef), (70, .undef), (71, .undef), (72, .undef), (73, .undef), (74, .undef), (75, .undef), (76, .undef)])
      (fun _ => [DiceB t K, .box [.d (.bool (decide ((bst w 0).num < 0))), .d (W (toW (bst w 0).num.natAbs)), .d (.bool false), .d (W (toW (bst w 0).den))], .dead]) (fun k => k ≤ bl.length) 0 (Nat.zero_le _) ?_ ?_
    · exact ⟨[some 0, some 1, some 2], rfl, by simp, by simp [setsA, keepA, SWeak, AWeak], by simp [HWeak, BWeak, SWeak, AWeak]⟩
    · intro k hk
      simp only [keepA_z8, keepA_z, keepA_cons, keepA_nil, setsA_nil, setsA_cons, List.set_cons_zero, List.set_cons_succ, set_8, Nat.reduceMod, Nat.reduceDiv, Nat.zero_mod, Nat.zero_ne_one, if_true, if_false, reduceIte]
      rcases Nat.lt_or_ge k bl.length with h1 | h1
      · obtain ⟨q1, q2⟩ := bp2 k h1
        have q3 := hr8 k
        have fl := @Fr_length (w.getD k [])
        by_cases h0 : 0 ≤ bl.getD k 0
        · have hz := not_zero w bl k bp1 btk h1 h0
          simp (config := { maxSteps := 1000000 }) (disch := ((try simp only [awL]); omega)) only [ml, MxL_get, fl, Fr_get, ↓awU, awV, awF, ofVal, ofVal0, isShift, aggK, forall_const, ↓reduceIte, ↓reduceDIte, ↓purePost, combine, idsA, cellsA, srcA, calleeA, refsA, isScalar, scalarD, scalar0, AV.one, putL, unfA, implies_true, IntKind.signed, Nat.reduceAdd, Nat.reduceSub, Nat.reduceMul, Nat.reducePow, Nat.reduceDiv, Nat.reduceMod, Int.reduceAdd, Int.reduceSub, Int.reduceMul, Int.reducePow, Int.reduceNeg, Int.reduceToNat, Int.reduceLT, Int.reduceLE, Nat.reduceEqDiff, sidsB, Nat.reduceBEq, keyKD, isIntK]
          refine CallC.pure rzero_spec ?_
          simp (config := { maxSteps := 1000000 }) (disch := ((try simp only [awL]); omega)) only [↓awU, awV, awF, ofVal, ofVal0, isShift, aggK, forall_const, ↓reduceIte, ↓reduceDIte, ↓purePost, combine, idsA, cellsA, srcA, calleeA, refsA, isScalar, scalarD, scalar0, AV.one, putL, unfA, implies_true, IntKind.signed, Nat.reduceAdd, Nat.reduceSub, Nat.reduceMul, Nat.reducePow, Nat.reduceDiv, Nat.reduceMod, Int.reduceAdd, Int.reduceSub, Int.reduceMul, Int.reducePow, Int.reduceNeg, Int.reduceToNat, Int.reduceLT, Int.reduceLE, Nat.reduceEqDiff, sidsB, Nat.reduceBEq, keyKD, isIntK]
          refine CallC.pure (sameF_spec _ _ (hw.fvs.at (by omega) (by omega)) FV0) ?_
          rw [decide_eq_false hz]
          simp (config := { maxSteps := 1000000 }) (disch := ((try simp only [awL]); omega)) only [↓awU, awV, awF, ofVal, ofVal0, isShift, aggK, forall_const, ↓reduceIte, ↓reduceDIte, ↓purePost, combine, idsA, cellsA, srcA, calleeA, refsA, isScalar, scalarD, scalar0, AV.one, putL, unfA, implies_true, IntKind.signed, Nat.reduceAdd, Nat.reduceSub, Nat.reduceMul, Nat.reducePow, Nat.reduceDiv, Nat.reduceMod, Int.reduceAdd, Int.reduceSub, Int.reduceMul, Int.reducePow, Int.reduceNeg, Int.reduceToNat, Int.reduceLT, Int.reduceLE, Nat.reduceEqDiff, sidsB, Nat.reduceBEq, keyKD, isIntK]
          exact ⟨by rfl, k + 1, h1, by simp only; omega, ⟨[some 0, some 1, some 2], rfl, by simp, by simp [setsA, keepA, SWeak, AWeak], by simp [HWeak, BWeak, SWeak, AWeak]⟩⟩
        · simp (config := { maxSteps := 1000000 }) (disch := ((try simp only [awL]); omega)) only [↓awU, awV, awF, ofVal, ofVal0, isShift, aggK, forall_const, ↓reduceIte, ↓reduceDIte, ↓purePost, combine, idsA, cellsA, srcA, calleeA, refsA, isScalar, scalarD, scalar0, AV.one, putL, unfA, implies_true, IntKind.signed, Nat.reduceAdd, Nat.reduceSub, Nat.reduceMul, Nat.reducePow, Nat.reduceDiv, Nat.reduceMod, Int.reduceAdd, Int.reduceSub, Int.reduceMul, Int.reducePow, Int.reduceNeg, Int.reduceToNat, Int.reduceLT, Int.reduceLE, Nat.reduceEqDiff, sidsB, Nat.reduceBEq, keyKD, isIntK]
          exact ⟨by rfl, k + 1, h1, by simp only; omega, ⟨[some 0, some 1, some 2], rfl, by simp, by simp [setsA, keepA, SWeak, AWeak], by simp [HWeak, BWeak, SWeak, AWeak]⟩⟩
      · obtain ⟨cN, hcN⟩ : ∃ cN : Nat, (w.getD 0 []).length = cN := ⟨_, rfl⟩
        have hc8 := hr8 0
        rw [hcN] at hc8
        by_cases hw0 : 0 < w.length
        · simp (config := { maxSteps := 1000000 }) (disch := ((try simp only [awL]); omega)) only [ml, MxL_get, hcN, ↓awU, awV, awF, ofVal, ofVal0, isShift, aggK, forall_const, ↓reduceIte, ↓reduceDIte, ↓purePost, combine, idsA, cellsA, srcA, calleeA, refsA, isScalar, scalarD, scalar0, AV.one, putL, unfA, implies_true, IntKind.signed, Nat.reduceAdd, Nat.reduceSub, Nat.reduceMul, Nat.reducePow, Nat.reduceDiv, Nat.reduceMod, Int.reduceAdd, Int.reduceSub, Int.reduceMul, Int.reducePow, Int.reduceNeg, Int.reduceToNat, Int.reduceLT, Int.reduceLE, Nat.reduceEqDiff, sidsB, Nat.reduceBEq, keyKD, isIntK]
          refine LoopC.fr 38111625095145417392907777377426764468304 (α := Nat) (fun i => w.length - i) (fun i => [(13, .lsl 3 1 0 (allL cN i).length), (89, .d (.int .i64 i))])
            (fun i => [DiceB t K, .box [.d (.bool (decide ((bst w 0).num < 0))), .d (W (toW (bst w 0).num.natAbs)), .d (.bool false), .d (W (toW (bst w 0).den))], .dead, .row false (LL (allL cN i))]) (fun i => i ≤ w.length) 0 (Nat.zero_le _) ?_ ?_
          · exact ⟨[some 0, some 1, some 2, some 3], rfl, by simp, by simp [setsA, keepA, SWeak, AWeak, allL], by simp [HWeak, BWeak, SWeak, AWeak, allL, LL, ints]⟩
          · intro i hi
            simp only [keepA_z8, keepA_z, keepA_cons, keepA_nil, setsA_nil, setsA_cons, List.set_cons_zero, List.set_cons_succ, set_8, Nat.reduceMod, Nat.reduceDiv, Nat.zero_mod, Nat.zero_ne_one, if_true, if_false, reduceIte]
            have hab := allL_bound (c := cN) (n := i) hc8 (by omega)
            have lll := @LL_length (allL cN i)
            rcases Nat.lt_or_ge i w.length with h2 | h2
            · simp (config := { maxSteps := 1000000 }) (disch := ((try simp only [awL]); omega)) only [↓awU, awV, awF, ofVal, ofVal0, isShift, aggK, forall_const, ↓reduceIte, ↓reduceDIte, ↓purePost, combine, idsA, cellsA, srcA, calleeA, refsA, isScalar, scalarD, scalar0, AV.one, putL, unfA, implies_true, IntKind.signed, Nat.reduceAdd, Nat.reduceSub, Nat.reduceMul, Nat.reducePow, Nat.reduceDiv, Nat.reduceMod, Int.reduceAdd, Int.reduceSub, Int.reduceMul, Int.reducePow, Int.reduceNeg, Int.reduceToNat, Int.reduceLT, Int.reduceLE, Nat.reduceEqDiff, sidsB, Nat.reduceBEq, keyKD, isIntK]
              refine LoopC.fr 38111625095153464003163132349213608775760 (α := Nat) (fun j => (allL cN i).length - j) (fun j => [(14, .lsl 4 1 0 (nextL cN (allL cN i) j).length), (93, .d (.int .i64 j))])
                (fun j => [DiceB t K, .box [.d (.bool (decide ((bst w 0).num < 0))), .d (W (toW (bst w 0).num.natAbs)), .d (.bool false), .d (W (toW (bst w 0).den))], .dead, .row false (LL (allL cN i)), .row false (LL (nextL cN (allL cN i) j))]) (fun j => j ≤ (allL cN i).length) 0 (Nat.zero_le _) ?_ ?_
              · exact ⟨[some 0, some 1, some 2, some 3, none], rfl, by simp, by simp [setsA, keepA, SWeak, AWeak, nextL], by simp [HWeak, BWeak, SWeak, AWeak, nextL, LL]⟩
              · intro j hj
                simp only [keepA_z8, keepA_z, keepA_cons, keepA_nil, setsA_nil, setsA_cons, List.set_cons_zero, List.set_cons_succ, set_8, Nat.reduceMod, Nat.reduceDiv, Nat.zero_mod, Nat.zero_ne_one, if_true, if_false, reduceIte]
                have nln := nextL_length (c := cN) hj
                have nlb : j * (cN + 1) ≤ 43046721 * 9 := Nat.mul_le_mul (by omega) (by omega)
                have pl := @LL_length (nextL cN (allL cN i) j)
                rcases Nat.lt_or_ge j (allL cN i).length with h3 | h3
                · obtain ⟨gl, gk⟩ := getD_mem_all h3
                  have npu := nextL_push (c := cN) h3
                  generalize hga : (allL cN i).getD j [] = a at *
                  simp (config := { maxSteps := 1000000 }) (disch := ((try simp only [awL]); omega)) only [lll, LL_get, hga, ↓awU, awV, awF, ofVal, ofVal0, isShift, aggK, forall_const, ↓reduceIte, ↓reduceDIte, ↓purePost, combine, idsA, cellsA, srcA, calleeA, refsA, isScalar, scalarD, scalar0, AV.one, putL, unfA, implies_true, IntKind.signed, Nat.reduceAdd, Nat.reduceSub, Nat.reduceMul, Nat.reducePow, Nat.reduceDiv, Nat.reduceMod, Int.reduceAdd, Int.reduceSub, Int.reduceMul, Int.reducePow, Int.reduceNeg, Int.reduceToNat, Int.reduceLT, Int.reduceLE, Nat.reduceEqDiff, sidsB, Nat.reduceBEq, keyKD, isIntK]
                  refine LoopC.fr 38111625095163367523477415391412801835088 (α := Nat) (fun q => cN + 1 - q) (fun q => [(14, .lsl 4 1 0 ((nextL cN (allL cN i) j).length + q)), (17, .d (.int .i64 ((q : Int) - 1)))])
                    (fun q => [DiceB t K, .box [.d (.bool (decide ((bst w 0).num < 0))), .d (W (toW (bst w 0).num.natAbs)), .d (.bool false), .d (W (toW (bst w 0).den))], .dead, .row false (LL (allL cN i)), .row false (LL (nextL cN (allL cN i) j ++ extL cN a q))]) (fun q => q ≤ cN + 1) 0 (Nat.zero_le _) ?_ ?_
                  · exact ⟨[some 0, some 1, some 2, some 3, some 4], rfl, by simp, by simp [setsA, keepA, SWeak, AWeak], by simp [HWeak, BWeak, SWeak, AWeak, extL]⟩
                  · intro q hq
                    simp only [keepA_z8, keepA_z, keepA_cons, keepA_nil, setsA_nil, setsA_cons, List.set_cons_zero, List.set_cons_succ, set_8, Nat.reduceMod, Nat.reduceDiv, Nat.zero_mod, Nat.zero_ne_one, if_true, if_false, reduceIte]
                    have pl2 : (LL (nextL cN (allL cN i) j ++ extL cN a q)).length = (nextL cN (allL cN i) j).length + q := by rw [LL_length, List.length_append, extL_length]
                    rcases Nat.lt_or_ge q (cN + 1) with h4 | h4
                    · have el : LL (nextL cN (allL cN i) j ++ extL cN a q) ++ [D.sl (a.length + 1) false (cut (ints .i64 a ++ [D.int .i64 ((q : Int) - 1)]) 0 (a.length + 1))] = LL (nextL cN (allL cN i) j ++ extL cN a (q + 1)) := by
                        rw [ints_one, ints_append, cut_all (by rw [ints_length]; simp), LL_push (by simp), List.append_assoc, extL_push]
                      simp (config := { maxSteps := 1000000 }) (disch := ((try simp only [awL]); omega)) only [pl2, ints_length, el, ↓awU, awV, awF, ofVal, ofVal0, isShift, aggK, forall_const, ↓reduceIte, ↓reduceDIte, ↓purePost, combine, idsA, cellsA, srcA, calleeA, refsA, isScalar, scalarD, scalar0, AV.one, putL, unfA, implies_true, IntKind.signed, Nat.reduceAdd, Nat.reduceSub, Nat.reduceMul, Nat.reducePow, Nat.reduceDiv, Nat.reduceMod, Int.reduceAdd, Int.reduceSub, Int.reduceMul, Int.reducePow, Int.reduceNeg, Int.reduceToNat, Int.reduceLT, Int.reduceLE, Nat.reduceEqDiff, sidsB, Nat.reduceBEq, keyKD, isIntK]
                      refine ⟨q + 1, h4, by simp only; omega, [some 0, some 1, some 2, some 3, some 8], rfl, by simp, ?_, by simp [HWeak, BWeak, SWeak, AWeak]⟩
                      simp [SWeak, AWeak]
                      omega
                    · have eq : q = cN + 1 := by omega
                      subst eq
                      have enl := extL_length (c := cN) (a := a) (q := cN + 1)
                      have e5 : (nextL cN (allL cN i) (j + 1)).length = (nextL cN (allL cN i) j).length + (cN + 1) := by rw [← npu, List.length_append, enl]
                      rw [npu]
                      simp (config := { maxSteps := 1000000 }) (disch := ((try simp only [awL]); omega)) only [pl2, ↓awU, awV, awF, ofVal, ofVal0, isShift, aggK, forall_const, ↓reduceIte, ↓reduceDIte, ↓purePost, combine, idsA, cellsA, srcA, calleeA, refsA, isScalar, scalarD, scalar0, AV.one, putL, unfA, implies_true, IntKind.signed, Nat.reduceAdd, Nat.reduceSub, Nat.reduceMul, Nat.reducePow, Nat.reduceDiv, Nat.reduceMod, Int.reduceAdd, Int.reduceSub, Int.reduceMul, Int.reducePow, Int.reduceNeg, Int.reduceToNat, Int.reduceLT, Int.reduceLE, Nat.reduceEqDiff, sidsB, Nat.reduceBEq, keyKD, isIntK]
                      refine ⟨j + 1, h3, by simp only; omega, [some 0, some 1, some 2, some 3, some 4], rfl, by simp, ?_, by simp [HWeak, BWeak, SWeak, AWeak]⟩
                      simp [SWeak, AWeak, e5]
                · have ej : j = (allL cN i).length := by omega
                  subst ej
                  rw [nextL_all]
                  simp (config := { maxSteps := 1000000 }) (disch := ((try simp only [awL]); omega)) only [pl, ↓awU, awV, awF, ofVal, ofVal0, isShift, aggK, forall_const, ↓reduceIte, ↓reduceDIte, ↓purePost, combine, idsA, cellsA, srcA, calleeA, refsA, isScalar, scalarD, scalar0, AV.one, putL, unfA, implies_true, IntKind.signed, Nat.reduceAdd, Nat.reduceSub, Nat.reduceMul, Nat.reducePow, Nat.reduceDiv, Nat.reduceMod, Int.reduceAdd, Int.reduceSub, Int.reduceMul, Int.reducePow, Int.reduceNeg, Int.reduceToNat, Int.reduceLT, Int.reduceLE, Nat.reduceEqDiff, sidsB, Nat.reduceBEq, keyKD, isIntK]
                  exact ⟨i + 1, h2, by simp only; omega, ⟨[some 0, some 1, some 2, some 4], rfl, by simp, by simp [setsA, keepA, SWeak, AWeak], by simp [HWeak, BWeak, SWeak, AWeak]⟩⟩
            · simp (config := { maxSteps := 1000000 }) (disch := ((try simp only [awL]); omega)) only [↓awU, awV, awF, ofVal, ofVal0, isShift, aggK, forall_const, ↓reduceIte, ↓reduceDIte, ↓purePost, combine, idsA, cellsA, srcA, calleeA, refsA, isScalar, scalarD, scalar0, AV.one, putL, unfA, implies_true, IntKind.signed, Nat.reduceAdd, Nat.reduceSub, Nat.reduceMul, Nat.reducePow, Nat.reduceDiv, Nat.reduceMod, Int.reduceAdd, Int.reduceSub, Int.reduceMul, Int.reducePow, Int.reduceNeg, Int.reduceToNat, Int.reduceLT, Int.reduceLE, Nat.reduceEqDiff, sidsB, Nat.reduceBEq, keyKD, isIntK]
              refine LoopC.fr 498460498419343452338927647605129296 (α := Nat) (fun j => (allL cN i).length - j) (fun j => [(119, .d (.int .i64 j)), (132, .undef), (133, .undef), (134, .undef)])
                (fun j => [DiceB t K, .box [.d (.bool (decide ((bst w 0).num < 0))), .d (W (toW (bst w 0).num.natAbs)), .d (.bool false), .d (W (toW (bst w 0).den))], .dead, .row false (LL (allL cN i))]) (fun j => j ≤ (allL cN i).length) 0 (Nat.zero_le _) ?_ ?_
              · exact ⟨[some 0, some 1, some 2, some 3], rfl, by simp, by simp [setsA, keepA, SWeak, AWeak], by simp [HWeak, BWeak, SWeak, AWeak]⟩
              · intro j hj
                simp only [keepA_z8, keepA_z, keepA_cons, keepA_nil, setsA_nil, setsA_cons, List.set_cons_zero, List.set_cons_succ, set_8, Nat.reduceMod, Nat.reduceDiv, Nat.zero_mod, Nat.zero_ne_one, if_true, if_false, reduceIte]
                rcases Nat.lt_or_ge j (allL cN i).length with h3 | h3
                · obtain ⟨gl, gk⟩ := getD_mem_all h3
                  generalize hga : (allL cN i).getD j [] = a at *
                  simp (config := { maxSteps := 1000000 }) (disch := ((try simp only [awL]); omega)) only [lll, LL_get, hga, ↓awU, awV, awF, ofVal, ofVal0, isShift, aggK, forall_const, ↓reduceIte, ↓reduceDIte, ↓purePost, combine, idsA, cellsA, srcA, calleeA, refsA, isScalar, scalarD, scalar0, AV.one, putL, unfA, implies_true, IntKind.signed, Nat.reduceAdd, Nat.reduceSub, Nat.reduceMul, Nat.reducePow, Nat.reduceDiv, Nat.reduceMod, Int.reduceAdd, Int.reduceSub, Int.reduceMul, Int.reducePow, Int.reduceNeg, Int.reduceToNat, Int.reduceLT, Int.reduceLE, Nat.reduceEqDiff, sidsB, Nat.reduceBEq, keyKD, isIntK]
                  refine CallC.pure (weight_spec hG w a hw (by omega) (OkI.of fun k hk => by have := gk k hk; omega)) ?_
                  rcases best_most (w := w) (l := a) with ⟨d, hR, s, hds, hs, hle⟩ | ⟨e, he, x, d, hR, rfl, rfl⟩
                  · have fvs := (hw.sum a a.length).FV (by omega)
                    rw [← hs] at fvs
                    rw [hR, hds]
                    simp (config := { maxSteps := 1000000 }) (disch := ((try simp only [awL]); omega)) only [↓awU, awV, awF, ofVal, ofVal0, isShift, aggK, forall_const, ↓reduceIte, ↓reduceDIte, ↓purePost, combine, idsA, cellsA, srcA, calleeA, refsA, isScalar, scalarD, scalar0, AV.one, putL, unfA, implies_true, IntKind.signed, Nat.reduceAdd, Nat.reduceSub, Nat.reduceMul, Nat.reducePow, Nat.reduceDiv, Nat.reduceMod, Int.reduceAdd, Int.reduceSub, Int.reduceMul, Int.reducePow, Int.reduceNeg, Int.reduceToNat, Int.reduceLT, Int.reduceLE, Nat.reduceEqDiff, sidsB, Nat.reduceBEq, keyKD, isIntK]
                    refine CallC.pure (less_spec _ _ fbst fvs) ?_
                    rw [decide_eq_false (Rat.not_lt.2 hle)]
                    simp (config := { maxSteps := 1000000 }) (disch := ((try simp only [awL]); omega)) only [↓awU, awV, awF, ofVal, ofVal0, isShift, aggK, forall_const, ↓reduceIte, ↓reduceDIte, ↓purePost, combine, idsA, cellsA, srcA, calleeA, refsA, isScalar, scalarD, scalar0, AV.one, putL, unfA, implies_true, IntKind.signed, Nat.reduceAdd, Nat.reduceSub, Nat.reduceMul, Nat.reducePow, Nat.reduceDiv, Nat.reduceMod, Int.reduceAdd, Int.reduceSub, Int.reduceMul, Int.reducePow, Int.reduceNeg, Int.reduceToNat, Int.reduceLT, Int.reduceLE, Nat.reduceEqDiff, sidsB, Nat.reduceBEq, keyKD, isIntK]
                    exact ⟨j + 1, h3, by simp only; omega, ⟨[some 0, some 1, some 2, some 3], rfl, by simp, by simp [setsA, keepA, SWeak, AWeak], by simp [HWeak, BWeak, SWeak, AWeak]⟩⟩
                  · rw [hR]
                    simp (config := { maxSteps := 1000000 }) (disch := ((try simp only [awL]); omega)) only [he, ↓awU, awV, awF, ofVal, ofVal0, isShift, aggK, forall_const, ↓reduceIte, ↓reduceDIte, ↓purePost, combine, idsA, cellsA, srcA, calleeA, refsA, isScalar, scalarD, scalar0, AV.one, putL, unfA, implies_true, IntKind.signed, Nat.reduceAdd, Nat.reduceSub, Nat.reduceMul, Nat.reducePow, Nat.reduceDiv, Nat.reduceMod, Int.reduceAdd, Int.reduceSub, Int.reduceMul, Int.reducePow, Int.reduceNeg, Int.reduceToNat, Int.reduceLT, Int.reduceLE, Nat.reduceEqDiff, sidsB, Nat.reduceBEq, keyKD, isIntK]
                    exact ⟨j + 1, h3, by simp only; omega, ⟨[some 0, some 1, some 2, some 3], rfl, by simp, by simp [setsA, keepA, SWeak, AWeak], by simp [HWeak, BWeak, SWeak, AWeak]⟩⟩
                · simp (config := { maxSteps := 1000000 }) (disch := ((try simp only [awL]); omega)) only [↓awU, awV, awF, ofVal, ofVal0, isShift, aggK, forall_const, ↓reduceIte, ↓reduceDIte, ↓purePost, combine, idsA, cellsA, srcA, calleeA, refsA, isScalar, scalarD, scalar0, AV.one, putL, unfA, implies_true, IntKind.signed, Nat.reduceAdd, Nat.reduceSub, Nat.reduceMul, Nat.reducePow, Nat.reduceDiv, Nat.reduceMod, Int.reduceAdd, Int.reduceSub, Int.reduceMul, Int.reducePow, Int.reduceNeg, Int.reduceToNat, Int.reduceLT, Int.reduceLE, Nat.reduceEqDiff, sidsB, Nat.reduceBEq, keyKD, isIntK]
                  refine CallC.pure (awake_spec hG) ?_
                  simp (config := { maxSteps := 1000000 }) (disch := ((try simp only [awL]); omega)) only [↓awU, awV, awF, ofVal, ofVal0, isShift, aggK, forall_const, ↓reduceIte, ↓reduceDIte, ↓purePost, combine, idsA, cellsA, srcA, calleeA, refsA, isScalar, scalarD, scalar0, AV.one, putL, unfA, implies_true, IntKind.signed, Nat.reduceAdd, Nat.reduceSub, Nat.reduceMul, Nat.reducePow, Nat.reduceDiv, Nat.reduceMod, Int.reduceAdd, Int.reduceSub, Int.reduceMul, Int.reducePow, Int.reduceNeg, Int.reduceToNat, Int.reduceLT, Int.reduceLE, Nat.reduceEqDiff, sidsB, Nat.reduceBEq, keyKD, isIntK]
        · have hc0 : cN = 0 := by
            have : w = [] := List.length_eq_zero_iff.1 (by omega)
            rw [this] at hcN; exact hcN.symm
          simp (config := { maxSteps := 1000000 }) (disch := ((try simp only [awL]); omega)) only [↓awU, awV, awF, ofVal, ofVal0, isShift, aggK, forall_const, ↓reduceIte, ↓reduceDIte, ↓purePost, combine, idsA, cellsA, srcA, calleeA, refsA, isScalar, scalarD, scalar0, AV.one, putL, unfA, implies_true, IntKind.signed, Nat.reduceAdd, Nat.reduceSub, Nat.reduceMul, Nat.reducePow, Nat.reduceDiv, Nat.reduceMod, Int.reduceAdd, Int.reduceSub, Int.reduceMul, Int.reducePow, Int.reduceNeg, Int.reduceToNat, Int.reduceLT, Int.reduceLE, Nat.reduceEqDiff, sidsB, Nat.reduceBEq, keyKD, isIntK]
          refine LoopC.fr 38111625095145417392907777377426764468304 (α := Nat) (fun i => w.length - i) (fun i => [(13, .lsl 3 1 0 (allL cN i).length), (89, .d (.int .i64 i))])
            (fun i => [DiceB t K, .box [.d (.bool (decide ((bst w 0).num < 0))), .d (W (toW (bst w 0).num.natAbs)), .d (.bool false), .d (W (toW (bst w 0).den))], .dead, .row false (LL (allL cN i))]) (fun i => i ≤ w.length) 0 (Nat.zero_le _) ?_ ?_
          · exact ⟨[some 0, some 1, some 2, some 3], rfl, by simp, by simp [setsA, keepA, SWeak, AWeak, allL], by simp [HWeak, BWeak, SWeak, AWeak, allL, LL, ints]⟩
          · intro i hi
            simp only [keepA_z8, keepA_z, keepA_cons, keepA_nil, setsA_nil, setsA_cons, List.set_cons_zero, List.set_cons_succ, set_8, Nat.reduceMod, Nat.reduceDiv, Nat.zero_mod, Nat.zero_ne_one, if_true, if_false, reduceIte]
            have hab := allL_bound (c := cN) (n := i) hc8 (by omega)
            have lll := @LL_length (allL cN i)
            rcases Nat.lt_or_ge i w.length with h2 | h2
            · exact absurd h2 (by omega)
            · simp (config := { maxSteps := 1000000 }) (disch := ((try simp only [awL]); omega)) only [↓awU, awV, awF, ofVal, ofVal0, isShift, aggK, forall_const, ↓reduceIte, ↓reduceDIte, ↓purePost, combine, idsA, cellsA, srcA, calleeA, refsA, isScalar, scalarD, scalar0, AV.one, putL, unfA, implies_true, IntKind.signed, Nat.reduceAdd, Nat.reduceSub, Nat.reduceMul, Nat.reducePow, Nat.reduceDiv, Nat.reduceMod, Int.reduceAdd, Int.reduceSub, Int.reduceMul, Int.reducePow, Int.reduceNeg, Int.reduceToNat, Int.reduceLT, Int.reduceLE, Nat.reduceEqDiff, sidsB, Nat.reduceBEq, keyKD, isIntK]
              refine LoopC.fr 498460498419343452338927647605129296 (α := Nat) (fun j => (allL cN i).length - j) (fun j => [(119, .d (.int .i64 j)), (132, .undef), (133, .undef), (134, .undef)])
                (fun j => [DiceB t K, .box [.d (.bool (decide ((bst w 0).num < 0))), .d (W (toW (bst w 0).num.natAbs)), .d (.bool false), .d (W (toW (bst w 0).den))], .dead, .row false (LL (allL cN i))]) (fun j => j ≤ (allL cN i).length) 0 (Nat.zero_le _) ?_ ?_
              · exact ⟨[some 0, some 1, some 2, some 3], rfl, by simp, by simp [setsA, keepA, SWeak, AWeak], by simp [HWeak, BWeak, SWeak, AWeak]⟩
              · intro j hj
                simp only [keepA_z8, keepA_z, keepA_cons, keepA_nil, setsA_nil, setsA_cons, List.set_cons_zero, List.set_cons_succ, set_8, Nat.reduceMod, Nat.reduceDiv, Nat.zero_mod, Nat.zero_ne_one, if_true, if_false, reduceIte]
                rcases Nat.lt_or_ge j (allL cN i).length with h3 | h3
                · obtain ⟨gl, gk⟩ := getD_mem_all h3
                  generalize hga : (allL cN i).getD j [] = a at *
                  simp (config := { maxSteps := 1000000 }) (disch := ((try simp only [awL]); omega)) only [lll, LL_get, hga, ↓awU, awV, awF, ofVal, ofVal0, isShift, aggK, forall_const, ↓reduceIte, ↓reduceDIte, ↓purePost, combine, idsA, cellsA, srcA, calleeA, refsA, isScalar, scalarD, scalar0, AV.one, putL, unfA, implies_true, IntKind.signed, Nat.reduceAdd, Nat.reduceSub, Nat.reduceMul, Nat.reducePow, Nat.reduceDiv, Nat.reduceMod, Int.reduceAdd, Int.reduceSub, Int.reduceMul, Int.reducePow, Int.reduceNeg, Int.reduceToNat, Int.reduceLT, Int.reduceLE, Nat.reduceEqDiff, sidsB, Nat.reduceBEq, keyKD, isIntK]
                  refine CallC.pure (weight_spec hG w a hw (by omega) (OkI.of fun k hk => by have := gk k hk; omega)) ?_
                  rcases best_most (w := w) (l := a) with ⟨d, hR, s, hds, hs, hle⟩ | ⟨e, he, x, d, hR, rfl, rfl⟩
                  · have fvs := (hw.sum a a.length).FV (by omega)
                    rw [← hs] at fvs
                    rw [hR, hds]
                    simp (config := { maxSteps := 1000000 }) (disch := ((try simp only [awL]); omega)) only [↓awU, awV, awF, ofVal, ofVal0, isShift, aggK, forall_const, ↓reduceIte, ↓reduceDIte, ↓purePost, combine, idsA, cellsA, srcA, calleeA, refsA, isScalar, scalarD, scalar0, AV.one, putL, unfA, implies_true, IntKind.signed, Nat.reduceAdd, Nat.reduceSub, Nat.reduceMul, Nat.reducePow, Nat.reduceDiv, Nat.reduceMod, Int.reduceAdd, Int.reduceSub, Int.reduceMul, Int.reducePow, Int.reduceNeg, Int.reduceToNat, Int.reduceLT, Int.reduceLE, Nat.reduceEqDiff, sidsB, Nat.reduceBEq, keyKD, isIntK]
                    refine CallC.pure (less_spec _ _ fbst fvs) ?_
                    rw [decide_eq_false (Rat.not_lt.2 hle)]
                    simp (config := { maxSteps := 1000000 }) (disch := ((try simp only [awL]); omega)) only [↓awU, awV, awF, ofVal, ofVal0, isShift, aggK, forall_const, ↓reduceIte, ↓reduceDIte, ↓purePost, combine, idsA, cellsA, srcA, calleeA, refsA, isScalar, scalarD, scalar0, AV.one, putL, unfA, implies_true, IntKind.signed, Nat.reduceAdd, Nat.reduceSub, Nat.reduceMul, Nat.reducePow, Nat.reduceDiv, Nat.reduceMod, Int.reduceAdd, Int.reduceSub, Int.reduceMul, Int.reducePow, Int.reduceNeg, Int.reduceToNat, Int.reduceLT, Int.reduceLE, Nat.reduceEqDiff, sidsB, Nat.reduceBEq, keyKD, isIntK]
                    exact ⟨j + 1, h3, by simp only; omega, ⟨[some 0, some 1, some 2, some 3], rfl, by simp, by simp [setsA, keepA, SWeak, AWeak], by simp [HWeak, BWeak, SWeak, AWeak]⟩⟩
                  · rw [hR]
                    simp (config := { maxSteps := 1000000 }) (disch := ((try simp only [awL]); omega)) only [he, ↓awU, awV, awF, ofVal, ofVal0, isShift, aggK, forall_const, ↓reduceIte, ↓reduceDIte, ↓purePost, combine, idsA, cellsA, srcA, calleeA, refsA, isScalar, scalarD, scalar0, AV.one, putL, unfA, implies_true, IntKind.signed, Nat.reduceAdd, Nat.reduceSub, Nat.reduceMul, Nat.reducePow, Nat.reduceDiv, Nat.reduceMod, Int.reduceAdd, Int.reduceSub, Int.reduceMul, Int.reducePow, Int.reduceNeg, Int.reduceToNat, Int.reduceLT, Int.reduceLE, Nat.reduceEqDiff, sidsB, Nat.reduceBEq, keyKD, isIntK]
                    exact ⟨j + 1, h3, by simp only; omega, ⟨[some 0, some 1, some 2, some 3], rfl, by simp, by simp [setsA, keepA, SWeak, AWeak], by simp [HWeak, BWeak, SWeak, AWeak]⟩⟩
                · simp (config := { maxSteps := 1000000 }) (disch := ((try simp only [awL]); omega)) only [↓awU, awV, awF, ofVal, ofVal0, isShift, aggK, forall_const, ↓reduceIte, ↓reduceDIte, ↓purePost, combine, idsA, cellsA, srcA, calleeA, refsA, isScalar, scalarD, scalar0, AV.one, putL, unfA, implies_true, IntKind.signed, Nat.reduceAdd, Nat.reduceSub, Nat.reduceMul, Nat.reducePow, Nat.reduceDiv, Nat.reduceMod, Int.reduceAdd, Int.reduceSub, Int.reduceMul, Int.reducePow, Int.reduceNeg, Int.reduceToNat, Int.reduceLT, Int.reduceLE, Nat.reduceEqDiff, sidsB, Nat.reduceBEq, keyKD, isIntK]
                  refine CallC.pure (awake_spec hG) ?_
                  simp (config := { maxSteps := 1000000 }) (disch := ((try simp only [awL]); omega)) only [↓awU, awV, awF, ofVal, ofVal0, isShift, aggK, forall_const, ↓reduceIte, ↓reduceDIte, ↓purePost, combine, idsA, cellsA, srcA, calleeA, refsA, isScalar, scalarD, scalar0, AV.one, putL, unfA, implies_true, IntKind.signed, Nat.reduceAdd, Nat.reduceSub, Nat.reduceMul, Nat.reducePow, Nat.reduceDiv, Nat.reduceMod, Int.reduceAdd, Int.reduceSub, Int.reduceMul, Int.reducePow, Int.reduceNeg, Int.reduceToNat, Int.reduceLT, Int.reduceLE, Nat.reduceEqDiff, sidsB, Nat.reduceBEq, keyKD, isIntK]
  · rw [decide_eq_false hl]
    simp (config := { maxSteps := 1000000 }) (disch := ((try simp only [awL]); omega)) only [↓awU, awV, awF, ofVal, ofVal0, isShift, aggK, forall_const, ↓reduceIte, ↓reduceDIte, ↓purePost, combine, idsA, cellsA, srcA, calleeA, refsA, isScalar, scalarD, scalar0, AV.one, putL, unfA, implies_true, IntKind.signed, Nat.reduceAdd, Nat.reduceSub, Nat.reduceMul, Nat.reducePow, Nat.reduceDiv, Nat.reduceMod, Int.reduceAdd, Int.reduceSub, Int.reduceMul, Int.reducePow, Int.reduceNeg, Int.reduceToNat, Int.reduceLT, Int.reduceLE, Nat.reduceEqDiff, sidsB, Nat.reduceBEq, keyKD, isIntK]
    refine CallC.pure (awake_spec hG) ?_
    simp (config := { maxSteps := 1000000 }) (disch := ((try simp only [awL]); omega)) only [↓awU, awV, awF, ofVal, ofVal0, isShift, aggK, forall_const, ↓reduceIte, ↓reduceDIte, ↓purePost, combine, idsA, cellsA, srcA, calleeA, refsA, isScalar, scalarD, scalar0, AV.one, putL, unfA, implies_true, IntKind.signed, Nat.reduceAdd, Nat.reduceSub, Nat.reduceMul, Nat.reducePow, Nat.reduceDiv, Nat.reduceMod, Int.reduceAdd, Int.reduceSub, Int.reduceMul, Int.reducePow, Int.reduceNeg, Int.reduceToNat, Int.reduceLT, Int.reduceLE, Nat.reduceEqDiff, sidsB, Nat.reduceBEq, keyKD, isIntK]
end Go.Proofs.YtkppgdialedoeaaDoor
