/-
  Contracts of the functions, one after another.
-/
import Derived.Test.YtkppgdialedoeaaDoorMb3
set_option linter.all false
namespace Go.Proofs.YtkppgdialedoeaaDoor
open Go Go.Proofs Go.Abs
/-! The best assignment is one, has the best weight, and none is heavier. -/
def tot : List (List Rat) → List Int → Rat
  | r :: rs, k :: l => (if 0 ≤ k then r.getD k.toNat 0 else 0) + tot rs l
  | _, _ => 0
def feas : List (List Rat) → Nat → List Int → Prop
  | [], _, [] => True
  | r :: rs, u, k :: l => (k = -1 ∧ feas rs u l) ∨ ∃ c : Nat, k = (c : Int) ∧ c < r.length ∧ ¬ u.testBit c = true ∧ feas rs (u ||| 2 ^ c) l
  | _, _, _ => False
def Nonneg (w : List (List Rat)) : Prop := ∀ r ∈ w, ∀ x ∈ r, 0 ≤ x
theorem rle_add {a b c : Rat} (h : a ≤ b) : c + a ≤ c + b := Rat.add_le_add_left.2 h
theorem rnot {a b : Rat} (h : ¬ a < b) : b ≤ a := Rat.not_lt.1 h
theorem bit_or {u k j : Nat} : (u ||| 2 ^ k).testBit j = (u.testBit j || decide (k = j)) := by
  rw [Nat.testBit_or, Nat.testBit_two_pow]
abbrev blocked (r : List Rat) (u k : Nat) : Prop := u.testBit k = true ∨ r.getD k 0 = 0
theorem bstep_le {f : Nat → Rat} {r : List Rat} {u k : Nat} {b : Rat} : b ≤ bstep f r u k b := by
  unfold bstep
  split
  · exact Rat.le_refl
  · split
    · rename_i h; exact Rat.le_of_lt h
    · exact Rat.le_refl
theorem bloop_le {f : Nat → Rat} {r : List Rat} {u : Nat} {b : Rat} : ∀ n, b ≤ bloop f r u b n
  | 0 => Rat.le_refl
  | n + 1 => Rat.le_trans (bloop_le n) bstep_le
theorem bloop_mono {f : Nat → Rat} {r : List Rat} {u : Nat} {b : Rat} {k : Nat} : ∀ {n}, k ≤ n → bloop f r u b k ≤ bloop f r u b n
  | 0, h => by have : k = 0 := by omega
               subst this; exact Rat.le_refl
  | n + 1, h => by
    by_cases e : k = n + 1
    · subst e; exact Rat.le_refl
    · exact Rat.le_trans (bloop_mono (by omega)) bstep_le
theorem bstep_ge {f : Nat → Rat} {r : List Rat} {u k : Nat} {b : Rat} (h : ¬ blocked r u k) : r.getD k 0 + f (u ||| 2 ^ k) ≤ bstep f r u k b := by
  unfold bstep
  rw [if_neg h]
  split
  · exact Rat.le_refl
  · rename_i h2; exact rnot h2
theorem bloop_ge {f : Nat → Rat} {r : List Rat} {u : Nat} {b : Rat} {k n : Nat} (hk : k < n) (h : ¬ blocked r u k) : r.getD k 0 + f (u ||| 2 ^ k) ≤ bloop f r u b n :=
  Rat.le_trans (bstep_ge (b := bloop f r u b k) h) (bloop_mono (k := k + 1) hk)
theorem bloop_hit {f : Nat → Rat} {r : List Rat} {u : Nat} {b : Rat} : ∀ n, bloop f r u b n = b ∨ ∃ k, k < n ∧ ¬ blocked r u k ∧ bloop f r u b n = r.getD k 0 + f (u ||| 2 ^ k)
  | 0 => .inl rfl
  | n + 1 => by
    have ih := bloop_hit (f := f) (r := r) (u := u) (b := b) n
    have up : (bloop f r u b n = b ∨ ∃ k, k < n ∧ ¬ blocked r u k ∧ bloop f r u b n = r.getD k 0 + f (u ||| 2 ^ k)) → bloop f r u b n = b ∨ ∃ k, k < n + 1 ∧ ¬ blocked r u k ∧ bloop f r u b n = r.getD k 0 + f (u ||| 2 ^ k) := by
      rintro (h | ⟨k, a, c, d⟩)
      · exact .inl h
      · exact .inr ⟨k, by omega, c, d⟩
    simp only [bloop, bstep]
    split
    · exact up ih
    · rename_i h
      split
      · exact .inr ⟨n, Nat.lt_succ_self _, h, rfl⟩
      · exact up ih
theorem bst_anti : ∀ (rs : List (List Rat)) (u u' : Nat), (∀ j, u.testBit j = true → u'.testBit j = true) → bst rs u' ≤ bst rs u
  | [], _, _, _ => Rat.le_refl
  | r :: rs, u, u', h => by
    have ih := bst_anti rs
    simp only [bst]
    rcases bloop_hit (f := bst rs) (r := r) (u := u') (b := bst rs u') r.length with e | ⟨k, hk, hb, e⟩
    · rw [e]; exact Rat.le_trans (ih u u' h) (bloop_le _)
    · rw [e]
      have hb2 : ¬ blocked r u k := fun h2 => hb (h2.elim (fun h3 => .inl (h k h3)) .inr)
      refine Rat.le_trans (rle_add (ih (u ||| 2 ^ k) (u' ||| 2 ^ k) fun j hj => ?_)) (bloop_ge hk hb2)
      rw [bit_or] at hj ⊢
      rcases (Bool.or_eq_true _ _).mp hj with h1 | h1
      · rw [h j h1, Bool.true_or]
      · rw [h1, Bool.or_true]
theorem bst_take (rs : List (List Rat)) (u c : Nat) : bst rs (u ||| 2 ^ c) ≤ bst rs u := bst_anti rs u _ fun j hj => by rw [bit_or, hj, Bool.true_or]
theorem tot_le : ∀ (w : List (List Rat)) (u : Nat) (l : List Int), feas w u l → tot w l ≤ bst w u
  | [], _, [], _ => Rat.le_refl
  | [], _, _ :: _, h => h.elim
  | _ :: _, _, [], h => h.elim
  | r :: rs, u, k :: l, h => by
    simp only [feas] at h
    simp only [tot, bst]
    rcases h with ⟨rfl, h⟩ | ⟨c, rfl, hc, hu, h⟩
    · rw [if_neg (by decide), Rat.zero_add]
      exact Rat.le_trans (tot_le rs u l h) (bloop_le _)
    · rw [if_pos (by omega), Int.toNat_natCast]
      have ih := tot_le rs _ l h
      by_cases h0 : r.getD c 0 = 0
      · rw [h0, Rat.zero_add]
        exact Rat.le_trans ih (Rat.le_trans (bst_take rs u c) (bloop_le _))
      · exact Rat.le_trans (rle_add ih) (bloop_ge hc (fun hb => hb.elim hu h0))
theorem firstK_none {f : Nat → Rat} {r : List Rat} {u : Nat} {b : Rat} : ∀ {n k : Nat}, firstK f r u b k n = none → ∀ j, k ≤ j → j < k + n → ¬ okK f r u j b
  | 0, k, _, j, h1, h2 => by omega
  | n + 1, k, h, j, h1, h2 => by
    simp only [firstK] at h
    split at h
    · cases h
    · rename_i hno
      by_cases e : j = k
      · subst e; exact hno
      · exact firstK_none h j (by omega) (by omega)
/-- No weight that is taken is 0. -/
def taken : List (List Rat) → List Int → Prop
  | r :: rs, k :: l => (0 ≤ k → ¬ r.getD k.toNat 0 = 0) ∧ taken rs l
  | _, _ => True
theorem bestL_ok : ∀ (w : List (List Rat)) (u : Nat), feas w u (bestL w u) ∧ tot w (bestL w u) = bst w u ∧ taken w (bestL w u)
  | [], _ => ⟨trivial, rfl, trivial⟩
  | r :: rs, u => by
    simp only [bestL]
    cases h : firstK (bst rs) r u (bst (r :: rs) u) 0 r.length with
    | some k =>
      obtain ⟨_, h2, h3, h4, h5⟩ := firstK_lt h
      obtain ⟨i1, i2, i3⟩ := bestL_ok rs (u ||| 2 ^ k)
      refine ⟨.inr ⟨k, rfl, by omega, h3, i1⟩, ?_, fun _ => by rw [Int.toNat_natCast]; exact h4, i3⟩
      simp only [tot]
      rw [if_pos (by omega), Int.toNat_natCast, i2, h5]
    | none =>
      obtain ⟨i1, i2, i3⟩ := bestL_ok rs u
      refine ⟨.inl ⟨rfl, i1⟩, ?_, fun h => by omega, i3⟩
      simp only [tot]
      rw [if_neg (by decide), Rat.zero_add, i2]
      have hn := firstK_none h
      simp only [bst] at hn ⊢
      rcases bloop_hit (f := bst rs) (r := r) (u := u) (b := bst rs u) r.length with e | ⟨k, hk, hb, e⟩
      · exact e.symm
      · exact absurd ⟨fun h => hb (.inl h), fun h => hb (.inr h), e.symm⟩ (hn k (Nat.zero_le _) (by omega))
/-- The places of a list of columns, as a whole. -/
def plain (w : List (List Rat)) (u : Nat) (l : List Int) : Prop :=
  l.length = w.length ∧ (∀ i, i < l.length → -1 ≤ l.getD i 0 ∧ l.getD i 0 < ((w.getD i []).length : Nat)) ∧ (∀ i, i < l.length → 0 ≤ l.getD i 0 → ¬ u.testBit (l.getD i 0).toNat = true) ∧
    ∀ j, j < l.length → 0 ≤ l.getD j 0 → ∀ i, i < j → l.getD i 0 ≠ l.getD j 0
theorem feas_plain : ∀ (w : List (List Rat)) (u : Nat) (l : List Int), feas w u l ↔ plain w u l
  | [], u, [] => ⟨fun _ => ⟨rfl, by simp, by simp, by simp⟩, fun _ => trivial⟩
  | [], u, _ :: _ => ⟨fun h => h.elim, fun h => by have := h.1; simp at this⟩
  | _ :: _, u, [] => ⟨fun h => h.elim, fun h => by have := h.1; simp at this⟩
  | r :: rs, u, k :: l => by
    constructor
    · intro h
      simp only [feas] at h
      rcases h with ⟨rfl, h⟩ | ⟨c, rfl, hc, hu, h⟩
      · obtain ⟨p1, p2, p3, p4⟩ := (feas_plain rs u l).1 h
        refine ⟨by simp [p1], fun i hi => ?_, fun i hi h0 => ?_, fun j hj h0 i hij => ?_⟩
        · rcases i with _ | i
          · simp; omega
          · simpa using p2 i (by simpa using hi)
        · rcases i with _ | i
          · simp at h0
          · exact p3 i (by simpa using hi) (by simpa using h0)
        · rcases j with _ | j
          · omega
          · rcases i with _ | i
            · simp at h0 ⊢; omega
            · simpa using p4 j (by simpa using hj) (by simpa using h0) i (by omega)
      · obtain ⟨p1, p2, p3, p4⟩ := (feas_plain rs _ l).1 h
        refine ⟨by simp [p1], fun i hi => ?_, fun i hi h0 => ?_, fun j hj h0 i hij => ?_⟩
        · rcases i with _ | i
          · simp; omega
          · simpa using p2 i (by simpa using hi)
        · rcases i with _ | i
          · simp only [List.getD_cons_zero, Int.toNat_natCast]; exact hu
          · have := p3 i (by simpa using hi) (by simpa using h0)
            rw [bit_or] at this
            simp only [Bool.or_eq_true, not_or] at this
            exact this.1
        · rcases j with _ | j
          · omega
          · rcases i with _ | i
            · have := p3 j (by simpa using hj) (by simpa using h0)
              rw [bit_or] at this
              simp only [Bool.or_eq_true, not_or, decide_eq_true_eq] at this
              simp only [List.getD_cons_zero, List.getD_cons_succ] at h0 ⊢
              intro e
              exact this.2 (by omega)
            · simpa using p4 j (by simpa using hj) (by simpa using h0) i (by omega)
    · rintro ⟨p1, p2, p3, p4⟩
      have hk := p2 0 (by simp)
      simp only [List.getD_cons_zero] at hk
      simp only [feas]
      have rest : ∀ v, (∀ i, i < l.length → 0 ≤ l.getD i 0 → ¬ v.testBit (l.getD i 0).toNat = true) → feas rs v l := fun v hv =>
        (feas_plain rs v l).2 ⟨by simpa using p1, fun i hi => by simpa using p2 (i + 1) (by simpa using hi), hv,
          fun j hj h0 i hij => by simpa using p4 (j + 1) (by simpa using hj) (by simpa using h0) (i + 1) (by omega)⟩
      by_cases h0 : 0 ≤ k
      · obtain ⟨c, rfl⟩ : ∃ c : Nat, k = c := ⟨k.toNat, by omega⟩
        have hu := p3 0 (by simp) (by simpa using h0)
        simp only [List.getD_cons_zero, Int.toNat_natCast] at hu
        refine .inr ⟨c, rfl, by omega, hu, rest _ fun i hi h1 => ?_⟩
        have q1 := p3 (i + 1) (by simpa using hi) (by simpa using h1)
        have q2 := p4 (i + 1) (by simpa using hi) (by simpa using h1) 0 (by omega)
        simp only [List.getD_cons_zero, List.getD_cons_succ] at q1 q2
        rw [bit_or]
        simp only [Bool.or_eq_true, not_or, decide_eq_true_eq]
        exact ⟨q1, fun e => q2 (by omega)⟩
      · exact .inl ⟨by omega, rest u fun i hi h1 => by simpa using p3 (i + 1) (by simpa using hi) (by simpa using h1)⟩
theorem sumW_cons {r : List Rat} {rs : List (List Rat)} {k : Int} {l : List Int} : ∀ n, sumW (r :: rs) (k :: l) (n + 1) = lEnt (r :: rs) (k :: l) 0 + sumW rs l n
  | 0 => by simp only [sumW]; rw [Rat.zero_add, Rat.add_zero]
  | n + 1 => by
    rw [sumW, sumW_cons n, sumW, Rat.add_assoc]
    rfl
theorem sumW_tot : ∀ (w : List (List Rat)) (l : List Int), l.length = w.length → sumW w l l.length = tot w l
  | [], [], _ => rfl
  | [], _ :: _, h => by simp at h
  | _ :: _, [], h => by simp at h
  | r :: rs, k :: l, h => by
    rw [List.length_cons, sumW_cons, sumW_tot rs l (by simpa using h)]
    rfl
theorem not_zero (w : List (List Rat)) : ∀ (l : List Int) (i : Nat), l.length = w.length → taken w l → i < l.length → 0 ≤ l.getD i 0 → ¬ (w.getD i []).getD (l.getD i 0).toNat 0 = 0 := by
  induction w with
  | nil => intro l i hl _ hi; rw [hl] at hi; simp at hi
  | cons r rs ih =>
    intro l i hl ht hi h0
    cases l with
    | nil => simp at hl
    | cons k l =>
      simp only [taken] at ht
      rcases i with _ | i
      · exact ht.1 h0
      · exact ih l i (by simpa using hl) ht.2 (by simpa using hi) h0
/-- What is said of the best assignment: its weight is told, and no other is heavier. -/
theorem best_weight {w : List (List Rat)} (hv : validE w = 0) : weightR w (bestL w 0) = .tup [Frac (bst w 0), .int .i64 0] := by
  obtain ⟨f, t, _⟩ := bestL_ok w 0
  obtain ⟨p1, p2, p3, p4⟩ := (feas_plain w 0 _).1 f
  rw [wr_e hv p1 (not_bad p2) (no_dup p4), sumW_tot w _ p1, t]
theorem best_most {w : List (List Rat)} {l : List Int} : (∃ d : Int × Int, weightR w l = .tup [FracI d.1 d.2, .int .i64 0] ∧ ∃ s, FracI d.1 d.2 = Frac s ∧ s = sumW w l l.length ∧ s ≤ bst w 0) ∨ ∃ e, e ≠ 0 ∧ ∃ n d, weightR w l = .tup [FracI n d, .int .i64 e] ∧ n = 0 ∧ d = 0 := by
  by_cases hv : validE w = 0
  · by_cases h1 : l.length = w.length
    · by_cases h2 : badE w l
      · exact .inr ⟨2, by decide, 0, 0, by rw [wr_c hv h1 h2, Zf_I], rfl, rfl⟩
      · by_cases h3 : dupE l
        · exact .inr ⟨6, by decide, 0, 0, by rw [wr_d hv h1 h2 h3, Zf_I], rfl, rfl⟩
        · left
          have hp : plain w 0 l := by
            refine ⟨h1, fun i hi => ?_, fun i hi h0 => by simp, fun j hj h0 i hij he => h3 ⟨j, hj, i, hij, h0, he⟩⟩
            by_cases h4 : l.getD i 0 < -1 ∨ (((w.getD i []).length : Nat) : Int) ≤ l.getD i 0
            · exact absurd ⟨i, hi, h4⟩ h2
            · omega
          refine ⟨((sumW w l l.length).num, (sumW w l l.length).den), by rw [wr_e hv h1 h2 h3, Frac_I], _, (Frac_I _).symm, rfl, ?_⟩
          rw [sumW_tot w l h1]
          exact tot_le w 0 l ((feas_plain w 0 l).2 hp)
    · exact .inr ⟨1, by decide, 0, 0, by rw [wr_b hv h1, Zf_I], rfl, rfl⟩
  · exact .inr ⟨validE w, hv, 0, 0, by rw [wr_a hv, Zf_I], rfl, rfl⟩
end Go.Proofs.YtkppgdialedoeaaDoor

namespace Go.Proofs.YtkppgdialedoeaaDoor
open Go Go.Proofs Go.Abs
variable {G : Globals}
/-- All lists of columns, or none, for so many rows. -/
def allL (c : Nat) : Nat → List (List Int)
  | 0 => [[]]
  | n + 1 => (allL c n).flatMap fun a => (List.range (c + 1)).map fun k : Nat => a ++ [(k : Int) - 1]
theorem allL_ok {c : Nat} : ∀ {n : Nat} {a : List Int}, a ∈ allL c n → a.length = n ∧ ∀ k ∈ a, -1 ≤ k ∧ k ≤ c
  | 0, a, h => by simp [allL] at h; subst h; simp
  | n + 1, a, h => by
    simp only [allL, List.mem_flatMap, List.mem_map, List.mem_range] at h
    obtain ⟨b, hb, k, hk, rfl⟩ := h
    obtain ⟨h1, h2⟩ := allL_ok hb
    refine ⟨by simp [h1], fun x hx => ?_⟩
    rcases List.mem_append.1 hx with hx | hx
    · exact h2 x hx
    · simp at hx; subst hx; omega
theorem allL_len {c : Nat} : ∀ n : Nat, (allL c n).length = (c + 1) ^ n
  | 0 => rfl
  | n + 1 => by
    have gen : ∀ l : List (List Int), (l.flatMap fun a => (List.range (c + 1)).map fun k : Nat => a ++ [(k : Int) - 1]).length = l.length * (c + 1) := by
      intro l
      induction l with
      | nil => simp
      | cons x l ih => simp [List.flatMap_cons, ih, Nat.add_mul, Nat.add_comm]
    simp only [allL]
    rw [gen, allL_len n, Nat.pow_succ]
/-- Lists of lists of ints. -/
def LL (l : List (List Int)) : List D := l.map fun a => .sl a.length false (ints .i64 a)
theorem LL_length {l : List (List Int)} : (LL l).length = l.length := by simp [LL]
theorem LL_get {l : List (List Int)} {i : Nat} {d : D} (h : i < l.length) : (LL l).getD i d = .sl (l.getD i []).length false (ints .i64 (l.getD i [])) := by
  simp [LL, List.getD_eq_getElem?_getD, List.getElem?_map, List.getElem?_eq_getElem h]
theorem LL_push {l : List (List Int)} {a : List Int} {n : Nat} (h : n = a.length) : LL l ++ [.sl n false (ints .i64 a)] = LL (l ++ [a]) := by subst h; simp [LL]
theorem LL_one : [D.sl 0 false []] = LL [[]] := rfl
theorem OkI.of {l : List Int} (h : ∀ k ∈ l, -1000 ≤ k ∧ k ≤ 1000) : OkI l := by
  intro i
  rcases Nat.lt_or_ge i l.length with hi | hi
  · have := h _ (mem_getD (d := 0) hi); omega
  · rw [List.getD_eq_getElem?_getD, List.getElem?_eq_none hi]; simp
theorem matW_valid {t : List Int} {k r c : Nat} (hr : r ≤ 8) (hc : c ≤ 8) : validE (matW t k r c) = 0 := by
  have hrow : ∀ i, i < r → (matW t k r c).getD i [] = rowW t (k + 2 * c * i) c := fun i hi => by
    simp [matW, List.getD_eq_getElem?_getD, List.getElem?_map, List.getElem?_range hi]
  have hlen : ∀ i, i < (matW t k r c).length → ((matW t k r c).getD i []).length = c := fun i hi => by
    rw [hrow i (by rwa [matW_length] at hi), rowW_length]
  refine ve_e (side8_of (by rw [matW_length]; omega) (fun i hi => by rw [hlen i hi]; exact hc)) (sameL_of fun i hi => by rw [hlen i hi, hlen 0 (by omega)]) (fun i hi j hj => ?_)
  rw [hlen i hi] at hj
  rw [hrow i (by rwa [matW_length] at hi)]
  have : (rowW t (k + 2 * c * i) c).getD j 0 = ent t (k + 2 * c * i + 2 * j) := by
    simp [rowW, List.getD_eq_getElem?_getD, List.getElem?_map, List.getElem?_range hj]
  rw [this]
  exact Rat.not_lt.2 ent_Sm.2
theorem bestL_small {w : List (List Rat)} (hr : ∀ i, (w.getD i []).length ≤ 8) : ∀ k ∈ bestL w 0, -1000 ≤ k ∧ k ≤ 1000 := by
  obtain ⟨f, _, _⟩ := bestL_ok w 0
  obtain ⟨p1, p2, _, _⟩ := (feas_plain w 0 _).1 f
  intro k hk
  obtain ⟨i, hi, rfl⟩ := getD_of_mem (d := 0) hk
  have := p2 i hi
  have := hr i
  omega
def extL (c : Nat) (a : List Int) (q : Nat) : List (List Int) := (List.range q).map fun k : Nat => a ++ [(k : Int) - 1]
theorem extL_push {c q : Nat} {a : List Int} : extL c a q ++ [a ++ [(q : Int) - 1]] = extL c a (q + 1) := by simp [extL, List.range_succ]
def nextL (c : Nat) (l : List (List Int)) (j : Nat) : List (List Int) := (l.take j).flatMap fun a => extL c a (c + 1)
theorem nextL_push {c j : Nat} {l : List (List Int)} (h : j < l.length) : nextL c l j ++ extL c (l.getD j []) (c + 1) = nextL c l (j + 1) := by
  unfold nextL
  rw [List.take_add_one, List.getElem?_eq_getElem h, List.flatMap_append]
  simp [List.getD_eq_getElem?_getD, List.getElem?_eq_getElem h]
theorem nextL_all {c n : Nat} : nextL c (allL c n) (allL c n).length = allL c (n + 1) := by
  rw [nextL, List.take_of_length_le (Nat.le_refl _)]; rfl
theorem extL_length {c q : Nat} {a : List Int} : (extL c a q).length = q := by simp [extL]
theorem nextL_length {c : Nat} {l : List (List Int)} : ∀ {j : Nat}, j ≤ l.length → (nextL c l j).length = j * (c + 1)
  | 0, _ => by simp [nextL]
  | j + 1, h => by
    rw [← nextL_push (by omega), List.length_append, nextL_length (by omega), extL_length, Nat.add_mul]; omega
theorem allL_bound {c n : Nat} (hc : c ≤ 8) (hn : n ≤ 8) : (allL c n).length ≤ 43046721 := by
  rw [allL_len]
  calc (c + 1) ^ n ≤ 9 ^ n := Nat.pow_le_pow_left (by omega) n
    _ ≤ 9 ^ 8 := Nat.pow_le_pow_right (by decide) hn
theorem getD_mem_all {c n j : Nat} (h : j < (allL c n).length) : ((allL c n).getD j []).length = n ∧ ∀ k ∈ (allL c n).getD j [], -1 ≤ k ∧ k ≤ c := allL_ok (mem_getD h)
set_option maxHeartbeats 8000000 in
set_option maxRecDepth 100000 in
theorem most_law (hG : HG G) (t : List Int) (ht : OkI t) : Ctr Tryd.prog G 8 [.d (.sl t.length false (ints .i64 t))] [] (.d (.bool true)) [] := by
  refine Ctr.pure (M := M0) hmix Tryd.func8 rfl go8 ?_
  simp (config := { maxSteps := 1000000 }) (disch := ((try simp only [awL]); omega)) only [Tryd.f8, ↓awU, awV, awF, ofVal, ofVal0, isShift, aggK, forall_const, ↓reduceIte, ↓reduceDIte, ↓purePost, combine, idsA, cellsA, numsOf, srcA, calleeA, refsA, isScalar, scalarD, scalar0, AV.one, putL, unfA, implies_true, IntKind.signed, Nat.reduceAdd, Nat.reduceSub, Nat.reduceMul, Nat.reducePow, Nat.reduceDiv, Nat.reduceMod, Int.reduceAdd, Int.reduceSub, Int.reduceMul, Int.reducePow, Int.reduceNeg, Int.reduceToNat, Int.reduceLT, Int.reduceLE, Nat.reduceEqDiff, sidsB, Nat.reduceBEq, keyKD, isIntK]
  refine CallC.pure (light_spec t) ?_
  by_cases hl : t.length ≤ 500
  · rw [decide_eq_true hl]
    have hT : OkT t := ⟨hl, ht⟩
    simp (config := { maxSteps := 1000000 }) (disch := ((try simp only [awL]); omega)) only [↓awU, awV, awF, ofVal, ofVal0, isShift, aggK, forall_const, ↓reduceIte, ↓reduceDIte, ↓purePost, combine, idsA, cellsA, numsOf, srcA, calleeA, refsA, isScalar, scalarD, scalar0, AV.one, putL, unfA, implies_true, IntKind.signed, Nat.reduceAdd, Nat.reduceSub, Nat.reduceMul, Nat.reducePow, Nat.reduceDiv, Nat.reduceMod, Int.reduceAdd, Int.reduceSub, Int.reduceMul, Int.reducePow, Int.reduceNeg, Int.reduceToNat, Int.reduceLT, Int.reduceLE, Nat.reduceEqDiff, sidsB, Nat.reduceBEq, keyKD, isIntK]
    refine CallC.by (roll_spec t hl) rfl rfl (Nat.zero_le _) ?_
    simp (config := { maxSteps := 1000000 }) (disch := ((try simp only [awL]); omega)) only [↓awU, awV, awF, ofVal, ofVal0, isShift, aggK, forall_const, ↓reduceIte, ↓reduceDIte, ↓purePost, combine, idsA, cellsA, numsOf, srcA, calleeA, refsA, isScalar, scalarD, scalar0, AV.one, putL, unfA, implies_true, IntKind.signed, Nat.reduceAdd, Nat.reduceSub, Nat.reduceMul, Nat.reducePow, Nat.reduceDiv, Nat.reduceMod, Int.reduceAdd, Int.reduceSub, Int.reduceMul, Int.reducePow, Int.reduceNeg, Int.reduceToNat, Int.reduceLT, Int.reduceLE, Nat.reduceEqDiff, sidsB, Nat.reduceBEq, keyKD, isIntK]
    refine CallC.by (next_spec t 0 4 hT (by decide) (by decide)) (by rfl) (by rfl) (Nat.le_refl _) ?_
    simp (config := { maxSteps := 1000000 }) (disch := ((try simp only [awL]); omega)) only [↓awU, awV, awF, ofVal, ofVal0, isShift, aggK, forall_const, ↓reduceIte, ↓reduceDIte, ↓purePost, combine, idsA, cellsA, numsOf, srcA, calleeA, refsA, isScalar, scalarD, scalar0, AV.one, putL, unfA, implies_true, IntKind.signed, Nat.reduceAdd, Nat.reduceSub, Nat.reduceMul, Nat.reducePow, Nat.reduceDiv, Nat.reduceMod, Int.reduceAdd, Int.reduceSub, Int.reduceMul, Int.reducePow, Int.reduceNeg, Int.reduceToNat, Int.reduceLT, Int.reduceLE, Nat.reduceEqDiff, sidsB, Nat.reduceBEq, keyKD, isIntK]
    refine CallC.by (next_spec t 1 4 hT (by decide) (by decide)) (by rfl) (by rfl) (Nat.le_refl _) ?_
    simp (config := { maxSteps := 1000000 }) (disch := ((try simp only [awL]); omega)) only [↓awU, awV, awF, ofVal, ofVal0, isShift, aggK, forall_const, ↓reduceIte, ↓reduceDIte, ↓purePost, combine, idsA, cellsA, numsOf, srcA, calleeA, refsA, isScalar, scalarD, scalar0, AV.one, putL, unfA, implies_true, IntKind.signed, Nat.reduceAdd, Nat.reduceSub, Nat.reduceMul, Nat.reducePow, Nat.reduceDiv, Nat.reduceMod, Int.reduceAdd, Int.reduceSub, Int.reduceMul, Int.reducePow, Int.reduceNeg, Int.reduceToNat, Int.reduceLT, Int.reduceLE, Nat.reduceEqDiff, sidsB, Nat.reduceBEq, keyKD, isIntK]
    have n1 := @nx_range t 0 4 (by decide)
    have n2 := @nx_range t 1 4 (by decide)
    obtain ⟨r, hr'⟩ : ∃ r : Nat, nx t 0 4 = r := ⟨(nx t 0 4).toNat, by omega⟩
    obtain ⟨c, hc'⟩ : ∃ c : Nat, nx t 1 4 = c := ⟨(nx t 1 4).toNat, by omega⟩
    rw [hr', hc']
    refine CallC.by (weights_spec t 2 r c hT (by omega) (by omega)) (by rfl) (by rfl) (Nat.le_refl _) ?_
    have hw := @matW_ok t 2 r c (by omega) (by omega)
    have hv := @matW_valid t 2 r c (by omega) (by omega)
    have hwl := @matW_length t 2 r c
    generalize matW t 2 r c = w at *
    generalize 2 + 2 * c * r = K at *
    have ml := @MxL_length w
    have hr8 := (valid_sides hv).2
    have ebr : bestR w = .tup [.sl (bestL w 0).length false (ints .i64 (bestL w 0)), Frac (bst w 0), .int .i64 0] := by rw [bestR, if_neg (by simp [hv])]
    have ebw := best_weight hv
    have fbst := (bst_Sm w (fun r hr => hw.sm r hr) 0).FV (by omega)
    obtain ⟨bf, _, btk⟩ := bestL_ok w 0
    obtain ⟨bp1, bp2, _, _⟩ := (feas_plain w 0 _).1 bf
    have bok := OkI.of (bestL_small (w := w) hr8)
    simp (config := { maxSteps := 1000000 }) (disch := ((try simp only [awL]); omega)) only [↓awU, awV, awF, ofVal, ofVal0, isShift, aggK, forall_const, ↓reduceIte, ↓reduceDIte, ↓purePost, combine, idsA, cellsA, numsOf, srcA, calleeA, refsA, isScalar, scalarD, scalar0, AV.one, putL, unfA, implies_true, IntKind.signed, Nat.reduceAdd, Nat.reduceSub, Nat.reduceMul, Nat.reducePow, Nat.reduceDiv, Nat.reduceMod, Int.reduceAdd, Int.reduceSub, Int.reduceMul, Int.reducePow, Int.reduceNeg, Int.reduceToNat, Int.reduceLT, Int.reduceLE, Nat.reduceEqDiff, sidsB, Nat.reduceBEq, keyKD, isIntK]
    refine CallC.pure (best_spec hG w hw) ?_
    rw [ebr]
    generalize bestL w 0 = bl at *
    simp (config := { maxSteps := 1000000 }) (disch := ((try simp only [awL]); omega)) only [↓awU, awV, awF, ofVal, ofVal0, isShift, aggK, forall_const, ↓reduceIte, ↓reduceDIte, ↓purePost, combine, idsA, cellsA, numsOf, srcA, calleeA, refsA, isScalar, scalarD, scalar0, AV.one, putL, unfA, implies_true, IntKind.signed, Nat.reduceAdd, Nat.reduceSub, Nat.reduceMul, Nat.reducePow, Nat.reduceDiv, Nat.reduceMod, Int.reduceAdd, Int.reduceSub, Int.reduceMul, Int.reducePow, Int.reduceNeg, Int.reduceToNat, Int.reduceLT, Int.reduceLE, Nat.reduceEqDiff, sidsB, Nat.reduceBEq, keyKD, isIntK]
    refine CallC.pure (weight_spec hG w bl hw (by omega) bok) ?_
    rw [ebw]
    simp (config := { maxSteps := 1000000 }) (disch := ((try simp only [awL]); omega)) only [↓awU, awV, awF, ofVal, ofVal0, isShift, aggK, forall_const, ↓reduceIte, ↓reduceDIte, ↓purePost, combine, idsA, cellsA, numsOf, srcA, calleeA, refsA, isScalar, scalarD, scalar0, AV.one, putL, unfA, implies_true, IntKind.signed, Nat.reduceAdd, Nat.reduceSub, Nat.reduceMul, Nat.reducePow, Nat.reduceDiv, Nat.reduceMod, Int.reduceAdd, Int.reduceSub, Int.reduceMul, Int.reducePow, Int.reduceNeg, Int.reduceToNat, Int.reduceLT, Int.reduceLE, Nat.reduceEqDiff, sidsB, Nat.reduceBEq, keyKD, isIntK]
    refine CallC.pure (sameF_spec _ _ fbst fbst) ?_
    rw [decide_eq_true rfl]
    simp (config := { maxSteps := 1000000 }) (disch := ((try simp only [awL]); omega)) only [↓awU, awV, awF, ofVal, ofVal0, isShift, aggK, forall_const, ↓reduceIte, ↓reduceDIte, ↓purePost, combine, idsA, cellsA, numsOf, srcA, calleeA, refsA, isScalar, scalarD, scalar0, AV.one, putL, unfA, implies_true, IntKind.signed, Nat.reduceAdd, Nat.reduceSub, Nat.reduceMul, Nat.reducePow, Nat.reduceDiv, Nat.reduceMod, Int.reduceAdd, Int.reduceSub, Int.reduceMul, Int.reducePow, Int.reduceNeg, Int.reduceToNat, Int.reduceLT, Int.reduceLE, Nat.reduceEqDiff, sidsB, Nat.reduceBEq, keyKD, isIntK]
    refine LoopC.fr 38111625095145107907898820723486494818384 (α := Nat) (fun k => bl.length - k) (fun k => [(60, .d (.int .i64 k)), (68, .undef), (69, .undef), (70, .undef), (71, .undef), (72, .undef), (73, .undef), (74, .undef), (75, .undef), (76, .undef)])
      (fun _ => [DiceB t K, .box [.d (.bool (decide ((bst w 0).num < 0))), .d (W (toW (bst w 0).num.natAbs)), .d (.bool false), .d (W (toW (bst w 0).den))], .dead]) (fun k => k ≤ bl.length) 0 (Nat.zero_le _) ?_ ?_
    · exact ⟨[some 0, some 1, some 2], rfl, by simp, by simp [setsA, keepA, SWeak, AWeak], by simp [HWeak, BWeak, SWeak, AWeak]⟩
    · intro k hk
      simp only [keepA_z8, keepA_z, keepA_cons, keepA_nil, setsA_nil, setsA_cons, List.set_cons_zero, List.set_cons_succ, set_8, Nat.reduceMod, Nat.reduceDiv, Nat.zero_mod, Nat.zero_ne_one, if_true, if_false, reduceIte]
      rcases Nat.lt_or_ge k bl.length with h1 | h1
      · obtain ⟨q1, q2⟩ := bp2 k h1
        have q3 := hr8 k
        have fl := @Fr_length (w.getD k [])
        by_cases h0 : 0 ≤ bl.getD k 0
        · have hz := not_zero w bl k bp1 btk h1 h0
          simp (config := { maxSteps := 1000000 }) (disch := ((try simp only [awL]); omega)) only [ml, MxL_get, fl, Fr_get, ↓awU, awV, awF, ofVal, ofVal0, isShift, aggK, forall_const, ↓reduceIte, ↓reduceDIte, ↓purePost, combine, idsA, cellsA, numsOf, srcA, calleeA, refsA, isScalar, scalarD, scalar0, AV.one, putL, unfA, implies_true, IntKind.signed, Nat.reduceAdd, Nat.reduceSub, Nat.reduceMul, Nat.reducePow, Nat.reduceDiv, Nat.reduceMod, Int.reduceAdd, Int.reduceSub, Int.reduceMul, Int.reducePow, Int.reduceNeg, Int.reduceToNat, Int.reduceLT, Int.reduceLE, Nat.reduceEqDiff, sidsB, Nat.reduceBEq, keyKD, isIntK]
          refine CallC.pure rzero_spec ?_
          simp (config := { maxSteps := 1000000 }) (disch := ((try simp only [awL]); omega)) only [↓awU, awV, awF, ofVal, ofVal0, isShift, aggK, forall_const, ↓reduceIte, ↓reduceDIte, ↓purePost, combine, idsA, cellsA, numsOf, srcA, calleeA, refsA, isScalar, scalarD, scalar0, AV.one, putL, unfA, implies_true, IntKind.signed, Nat.reduceAdd, Nat.reduceSub, Nat.reduceMul, Nat.reducePow, Nat.reduceDiv, Nat.reduceMod, Int.reduceAdd, Int.reduceSub, Int.reduceMul, Int.reducePow, Int.reduceNeg, Int.reduceToNat, Int.reduceLT, Int.reduceLE, Nat.reduceEqDiff, sidsB, Nat.reduceBEq, keyKD, isIntK]
          refine CallC.pure (sameF_spec _ _ (hw.fvs.at (by omega) (by omega)) FV0) ?_
          rw [decide_eq_false hz]
          simp (config := { maxSteps := 1000000 }) (disch := ((try simp only [awL]); omega)) only [↓awU, awV, awF, ofVal, ofVal0, isShift, aggK, forall_const, ↓reduceIte, ↓reduceDIte, ↓purePost, combine, idsA, cellsA, numsOf, srcA, calleeA, refsA, isScalar, scalarD, scalar0, AV.one, putL, unfA, implies_true, IntKind.signed, Nat.reduceAdd, Nat.reduceSub, Nat.reduceMul, Nat.reducePow, Nat.reduceDiv, Nat.reduceMod, Int.reduceAdd, Int.reduceSub, Int.reduceMul, Int.reducePow, Int.reduceNeg, Int.reduceToNat, Int.reduceLT, Int.reduceLE, Nat.reduceEqDiff, sidsB, Nat.reduceBEq, keyKD, isIntK]
          exact ⟨by rfl, k + 1, h1, by simp only; omega, ⟨[some 0, some 1, some 2], rfl, by simp, by simp [setsA, keepA, SWeak, AWeak], by simp [HWeak, BWeak, SWeak, AWeak]⟩⟩
        · simp (config := { maxSteps := 1000000 }) (disch := ((try simp only [awL]); omega)) only [↓awU, awV, awF, ofVal, ofVal0, isShift, aggK, forall_const, ↓reduceIte, ↓reduceDIte, ↓purePost, combine, idsA, cellsA, numsOf, srcA, calleeA, refsA, isScalar, scalarD, scalar0, AV.one, putL, unfA, implies_true, IntKind.signed, Nat.reduceAdd, Nat.reduceSub, Nat.reduceMul, Nat.reducePow, Nat.reduceDiv, Nat.reduceMod, Int.reduceAdd, Int.reduceSub, Int.reduceMul, Int.reducePow, Int.reduceNeg, Int.reduceToNat, Int.reduceLT, Int.reduceLE, Nat.reduceEqDiff, sidsB, Nat.reduceBEq, keyKD, isIntK]
          exact ⟨by rfl, k + 1, h1, by simp only; omega, ⟨[some 0, some 1, some 2], rfl, by simp, by simp [setsA, keepA, SWeak, AWeak], by simp [HWeak, BWeak, SWeak, AWeak]⟩⟩
      · obtain ⟨cN, hcN⟩ : ∃ cN : Nat, (w.getD 0 []).length = cN := ⟨_, rfl⟩
        have hc8 := hr8 0
        rw [hcN] at hc8
        by_cases hw0 : 0 < w.length
        · simp (config := { maxSteps := 1000000 }) (disch := ((try simp only [awL]); omega)) only [ml, MxL_get, hcN, ↓awU, awV, awF, ofVal, ofVal0, isShift, aggK, forall_const, ↓reduceIte, ↓reduceDIte, ↓purePost, combine, idsA, cellsA, numsOf, srcA, calleeA, refsA, isScalar, scalarD, scalar0, AV.one, putL, unfA, implies_true, IntKind.signed, Nat.reduceAdd, Nat.reduceSub, Nat.reduceMul, Nat.reducePow, Nat.reduceDiv, Nat.reduceMod, Int.reduceAdd, Int.reduceSub, Int.reduceMul, Int.reducePow, Int.reduceNeg, Int.reduceToNat, Int.reduceLT, Int.reduceLE, Nat.reduceEqDiff, sidsB, Nat.reduceBEq, keyKD, isIntK]
          refine LoopC.fr 38111625095145417392907777377426764468304 (α := Nat) (fun i => w.length - i) (fun i => [(13, .lsl 3 1 0 (allL cN i).length), (89, .d (.int .i64 i))])
            (fun i => [DiceB t K, .box [.d (.bool (decide ((bst w 0).num < 0))), .d (W (toW (bst w 0).num.natAbs)), .d (.bool false), .d (W (toW (bst w 0).den))], .dead, .row false (LL (allL cN i))]) (fun i => i ≤ w.length) 0 (Nat.zero_le _) ?_ ?_
          · exact ⟨[some 0, some 1, some 2, some 3], rfl, by simp, by simp [setsA, keepA, SWeak, AWeak, allL], by simp [HWeak, BWeak, SWeak, AWeak, allL, LL, ints]⟩
          · intro i hi
            simp only [keepA_z8, keepA_z, keepA_cons, keepA_nil, setsA_nil, setsA_cons, List.set_cons_zero, List.set_cons_succ, set_8, Nat.reduceMod, Nat.reduceDiv, Nat.zero_mod, Nat.zero_ne_one, if_true, if_false, reduceIte]
            have hab := allL_bound (c := cN) (n := i) hc8 (by omega)
            have lll := @LL_length (allL cN i)
            rcases Nat.lt_or_ge i w.length with h2 | h2
            · simp (config := { maxSteps := 1000000 }) (disch := ((try simp only [awL]); omega)) only [↓awU, awV, awF, ofVal, ofVal0, isShift, aggK, forall_const, ↓reduceIte, ↓reduceDIte, ↓purePost, combine, idsA, cellsA, numsOf, srcA, calleeA, refsA, isScalar, scalarD, scalar0, AV.one, putL, unfA, implies_true, IntKind.signed, Nat.reduceAdd, Nat.reduceSub, Nat.reduceMul, Nat.reducePow, Nat.reduceDiv, Nat.reduceMod, Int.reduceAdd, Int.reduceSub, Int.reduceMul, Int.reducePow, Int.reduceNeg, Int.reduceToNat, Int.reduceLT, Int.reduceLE, Nat.reduceEqDiff, sidsB, Nat.reduceBEq, keyKD, isIntK]
              refine LoopC.fr 38111625095153464003163132349213608775760 (α := Nat) (fun j => (allL cN i).length - j) (fun j => [(14, .lsl 4 1 0 (nextL cN (allL cN i) j).length), (93, .d (.int .i64 j))])
                (fun j => [DiceB t K, .box [.d (.bool (decide ((bst w 0).num < 0))), .d (W (toW (bst w 0).num.natAbs)), .d (.bool false), .d (W (toW (bst w 0).den))], .dead, .row false (LL (allL cN i)), .row false (LL (nextL cN (allL cN i) j))]) (fun j => j ≤ (allL cN i).length) 0 (Nat.zero_le _) ?_ ?_
              · exact ⟨[some 0, some 1, some 2, some 3, none], rfl, by simp, by simp [setsA, keepA, SWeak, AWeak, nextL], by simp [HWeak, BWeak, SWeak, AWeak, nextL, LL]⟩
              · intro j hj
                simp only [keepA_z8, keepA_z, keepA_cons, keepA_nil, setsA_nil, setsA_cons, List.set_cons_zero, List.set_cons_succ, set_8, Nat.reduceMod, Nat.reduceDiv, Nat.zero_mod, Nat.zero_ne_one, if_true, if_false, reduceIte]
                have nln := nextL_length (c := cN) hj
                have nlb : j * (cN + 1) ≤ 43046721 * 9 := Nat.mul_le_mul (by omega) (by omega)
                have pl := @LL_length (nextL cN (allL cN i) j)
                rcases Nat.lt_or_ge j (allL cN i).length with h3 | h3
                · obtain ⟨gl, gk⟩ := getD_mem_all h3
                  have npu := nextL_push (c := cN) h3
                  generalize hga : (allL cN i).getD j [] = a at *
                  simp (config := { maxSteps := 1000000 }) (disch := ((try simp only [awL]); omega)) only [lll, LL_get, hga, ↓awU, awV, awF, ofVal, ofVal0, isShift, aggK, forall_const, ↓reduceIte, ↓reduceDIte, ↓purePost, combine, idsA, cellsA, numsOf, srcA, calleeA, refsA, isScalar, scalarD, scalar0, AV.one, putL, unfA, implies_true, IntKind.signed, Nat.reduceAdd, Nat.reduceSub, Nat.reduceMul, Nat.reducePow, Nat.reduceDiv, Nat.reduceMod, Int.reduceAdd, Int.reduceSub, Int.reduceMul, Int.reducePow, Int.reduceNeg, Int.reduceToNat, Int.reduceLT, Int.reduceLE, Nat.reduceEqDiff, sidsB, Nat.reduceBEq, keyKD, isIntK]
                  refine LoopC.fr 38111625095163367523477415391412801835088 (α := Nat) (fun q => cN + 1 - q) (fun q => [(14, .lsl 4 1 0 ((nextL cN (allL cN i) j).length + q)), (17, .d (.int .i64 ((q : Int) - 1)))])
                    (fun q => [DiceB t K, .box [.d (.bool (decide ((bst w 0).num < 0))), .d (W (toW (bst w 0).num.natAbs)), .d (.bool false), .d (W (toW (bst w 0).den))], .dead, .row false (LL (allL cN i)), .row false (LL (nextL cN (allL cN i) j ++ extL cN a q))]) (fun q => q ≤ cN + 1) 0 (Nat.zero_le _) ?_ ?_
                  · exact ⟨[some 0, some 1, some 2, some 3, some 4], rfl, by simp, by simp [setsA, keepA, SWeak, AWeak], by simp [HWeak, BWeak, SWeak, AWeak, extL]⟩
                  · intro q hq
                    simp only [keepA_z8, keepA_z, keepA_cons, keepA_nil, setsA_nil, setsA_cons, List.set_cons_zero, List.set_cons_succ, set_8, Nat.reduceMod, Nat.reduceDiv, Nat.zero_mod, Nat.zero_ne_one, if_true, if_false, reduceIte]
                    have pl2 : (LL (nextL cN (allL cN i) j ++ extL cN a q)).length = (nextL cN (allL cN i) j).length + q := by rw [LL_length, List.length_append, extL_length]
                    rcases Nat.lt_or_ge q (cN + 1) with h4 | h4
                    · have el : LL (nextL cN (allL cN i) j ++ extL cN a q) ++ [D.sl (a.length + 1) false (cut (ints .i64 a ++ [D.int .i64 ((q : Int) - 1)]) 0 (a.length + 1))] = LL (nextL cN (allL cN i) j ++ extL cN a (q + 1)) := by
                        rw [ints_one, ints_append, cut_all (by rw [ints_length]; simp), LL_push (by simp), List.append_assoc, extL_push]
                      simp (config := { maxSteps := 1000000 }) (disch := ((try simp only [awL]); omega)) only [pl2, ints_length, el, ↓awU, awV, awF, ofVal, ofVal0, isShift, aggK, forall_const, ↓reduceIte, ↓reduceDIte, ↓purePost, combine, idsA, cellsA, numsOf, srcA, calleeA, refsA, isScalar, scalarD, scalar0, AV.one, putL, unfA, implies_true, IntKind.signed, Nat.reduceAdd, Nat.reduceSub, Nat.reduceMul, Nat.reducePow, Nat.reduceDiv, Nat.reduceMod, Int.reduceAdd, Int.reduceSub, Int.reduceMul, Int.reducePow, Int.reduceNeg, Int.reduceToNat, Int.reduceLT, Int.reduceLE, Nat.reduceEqDiff, sidsB, Nat.reduceBEq, keyKD, isIntK]
                      refine ⟨q + 1, h4, by simp only; omega, [some 0, some 1, some 2, some 3, some 8], rfl, by simp, ?_, by simp [HWeak, BWeak, SWeak, AWeak]⟩
                      simp [SWeak, AWeak]
                      omega
                    · have eq : q = cN + 1 := by omega
                      subst eq
                      have enl := extL_length (c := cN) (a := a) (q := cN + 1)
                      have e5 : (nextL cN (allL cN i) (j + 1)).length = (nextL cN (allL cN i) j).length + (cN + 1) := by rw [← npu, List.length_append, enl]
                      rw [npu]
                      simp (config := { maxSteps := 1000000 }) (disch := ((try simp only [awL]); omega)) only [pl2, ↓awU, awV, awF, ofVal, ofVal0, isShift, aggK, forall_const, ↓reduceIte, ↓reduceDIte, ↓purePost, combine, idsA, cellsA, numsOf, srcA, calleeA, refsA, isScalar, scalarD, scalar0, AV.one, putL, unfA, implies_true, IntKind.signed, Nat.reduceAdd, Nat.reduceSub, Nat.reduceMul, Nat.reducePow, Nat.reduceDiv, Nat.reduceMod, Int.reduceAdd, Int.reduceSub, Int.reduceMul, Int.reducePow, Int.reduceNeg, Int.reduceToNat, Int.reduceLT, Int.reduceLE, Nat.reduceEqDiff, sidsB, Nat.reduceBEq, keyKD, isIntK]
                      refine ⟨j + 1, h3, by simp only; omega, [some 0, some 1, some 2, some 3, some 4], rfl, by simp, ?_, by simp [HWeak, BWeak, SWeak, AWeak]⟩
                      simp [SWeak, AWeak, e5]
                · have ej : j = (allL cN i).length := by omega
                  subst ej
                  rw [nextL_all]
                  simp (config := { maxSteps := 1000000 }) (disch := ((try simp only [awL]); omega)) only [pl, ↓awU, awV, awF, ofVal, ofVal0, isShift, aggK, forall_const, ↓reduceIte, ↓reduceDIte, ↓purePost, combine, idsA, cellsA, numsOf, srcA, calleeA, refsA, isScalar, scalarD, scalar0, AV.one, putL, unfA, implies_true, IntKind.signed, Nat.reduceAdd, Nat.reduceSub, Nat.reduceMul, Nat.reducePow, Nat.reduceDiv, Nat.reduceMod, Int.reduceAdd, Int.reduceSub, Int.reduceMul, Int.reducePow, Int.reduceNeg, Int.reduceToNat, Int.reduceLT, Int.reduceLE, Nat.reduceEqDiff, sidsB, Nat.reduceBEq, keyKD, isIntK]
                  exact ⟨i + 1, h2, by simp only; omega, ⟨[some 0, some 1, some 2, some 4], rfl, by simp, by simp [setsA, keepA, SWeak, AWeak], by simp [HWeak, BWeak, SWeak, AWeak]⟩⟩
            · simp (config := { maxSteps := 1000000 }) (disch := ((try simp only [awL]); omega)) only [↓awU, awV, awF, ofVal, ofVal0, isShift, aggK, forall_const, ↓reduceIte, ↓reduceDIte, ↓purePost, combine, idsA, cellsA, numsOf, srcA, calleeA, refsA, isScalar, scalarD, scalar0, AV.one, putL, unfA, implies_true, IntKind.signed, Nat.reduceAdd, Nat.reduceSub, Nat.reduceMul, Nat.reducePow, Nat.reduceDiv, Nat.reduceMod, Int.reduceAdd, Int.reduceSub, Int.reduceMul, Int.reducePow, Int.reduceNeg, Int.reduceToNat, Int.reduceLT, Int.reduceLE, Nat.reduceEqDiff, sidsB, Nat.reduceBEq, keyKD, isIntK]
              refine LoopC.fr 498460498419343452338927647605129296 (α := Nat) (fun j => (allL cN i).length - j) (fun j => [(119, .d (.int .i64 j)), (132, .undef), (133, .undef), (134, .undef)])
                (fun j => [DiceB t K, .box [.d (.bool (decide ((bst w 0).num < 0))), .d (W (toW (bst w 0).num.natAbs)), .d (.bool false), .d (W (toW (bst w 0).den))], .dead, .row false (LL (allL cN i))]) (fun j => j ≤ (allL cN i).length) 0 (Nat.zero_le _) ?_ ?_
              · exact ⟨[some 0, some 1, some 2, some 3], rfl, by simp, by simp [setsA, keepA, SWeak, AWeak], by simp [HWeak, BWeak, SWeak, AWeak]⟩
              · intro j hj
                simp only [keepA_z8, keepA_z, keepA_cons, keepA_nil, setsA_nil, setsA_cons, List.set_cons_zero, List.set_cons_succ, set_8, Nat.reduceMod, Nat.reduceDiv, Nat.zero_mod, Nat.zero_ne_one, if_true, if_false, reduceIte]
                rcases Nat.lt_or_ge j (allL cN i).length with h3 | h3
                · obtain ⟨gl, gk⟩ := getD_mem_all h3
                  generalize hga : (allL cN i).getD j [] = a at *
                  simp (config := { maxSteps := 1000000 }) (disch := ((try simp only [awL]); omega)) only [lll, LL_get, hga, ↓awU, awV, awF, ofVal, ofVal0, isShift, aggK, forall_const, ↓reduceIte, ↓reduceDIte, ↓purePost, combine, idsA, cellsA, numsOf, srcA, calleeA, refsA, isScalar, scalarD, scalar0, AV.one, putL, unfA, implies_true, IntKind.signed, Nat.reduceAdd, Nat.reduceSub, Nat.reduceMul, Nat.reducePow, Nat.reduceDiv, Nat.reduceMod, Int.reduceAdd, Int.reduceSub, Int.reduceMul, Int.reducePow, Int.reduceNeg, Int.reduceToNat, Int.reduceLT, Int.reduceLE, Nat.reduceEqDiff, sidsB, Nat.reduceBEq, keyKD, isIntK]
                  refine CallC.pure (weight_spec hG w a hw (by omega) (OkI.of fun k hk => by have := gk k hk; omega)) ?_
                  rcases best_most (w := w) (l := a) with ⟨d, hR, s, hds, hs, hle⟩ | ⟨e, he, x, d, hR, rfl, rfl⟩
                  · have fvs := (hw.sum a a.length).FV (by omega)
                    rw [← hs] at fvs
                    rw [hR, hds]
                    simp (config := { maxSteps := 1000000 }) (disch := ((try simp only [awL]); omega)) only [↓awU, awV, awF, ofVal, ofVal0, isShift, aggK, forall_const, ↓reduceIte, ↓reduceDIte, ↓purePost, combine, idsA, cellsA, numsOf, srcA, calleeA, refsA, isScalar, scalarD, scalar0, AV.one, putL, unfA, implies_true, IntKind.signed, Nat.reduceAdd, Nat.reduceSub, Nat.reduceMul, Nat.reducePow, Nat.reduceDiv, Nat.reduceMod, Int.reduceAdd, Int.reduceSub, Int.reduceMul, Int.reducePow, Int.reduceNeg, Int.reduceToNat, Int.reduceLT, Int.reduceLE, Nat.reduceEqDiff, sidsB, Nat.reduceBEq, keyKD, isIntK]
                    refine CallC.pure (less_spec _ _ fbst fvs) ?_
                    rw [decide_eq_false (Rat.not_lt.2 hle)]
                    simp (config := { maxSteps := 1000000 }) (disch := ((try simp only [awL]); omega)) only [↓awU, awV, awF, ofVal, ofVal0, isShift, aggK, forall_const, ↓reduceIte, ↓reduceDIte, ↓purePost, combine, idsA, cellsA, numsOf, srcA, calleeA, refsA, isScalar, scalarD, scalar0, AV.one, putL, unfA, implies_true, IntKind.signed, Nat.reduceAdd, Nat.reduceSub, Nat.reduceMul, Nat.reducePow, Nat.reduceDiv, Nat.reduceMod, Int.reduceAdd, Int.reduceSub, Int.reduceMul, Int.reducePow, Int.reduceNeg, Int.reduceToNat, Int.reduceLT, Int.reduceLE, Nat.reduceEqDiff, sidsB, Nat.reduceBEq, keyKD, isIntK]
                    exact ⟨j + 1, h3, by simp only; omega, ⟨[some 0, some 1, some 2, some 3], rfl, by simp, by simp [setsA, keepA, SWeak, AWeak], by simp [HWeak, BWeak, SWeak, AWeak]⟩⟩
                  · rw [hR]
                    simp (config := { maxSteps := 1000000 }) (disch := ((try simp only [awL]); omega)) only [he, ↓awU, awV, awF, ofVal, ofVal0, isShift, aggK, forall_const, ↓reduceIte, ↓reduceDIte, ↓purePost, combine, idsA, cellsA, numsOf, srcA, calleeA, refsA, isScalar, scalarD, scalar0, AV.one, putL, unfA, implies_true, IntKind.signed, Nat.reduceAdd, Nat.reduceSub, Nat.reduceMul, Nat.reducePow, Nat.reduceDiv, Nat.reduceMod, Int.reduceAdd, Int.reduceSub, Int.reduceMul, Int.reducePow, Int.reduceNeg, Int.reduceToNat, Int.reduceLT, Int.reduceLE, Nat.reduceEqDiff, sidsB, Nat.reduceBEq, keyKD, isIntK]
                    exact ⟨j + 1, h3, by simp only; omega, ⟨[some 0, some 1, some 2, some 3], rfl, by simp, by simp [setsA, keepA, SWeak, AWeak], by simp [HWeak, BWeak, SWeak, AWeak]⟩⟩
                · simp (config := { maxSteps := 1000000 }) (disch := ((try simp only [awL]); omega)) only [↓awU, awV, awF, ofVal, ofVal0, isShift, aggK, forall_const, ↓reduceIte, ↓reduceDIte, ↓purePost, combine, idsA, cellsA, numsOf, srcA, calleeA, refsA, isScalar, scalarD, scalar0, AV.one, putL, unfA, implies_true, IntKind.signed, Nat.reduceAdd, Nat.reduceSub, Nat.reduceMul, Nat.reducePow, Nat.reduceDiv, Nat.reduceMod, Int.reduceAdd, Int.reduceSub, Int.reduceMul, Int.reducePow, Int.reduceNeg, Int.reduceToNat, Int.reduceLT, Int.reduceLE, Nat.reduceEqDiff, sidsB, Nat.reduceBEq, keyKD, isIntK]
                  refine CallC.pure (awake_spec hG) ?_
                  simp (config := { maxSteps := 1000000 }) (disch := ((try simp only [awL]); omega)) only [↓awU, awV, awF, ofVal, ofVal0, isShift, aggK, forall_const, ↓reduceIte, ↓reduceDIte, ↓purePost, combine, idsA, cellsA, numsOf, srcA, calleeA, refsA, isScalar, scalarD, scalar0, AV.one, putL, unfA, implies_true, IntKind.signed, Nat.reduceAdd, Nat.reduceSub, Nat.reduceMul, Nat.reducePow, Nat.reduceDiv, Nat.reduceMod, Int.reduceAdd, Int.reduceSub, Int.reduceMul, Int.reducePow, Int.reduceNeg, Int.reduceToNat, Int.reduceLT, Int.reduceLE, Nat.reduceEqDiff, sidsB, Nat.reduceBEq, keyKD, isIntK]
        · have hc0 : cN = 0 := by
            have : w = [] := List.length_eq_zero_iff.1 (by omega)
            rw [this] at hcN; exact hcN.symm
          simp (config := { maxSteps := 1000000 }) (disch := ((try simp only [awL]); omega)) only [↓awU, awV, awF, ofVal, ofVal0, isShift, aggK, forall_const, ↓reduceIte, ↓reduceDIte, ↓purePost, combine, idsA, cellsA, numsOf, srcA, calleeA, refsA, isScalar, scalarD, scalar0, AV.one, putL, unfA, implies_true, IntKind.signed, Nat.reduceAdd, Nat.reduceSub, Nat.reduceMul, Nat.reducePow, Nat.reduceDiv, Nat.reduceMod, Int.reduceAdd, Int.reduceSub, Int.reduceMul, Int.reducePow, Int.reduceNeg, Int.reduceToNat, Int.reduceLT, Int.reduceLE, Nat.reduceEqDiff, sidsB, Nat.reduceBEq, keyKD, isIntK]
          refine LoopC.fr 38111625095145417392907777377426764468304 (α := Nat) (fun i => w.length - i) (fun i => [(13, .lsl 3 1 0 (allL cN i).length), (89, .d (.int .i64 i))])
            (fun i => [DiceB t K, .box [.d (.bool (decide ((bst w 0).num < 0))), .d (W (toW (bst w 0).num.natAbs)), .d (.bool false), .d (W (toW (bst w 0).den))], .dead, .row false (LL (allL cN i))]) (fun i => i ≤ w.length) 0 (Nat.zero_le _) ?_ ?_
          · exact ⟨[some 0, some 1, some 2, some 3], rfl, by simp, by simp [setsA, keepA, SWeak, AWeak, allL], by simp [HWeak, BWeak, SWeak, AWeak, allL, LL, ints]⟩
          · intro i hi
            simp only [keepA_z8, keepA_z, keepA_cons, keepA_nil, setsA_nil, setsA_cons, List.set_cons_zero, List.set_cons_succ, set_8, Nat.reduceMod, Nat.reduceDiv, Nat.zero_mod, Nat.zero_ne_one, if_true, if_false, reduceIte]
            have hab := allL_bound (c := cN) (n := i) hc8 (by omega)
            have lll := @LL_length (allL cN i)
            rcases Nat.lt_or_ge i w.length with h2 | h2
            · exact absurd h2 (by omega)
            · simp (config := { maxSteps := 1000000 }) (disch := ((try simp only [awL]); omega)) only [↓awU, awV, awF, ofVal, ofVal0, isShift, aggK, forall_const, ↓reduceIte, ↓reduceDIte, ↓purePost, combine, idsA, cellsA, numsOf, srcA, calleeA, refsA, isScalar, scalarD, scalar0, AV.one, putL, unfA, implies_true, IntKind.signed, Nat.reduceAdd, Nat.reduceSub, Nat.reduceMul, Nat.reducePow, Nat.reduceDiv, Nat.reduceMod, Int.reduceAdd, Int.reduceSub, Int.reduceMul, Int.reducePow, Int.reduceNeg, Int.reduceToNat, Int.reduceLT, Int.reduceLE, Nat.reduceEqDiff, sidsB, Nat.reduceBEq, keyKD, isIntK]
              refine LoopC.fr 498460498419343452338927647605129296 (α := Nat) (fun j => (allL cN i).length - j) (fun j => [(119, .d (.int .i64 j)), (132, .undef), (133, .undef), (134, .undef)])
                (fun j => [DiceB t K, .box [.d (.bool (decide ((bst w 0).num < 0))), .d (W (toW (bst w 0).num.natAbs)), .d (.bool false), .d (W (toW (bst w 0).den))], .dead, .row false (LL (allL cN i))]) (fun j => j ≤ (allL cN i).length) 0 (Nat.zero_le _) ?_ ?_
              · exact ⟨[some 0, some 1, some 2, some 3], rfl, by simp, by simp [setsA, keepA, SWeak, AWeak], by simp [HWeak, BWeak, SWeak, AWeak]⟩
              · intro j hj
                simp only [keepA_z8, keepA_z, keepA_cons, keepA_nil, setsA_nil, setsA_cons, List.set_cons_zero, List.set_cons_succ, set_8, Nat.reduceMod, Nat.reduceDiv, Nat.zero_mod, Nat.zero_ne_one, if_true, if_false, reduceIte]
                rcases Nat.lt_or_ge j (allL cN i).length with h3 | h3
                · obtain ⟨gl, gk⟩ := getD_mem_all h3
                  generalize hga : (allL cN i).getD j [] = a at *
                  simp (config := { maxSteps := 1000000 }) (disch := ((try simp only [awL]); omega)) only [lll, LL_get, hga, ↓awU, awV, awF, ofVal, ofVal0, isShift, aggK, forall_const, ↓reduceIte, ↓reduceDIte, ↓purePost, combine, idsA, cellsA, numsOf, srcA, calleeA, refsA, isScalar, scalarD, scalar0, AV.one, putL, unfA, implies_true, IntKind.signed, Nat.reduceAdd, Nat.reduceSub, Nat.reduceMul, Nat.reducePow, Nat.reduceDiv, Nat.reduceMod, Int.reduceAdd, Int.reduceSub, Int.reduceMul, Int.reducePow, Int.reduceNeg, Int.reduceToNat, Int.reduceLT, Int.reduceLE, Nat.reduceEqDiff, sidsB, Nat.reduceBEq, keyKD, isIntK]
                  refine CallC.pure (weight_spec hG w a hw (by omega) (OkI.of fun k hk => by have := gk k hk; omega)) ?_
                  rcases best_most (w := w) (l := a) with ⟨d, hR, s, hds, hs, hle⟩ | ⟨e, he, x, d, hR, rfl, rfl⟩
                  · have fvs := (hw.sum a a.length).FV (by omega)
                    rw [← hs] at fvs
                    rw [hR, hds]
                    simp (config := { maxSteps := 1000000 }) (disch := ((try simp only [awL]); omega)) only [↓awU, awV, awF, ofVal, ofVal0, isShift, aggK, forall_const, ↓reduceIte, ↓reduceDIte, ↓purePost, combine, idsA, cellsA, numsOf, srcA, calleeA, refsA, isScalar, scalarD, scalar0, AV.one, putL, unfA, implies_true, IntKind.signed, Nat.reduceAdd, Nat.reduceSub, Nat.reduceMul, Nat.reducePow, Nat.reduceDiv, Nat.reduceMod, Int.reduceAdd, Int.reduceSub, Int.reduceMul, Int.reducePow, Int.reduceNeg, Int.reduceToNat, Int.reduceLT, Int.reduceLE, Nat.reduceEqDiff, sidsB, Nat.reduceBEq, keyKD, isIntK]
                    refine CallC.pure (less_spec _ _ fbst fvs) ?_
                    rw [decide_eq_false (Rat.not_lt.2 hle)]
                    simp (config := { maxSteps := 1000000 }) (disch := ((try simp only [awL]); omega)) only [↓awU, awV, awF, ofVal, ofVal0, isShift, aggK, forall_const, ↓reduceIte, ↓reduceDIte, ↓purePost, combine, idsA, cellsA, numsOf, srcA, calleeA, refsA, isScalar, scalarD, scalar0, AV.one, putL, unfA, implies_true, IntKind.signed, Nat.reduceAdd, Nat.reduceSub, Nat.reduceMul, Nat.reducePow, Nat.reduceDiv, Nat.reduceMod, Int.reduceAdd, Int.reduceSub, Int.reduceMul, Int.reducePow, Int.reduceNeg, Int.reduceToNat, Int.reduceLT, Int.reduceLE, Nat.reduceEqDiff, sidsB, Nat.reduceBEq, keyKD, isIntK]
                    exact ⟨j + 1, h3, by simp only; omega, ⟨[some 0, some 1, some 2, some 3], rfl, by simp, by simp [setsA, keepA, SWeak, AWeak], by simp [HWeak, BWeak, SWeak, AWeak]⟩⟩
                  · rw [hR]
                    simp (config := { maxSteps := 1000000 }) (disch := ((try simp only [awL]); omega)) only [he, ↓awU, awV, awF, ofVal, ofVal0, isShift, aggK, forall_const, ↓reduceIte, ↓reduceDIte, ↓purePost, combine, idsA, cellsA, numsOf, srcA, calleeA, refsA, isScalar, scalarD, scalar0, AV.one, putL, unfA, implies_true, IntKind.signed, Nat.reduceAdd, Nat.reduceSub, Nat.reduceMul, Nat.reducePow, Nat.reduceDiv, Nat.reduceMod, Int.reduceAdd, Int.reduceSub, Int.reduceMul, Int.reducePow, Int.reduceNeg, Int.reduceToNat, Int.reduceLT, Int.reduceLE, Nat.reduceEqDiff, sidsB, Nat.reduceBEq, keyKD, isIntK]
                    exact ⟨j + 1, h3, by simp only; omega, ⟨[some 0, some 1, some 2, some 3], rfl, by simp, by simp [setsA, keepA, SWeak, AWeak], by simp [HWeak, BWeak, SWeak, AWeak]⟩⟩
                · simp (config := { maxSteps := 1000000 }) (disch := ((try simp only [awL]); omega)) only [↓awU, awV, awF, ofVal, ofVal0, isShift, aggK, forall_const, ↓reduceIte, ↓reduceDIte, ↓purePost, combine, idsA, cellsA, numsOf, srcA, calleeA, refsA, isScalar, scalarD, scalar0, AV.one, putL, unfA, implies_true, IntKind.signed, Nat.reduceAdd, Nat.reduceSub, Nat.reduceMul, Nat.reducePow, Nat.reduceDiv, Nat.reduceMod, Int.reduceAdd, Int.reduceSub, Int.reduceMul, Int.reducePow, Int.reduceNeg, Int.reduceToNat, Int.reduceLT, Int.reduceLE, Nat.reduceEqDiff, sidsB, Nat.reduceBEq, keyKD, isIntK]
                  refine CallC.pure (awake_spec hG) ?_
                  simp (config := { maxSteps := 1000000 }) (disch := ((try simp only [awL]); omega)) only [↓awU, awV, awF, ofVal, ofVal0, isShift, aggK, forall_const, ↓reduceIte, ↓reduceDIte, ↓purePost, combine, idsA, cellsA, numsOf, srcA, calleeA, refsA, isScalar, scalarD, scalar0, AV.one, putL, unfA, implies_true, IntKind.signed, Nat.reduceAdd, Nat.reduceSub, Nat.reduceMul, Nat.reducePow, Nat.reduceDiv, Nat.reduceMod, Int.reduceAdd, Int.reduceSub, Int.reduceMul, Int.reducePow, Int.reduceNeg, Int.reduceToNat, Int.reduceLT, Int.reduceLE, Nat.reduceEqDiff, sidsB, Nat.reduceBEq, keyKD, isIntK]
  · rw [decide_eq_false hl]
    simp (config := { maxSteps := 1000000 }) (disch := ((try simp only [awL]); omega)) only [↓awU, awV, awF, ofVal, ofVal0, isShift, aggK, forall_const, ↓reduceIte, ↓reduceDIte, ↓purePost, combine, idsA, cellsA, numsOf, srcA, calleeA, refsA, isScalar, scalarD, scalar0, AV.one, putL, unfA, implies_true, IntKind.signed, Nat.reduceAdd, Nat.reduceSub, Nat.reduceMul, Nat.reducePow, Nat.reduceDiv, Nat.reduceMod, Int.reduceAdd, Int.reduceSub, Int.reduceMul, Int.reducePow, Int.reduceNeg, Int.reduceToNat, Int.reduceLT, Int.reduceLE, Nat.reduceEqDiff, sidsB, Nat.reduceBEq, keyKD, isIntK]
    refine CallC.pure (awake_spec hG) ?_
    simp (config := { maxSteps := 1000000 }) (disch := ((try simp only [awL]); omega)) only [↓awU, awV, awF, ofVal, ofVal0, isShift, aggK, forall_const, ↓reduceIte, ↓reduceDIte, ↓purePost, combine, idsA, cellsA, numsOf, srcA, calleeA, refsA, isScalar, scalarD, scalar0, AV.one, putL, unfA, implies_true, IntKind.signed, Nat.reduceAdd, Nat.reduceSub, Nat.reduceMul, Nat.reducePow, Nat.reduceDiv, Nat.reduceMod, Int.reduceAdd, Int.reduceSub, Int.reduceMul, Int.reducePow, Int.reduceNeg, Int.reduceToNat, Int.reduceLT, Int.reduceLE, Nat.reduceEqDiff, sidsB, Nat.reduceBEq, keyKD, isIntK]
end Go.Proofs.YtkppgdialedoeaaDoor

namespace Go.Proofs.YtkppgdialedoeaaDoor
open Go Go.Proofs Go.Abs
/-! One row, one column: the first of the greatest weights. -/
theorem rlelt {a b c : Rat} (h : a ≤ b) (h2 : b < c) : a < c := Rat.not_le.1 fun h3 => absurd (Rat.le_trans h3 h) (Rat.not_le.2 h2)
/-- The first of the greatest of the first k weights, if it is not 0. -/
def wantF (r : List Rat) : Nat → Int × Rat
  | 0 => (-1, 0)
  | k + 1 => if (wantF r k).2 < r.getD k 0 then ((k : Int), r.getD k 0) else wantF r k
theorem wantF_spec {r : List Rat} (hr : ∀ x ∈ r, 0 ≤ x) : ∀ k, k ≤ r.length → 0 ≤ (wantF r k).2 ∧ (∀ i, i < k → r.getD i 0 ≤ (wantF r k).2) ∧
    (((wantF r k).1 = -1 ∧ (wantF r k).2 = 0) ∨ ∃ j : Nat, (wantF r k).1 = (j : Int) ∧ j < k ∧ (wantF r k).2 = r.getD j 0 ∧ 0 < r.getD j 0 ∧ ∀ i, i < j → r.getD i 0 < r.getD j 0)
  | 0, _ => ⟨Rat.le_refl, fun i hi => by omega, .inl ⟨rfl, rfl⟩⟩
  | k + 1, hk => by
    obtain ⟨h1, h2, h3⟩ := wantF_spec hr k (by omega)
    simp only [wantF]
    split
    · rename_i hlt
      have hle := Rat.le_of_lt hlt
      refine ⟨Rat.le_trans h1 hle, fun i hi => ?_, .inr ⟨k, rfl, Nat.lt_succ_self _, rfl, rlelt h1 hlt, fun i hi => rlelt (h2 i hi) hlt⟩⟩
      rcases Nat.lt_succ_iff_lt_or_eq.1 hi with h | rfl
      · exact Rat.le_trans (h2 i h) hle
      · exact Rat.le_refl
    · rename_i hnl
      refine ⟨h1, fun i hi => ?_, ?_⟩
      · rcases Nat.lt_succ_iff_lt_or_eq.1 hi with h | rfl
        · exact h2 i h
        · exact rnot hnl
      · rcases h3 with h | ⟨j, a, b, c, d, e⟩
        · exact .inl h
        · exact .inr ⟨j, a, by omega, c, d, e⟩
theorem bst_one {r : List Rat} (hr : ∀ x ∈ r, 0 ≤ x) : bst [r] 0 = (wantF r r.length).2 := by
  obtain ⟨h1, h2, h3⟩ := wantF_spec hr r.length (Nat.le_refl _)
  refine Rat.le_antisymm ?_ ?_
  · show bloop (bst []) r 0 (bst [] 0) r.length ≤ _
    rcases bloop_hit (f := bst []) (r := r) (u := 0) (b := bst [] 0) r.length with e | ⟨k, hk, _, e⟩
    · rw [e]; exact h1
    · rw [e]; show r.getD k 0 + 0 ≤ _; rw [Rat.add_zero]; exact h2 k hk
  · rcases h3 with ⟨_, h⟩ | ⟨j, _, hj, e, hp, _⟩
    · rw [h]; exact bloop_le _
    · rw [e]
      have hb : ¬ blocked r 0 j := fun h => h.elim (fun h => by simp at h) (fun h => by rw [h] at hp; exact Rat.lt_irrefl hp)
      have := bloop_ge (f := bst []) (b := bst [] 0) hj hb
      have e3 : bst [] (0 ||| 2 ^ j) = 0 := rfl
      rw [e3, Rat.add_zero] at this
      exact this
theorem firstK_some {f : Nat → Rat} {r : List Rat} {u : Nat} {b : Rat} {j : Nat} (hj : okK f r u j b) : ∀ {n k : Nat}, k ≤ j → j < k + n → (∀ i, k ≤ i → i < j → ¬ okK f r u i b) → firstK f r u b k n = some j
  | 0, k, h1, h2, _ => by omega
  | n + 1, k, h1, h2, h3 => by
    simp only [firstK]
    by_cases e : k = j
    · subst e; rw [if_pos hj]
    · rw [if_neg (h3 k (Nat.le_refl _) (by omega))]
      exact firstK_some hj (by omega) (by omega) (fun i hi => h3 i (by omega))
theorem firstK_no {f : Nat → Rat} {r : List Rat} {u : Nat} {b : Rat} : ∀ {n k : Nat}, (∀ i, k ≤ i → i < k + n → ¬ okK f r u i b) → firstK f r u b k n = none
  | 0, k, _ => rfl
  | n + 1, k, h => by
    simp only [firstK]
    rw [if_neg (h k (Nat.le_refl _) (by omega))]
    exact firstK_no fun i hi hi2 => h i (by omega) (by omega)
theorem bestL_one {r : List Rat} (hr : ∀ x ∈ r, 0 ≤ x) : bestL [r] 0 = [(wantF r r.length).1] := by
  obtain ⟨h1, h2, h3⟩ := wantF_spec hr r.length (Nat.le_refl _)
  have hb := bst_one hr
  simp only [bestL]
  rw [hb]
  rcases h3 with ⟨e1, e2⟩ | ⟨j, e1, hj, e2, hp, hf⟩
  · rw [firstK_no, e1]
    rintro i _ hi ⟨_, hz, he⟩
    simp only [bst, Rat.add_zero] at he
    exact hz (he.trans e2)
  · rw [firstK_some (j := j) ⟨by simp, fun h => by rw [h] at hp; exact Rat.lt_irrefl hp, by simp only [bst, Rat.add_zero]; exact e2.symm⟩ (Nat.zero_le _) (by omega) ?_, e1]
    rintro i _ hi ⟨_, _, he⟩
    simp only [bst, Rat.add_zero] at he
    have := hf i hi
    rw [he, e2] at this
    exact Rat.lt_irrefl this
def colL (r : List Rat) : List (List Rat) := r.map fun x => [x]
theorem bst_col1 : ∀ r : List Rat, bst (colL r) 1 = 0
  | [] => rfl
  | x :: r => by
    have ih := bst_col1 r
    simp only [colL, List.map_cons, bst, bloop, bstep] at ih ⊢
    simp [bloop, bstep, ih]
theorem bestL_col1 : ∀ r : List Rat, bestL (colL r) 1 = r.map fun _ => -1
  | [] => rfl
  | x :: r => by
    have ih := bestL_col1 r
    simp only [colL, List.map_cons, bestL] at ih ⊢
    rw [firstK_no]
    · simp only; rw [ih]
    · rintro i _ hi ⟨h, _⟩
      have : i = 0 := by simpa using hi
      subst this
      exact h (by decide)
theorem bst_col_cons {x : Rat} {r : List Rat} : bst (colL (x :: r)) 0 = if x = 0 then bst (colL r) 0 else if bst (colL r) 0 < x then x else bst (colL r) 0 := by
  have e := bst_col1 r
  simp only [colL, List.map_cons, bst] at e ⊢
  simp only [List.length_cons, List.length_nil, bloop, bstep, List.getD_cons_zero]
  have h1 : (0 : Nat) ||| 2 ^ 0 = 1 := rfl
  rw [h1, e, Rat.add_zero]
  by_cases hx : x = 0
  · simp [hx]
  · by_cases hl : bst (List.map (fun x => [x]) r) 0 < x
    · simp [hx, hl]
    · simp [hx, hl]
theorem bst_col_max : ∀ {r : List Rat}, (∀ x ∈ r, 0 ≤ x) → 0 ≤ bst (colL r) 0 ∧ (∀ x ∈ r, x ≤ bst (colL r) 0) ∧ (bst (colL r) 0 = 0 ∨ bst (colL r) 0 ∈ r)
  | [], _ => ⟨Rat.le_refl, by simp, .inl rfl⟩
  | x :: r, h => by
    obtain ⟨h1, h2, h3⟩ := bst_col_max (r := r) fun y hy => h y (by simp [hy])
    rw [bst_col_cons]
    split
    · rename_i hx
      subst hx
      refine ⟨h1, fun y hy => ?_, h3.imp id (fun h => by simp [h])⟩
      rcases List.mem_cons.1 hy with rfl | hy
      · exact h1
      · exact h2 y hy
    · split
      · rename_i hlt
        refine ⟨h x (by simp), fun y hy => ?_, .inr (by simp)⟩
        rcases List.mem_cons.1 hy with rfl | hy
        · exact Rat.le_refl
        · exact Rat.le_trans (h2 y hy) (Rat.le_of_lt hlt)
      · rename_i hnl
        refine ⟨h1, fun y hy => ?_, h3.imp id (fun h => by simp [h])⟩
        rcases List.mem_cons.1 hy with rfl | hy
        · exact rnot hnl
        · exact h2 y hy
theorem bst_col {r : List Rat} (hr : ∀ x ∈ r, 0 ≤ x) : bst (colL r) 0 = (wantF r r.length).2 := by
  obtain ⟨h1, h2, h3⟩ := wantF_spec hr r.length (Nat.le_refl _)
  obtain ⟨c1, c2, c3⟩ := bst_col_max hr
  refine Rat.le_antisymm ?_ ?_
  · rcases c3 with h | h
    · rw [h]; exact h1
    · obtain ⟨i, hi, e⟩ := getD_of_mem (d := 0) h
      rw [← e]; exact h2 i hi
  · rcases h3 with ⟨_, h⟩ | ⟨j, _, hj, e, _, _⟩
    · rw [h]; exact c1
    · rw [e]; exact c2 _ (mem_getD hj)
/-- Who takes the one column. -/
theorem bestL_col : ∀ {r : List Rat}, (∀ x ∈ r, 0 ≤ x) → (bestL (colL r) 0).length = r.length ∧ ∀ k, k < r.length →
    ((bestL (colL r) 0).getD k 0 = 0 ↔ ¬ r.getD k 0 = 0 ∧ r.getD k 0 = bst (colL r) 0 ∧ ∀ i, i < k → r.getD i 0 ≠ bst (colL r) 0) ∧ ((bestL (colL r) 0).getD k 0 = 0 ∨ (bestL (colL r) 0).getD k 0 = -1)
  | [], _ => ⟨rfl, fun k hk => by simp at hk⟩
  | x :: r, h => by
    obtain ⟨c1, c2, c3⟩ := bst_col_max (r := r) fun y hy => h y (by simp [hy])
    obtain ⟨i1, i2⟩ := bestL_col (r := r) fun y hy => h y (by simp [hy])
    have e1 := bst_col1 r
    have hx := h x (by simp)
    have hcons := @bst_col_cons x r
    have eb : bestL (colL (x :: r)) 0 = if ¬ x = 0 ∧ x = bst (colL (x :: r)) 0 then 0 :: bestL (colL r) 1 else -1 :: bestL (colL r) 0 := by
      have ok : okK (bst (colL r)) [x] 0 0 (bst (colL (x :: r)) 0) ↔ ¬ x = 0 ∧ x = bst (colL (x :: r)) 0 := by
        have h1 : (0 : Nat) ||| 2 ^ 0 = 1 := rfl
        simp only [okK, List.getD_cons_zero, h1, e1, Rat.add_zero]
        exact ⟨fun h => h.2, fun h => ⟨by decide, h⟩⟩
      show (match firstK (bst (colL r)) [x] 0 (bst (colL (x :: r)) 0) 0 1 with | some k => (k : Int) :: bestL (colL r) (0 ||| 2 ^ k) | none => -1 :: bestL (colL r) 0) = _
      simp only [firstK]
      by_cases hc : ¬ x = 0 ∧ x = bst (colL (x :: r)) 0
      · rw [if_pos (ok.2 hc), if_pos hc]; rfl
      · rw [if_neg (fun h => hc (ok.1 h)), if_neg hc]
    rw [eb]
    by_cases hc : ¬ x = 0 ∧ x = bst (colL (x :: r)) 0
    · rw [if_pos hc, bestL_col1]
      refine ⟨by simp, fun k hk => ?_⟩
      rcases k with _ | k
      · simp only [List.getD_cons_zero]
        exact ⟨⟨fun _ => ⟨hc.1, hc.2, fun i hi => by omega⟩, fun _ => trivial⟩, by simp⟩
      · have hk' : k < r.length := by simpa using hk
        have hm1 : (r.map fun _ => (-1 : Int)).getD k 0 = -1 := by simp [List.getD_eq_getElem?_getD, List.getElem?_map, List.getElem?_eq_getElem hk']
        rw [List.getD_cons_succ, hm1]
        refine ⟨⟨fun h => by omega, fun h => absurd hc.2 ?_⟩, .inr rfl⟩
        have := h.2.2 0 (by omega)
        simpa using this
    · rw [if_neg hc]
      have hm : bst (colL (x :: r)) 0 = bst (colL r) 0 := by
        rw [hcons] at hc ⊢
        split
        · rfl
        · rename_i hx0
          split
          · rename_i hlt
            rw [if_neg hx0, if_pos hlt] at hc
            exact absurd ⟨hx0, rfl⟩ hc
          · rfl
      refine ⟨by simp [i1], fun k hk => ?_⟩
      rcases k with _ | k
      · simp only [List.getD_cons_zero]
        refine ⟨⟨fun h => by omega, fun h => absurd ⟨h.1, h.2.1⟩ hc⟩, by simp⟩
      · have hk' : k < r.length := by simpa using hk
        obtain ⟨j1, j2⟩ := i2 k hk'
        simp only [List.getD_cons_succ]
        refine ⟨j1.trans ⟨fun h => ⟨h.1, by rw [hm]; exact h.2.1, fun i hi => ?_⟩, fun h => ⟨h.1, by rw [← hm]; exact h.2.1, fun i hi => ?_⟩⟩, j2⟩
        · rcases i with _ | i
          · simp only [List.getD_cons_zero]
            intro e
            by_cases hx0 : x = 0
            · have := h.2.1
              rw [hm] at e
              exact h.1 (this.trans (e.symm.trans hx0))
            · exact hc ⟨hx0, e⟩
          · rw [hm]; simpa using h.2.2 i (by omega)
        · have := h.2.2 (i + 1) (by omega)
          rw [hm] at this
          simpa using this
/-- The column goes to the first of the greatest. -/
theorem col_want {r : List Rat} (hr : ∀ x ∈ r, 0 ≤ x) {k : Nat} (hk : k < r.length) : ((bestL (colL r) 0).getD k 0 = 0 ↔ (k : Int) = (wantF r r.length).1) ∧ (bestL (colL r) 0).getD k 0 ≤ 0 := by
  obtain ⟨h1, h2, h3⟩ := wantF_spec hr r.length (Nat.le_refl _)
  obtain ⟨_, hb⟩ := bestL_col hr
  obtain ⟨b1, b2⟩ := hb k hk
  refine ⟨b1.trans ?_, by rcases b2 with h | h <;> omega⟩
  rw [bst_col hr]
  rcases h3 with ⟨e1, e2⟩ | ⟨j, e1, hj, e2, hp, hf⟩
  · rw [e1, e2]
    exact ⟨fun h => absurd h.2.1 h.1, fun h => by omega⟩
  · rw [e1, e2]
    constructor
    · rintro ⟨_, ha, hn⟩
      rcases Nat.lt_trichotomy k j with hlt | rfl | hgt
      · have := hf k hlt
        rw [ha] at this
        exact absurd this Rat.lt_irrefl
      · rfl
      · exact absurd rfl (hn j hgt)
    · intro h
      have : k = j := by omega
      subst this
      exact ⟨fun h0 => by rw [h0] at hp; exact Rat.lt_irrefl hp, rfl, fun i hi he => by have := hf i hi; rw [he] at this; exact Rat.lt_irrefl this⟩
end Go.Proofs.YtkppgdialedoeaaDoor

namespace Go.Proofs.YtkppgdialedoeaaDoor
open Go Go.Proofs Go.Abs
variable {G : Globals}
theorem wantF_keep {r : List Rat} {k : Nat} (h : ¬ (wantF r k).2 < r.getD k 0) : wantF r (k + 1) = wantF r k := by rw [wantF, if_neg h]
theorem wantF_take {r : List Rat} {k : Nat} (h : (wantF r k).2 < r.getD k 0) : wantF r (k + 1) = ((k : Int), r.getD k 0) := by rw [wantF, if_pos h]
theorem wantF_int {r : List Rat} : ∀ k, -1 ≤ (wantF r k).1 ∧ (wantF r k).1 ≤ k
  | 0 => by simp [wantF]
  | k + 1 => by
    have := wantF_int (r := r) k
    simp only [wantF]; split
    · simp only; omega
    · omega
theorem wantF_sm {r : List Rat} {n : Nat} (hr : ∀ x ∈ r, Sm n x) : ∀ k, k ≤ r.length → Sm n (wantF r k).2
  | 0, _ => Sm.zero.mono (Nat.zero_le _)
  | k + 1, hk => by
    have := wantF_sm hr k (by omega)
    simp only [wantF]; split
    · exact hr _ (mem_getD (by omega))
    · exact this
/-- The column's table, filled to k. -/
def colD (r : List Rat) (k : Nat) : List D := MxL ((colL r).take k) ++ List.replicate (r.length - k) (.sl 0 true [])
theorem colD_zero {r : List Rat} : colD r 0 = List.replicate r.length (.sl 0 true []) := by simp [colD, MxL]
theorem colD_all {r : List Rat} : colD r r.length = MxL (colL r) := by
  rw [colD, List.take_of_length_le (by simp [colL])]; simp
theorem colD_length {r : List Rat} {k : Nat} (h : k ≤ r.length) : (colD r k).length = r.length := by
  simp [colD, MxL, colL]; omega
theorem colD_set {r : List Rat} {k : Nat} (h : k < r.length) : (colD r k).set k (.sl 1 false [.bool (decide ((r.getD k 0).num < 0)), W (toW (r.getD k 0).num.natAbs), .bool false, W (toW (r.getD k 0).den)]) = colD r (k + 1) := by
  have e : (MxL ((colL r).take k)).length = k := by simp [MxL, colL]; omega
  have e2 : (colL r).take (k + 1) = (colL r).take k ++ [[r.getD k 0]] := by
    rw [List.take_add_one]; simp [colL, List.getD_eq_getElem?_getD, List.getElem?_eq_getElem h]
  have e3 : r.length - k = (r.length - (k + 1)) + 1 := by omega
  rw [colD, List.set_append_right _ _ (by omega), e, Nat.sub_self, e3, List.replicate_succ, List.set_cons_zero, colD, e2, MxL, MxL, List.map_append, List.append_assoc]
  rfl
theorem colL_length {r : List Rat} : (colL r).length = r.length := by simp [colL]
theorem colL_get {r : List Rat} {i : Nat} (h : i < r.length) : (colL r).getD i [] = [r.getD i 0] := by
  simp [colL, List.getD_eq_getElem?_getD, List.getElem?_map, List.getElem?_eq_getElem h]
theorem colL_ok {r : List Rat} (hl : r.length ≤ 500) (hr : ∀ x ∈ r, Sm 60 x) : Wok (colL r) := by
  refine ⟨by rw [colL_length]; omega, fun i => ?_, fun row hrow x hx => ?_⟩
  · rcases Nat.lt_or_ge i r.length with h | h
    · rw [colL_get h]; simp
    · rw [List.getD_eq_getElem?_getD, List.getElem?_eq_none (by rw [colL_length]; exact h)]; simp
  · simp only [colL, List.mem_map] at hrow
    obtain ⟨y, hy, rfl⟩ := hrow
    obtain rfl : x = y := by simpa using hx
    exact (hr _ hy).mono (by decide)
theorem colL_valid {r : List Rat} (hl : r.length ≤ 8) (h0 : ∀ x ∈ r, 0 ≤ x) : validE (colL r) = 0 := by
  have hlen : ∀ i, i < (colL r).length → ((colL r).getD i []).length = 1 := fun i hi => by rw [colL_get (by rwa [colL_length] at hi)]; rfl
  refine ve_e (side8_of (by rw [colL_length]; omega) (fun i hi => by rw [hlen i hi]; decide)) (sameL_of fun i hi => by rw [hlen i hi, hlen 0 (by omega)]) (fun i hi j hj => ?_)
  rw [hlen i hi] at hj
  obtain rfl : j = 0 := by omega
  rw [colL_length] at hi
  rw [colL_get hi]
  exact Rat.not_lt.2 (h0 _ (mem_getD hi))
set_option maxHeartbeats 8000000 in
set_option maxRecDepth 100000 in
theorem row_law (hG : HG G) (t : List Int) (ht : OkI t) : Ctr Tryd.prog G 6 [.d (.sl t.length false (ints .i64 t))] [] (.d (.bool true)) [] := by
  refine Ctr.pure (M := M0) hmix Tryd.func6 rfl go6 ?_
  simp (config := { maxSteps := 1000000 }) (disch := ((try simp only [awL]); omega)) only [Tryd.f6, ↓awU, awV, awF, ofVal, ofVal0, isShift, aggK, forall_const, ↓reduceIte, ↓reduceDIte, ↓purePost, combine, idsA, cellsA, numsOf, srcA, calleeA, refsA, isScalar, scalarD, scalar0, AV.one, putL, unfA, implies_true, IntKind.signed, Nat.reduceAdd, Nat.reduceSub, Nat.reduceMul, Nat.reducePow, Nat.reduceDiv, Nat.reduceMod, Int.reduceAdd, Int.reduceSub, Int.reduceMul, Int.reducePow, Int.reduceNeg, Int.reduceToNat, Int.reduceLT, Int.reduceLE, Nat.reduceEqDiff, sidsB, Nat.reduceBEq, keyKD, isIntK]
  refine CallC.pure (light_spec t) ?_
  by_cases hl : t.length ≤ 500
  · rw [decide_eq_true hl]
    have hT : OkT t := ⟨hl, ht⟩
    simp (config := { maxSteps := 1000000 }) (disch := ((try simp only [awL]); omega)) only [↓awU, awV, awF, ofVal, ofVal0, isShift, aggK, forall_const, ↓reduceIte, ↓reduceDIte, ↓purePost, combine, idsA, cellsA, numsOf, srcA, calleeA, refsA, isScalar, scalarD, scalar0, AV.one, putL, unfA, implies_true, IntKind.signed, Nat.reduceAdd, Nat.reduceSub, Nat.reduceMul, Nat.reducePow, Nat.reduceDiv, Nat.reduceMod, Int.reduceAdd, Int.reduceSub, Int.reduceMul, Int.reducePow, Int.reduceNeg, Int.reduceToNat, Int.reduceLT, Int.reduceLE, Nat.reduceEqDiff, sidsB, Nat.reduceBEq, keyKD, isIntK]
    refine CallC.by (roll_spec t hl) rfl rfl (Nat.zero_le _) ?_
    simp (config := { maxSteps := 1000000 }) (disch := ((try simp only [awL]); omega)) only [↓awU, awV, awF, ofVal, ofVal0, isShift, aggK, forall_const, ↓reduceIte, ↓reduceDIte, ↓purePost, combine, idsA, cellsA, numsOf, srcA, calleeA, refsA, isScalar, scalarD, scalar0, AV.one, putL, unfA, implies_true, IntKind.signed, Nat.reduceAdd, Nat.reduceSub, Nat.reduceMul, Nat.reducePow, Nat.reduceDiv, Nat.reduceMod, Int.reduceAdd, Int.reduceSub, Int.reduceMul, Int.reducePow, Int.reduceNeg, Int.reduceToNat, Int.reduceLT, Int.reduceLE, Nat.reduceEqDiff, sidsB, Nat.reduceBEq, keyKD, isIntK]
    refine CallC.by (next_spec t 0 8 hT (by decide) (by decide)) (by rfl) (by rfl) (Nat.le_refl _) ?_
    simp (config := { maxSteps := 1000000 }) (disch := ((try simp only [awL]); omega)) only [↓awU, awV, awF, ofVal, ofVal0, isShift, aggK, forall_const, ↓reduceIte, ↓reduceDIte, ↓purePost, combine, idsA, cellsA, numsOf, srcA, calleeA, refsA, isScalar, scalarD, scalar0, AV.one, putL, unfA, implies_true, IntKind.signed, Nat.reduceAdd, Nat.reduceSub, Nat.reduceMul, Nat.reducePow, Nat.reduceDiv, Nat.reduceMod, Int.reduceAdd, Int.reduceSub, Int.reduceMul, Int.reducePow, Int.reduceNeg, Int.reduceToNat, Int.reduceLT, Int.reduceLE, Nat.reduceEqDiff, sidsB, Nat.reduceBEq, keyKD, isIntK]
    have n1 := @nx_range t 0 8 (by decide)
    obtain ⟨c, hc'⟩ : ∃ c : Nat, 1 + nx t 0 8 = c := ⟨(1 + nx t 0 8).toNat, by omega⟩
    rw [hc']
    simp (config := { maxSteps := 1000000 }) (disch := ((try simp only [awL]); omega)) only [↓awU, awV, awF, ofVal, ofVal0, isShift, aggK, forall_const, ↓reduceIte, ↓reduceDIte, ↓purePost, combine, idsA, cellsA, numsOf, srcA, calleeA, refsA, isScalar, scalarD, scalar0, AV.one, putL, unfA, implies_true, IntKind.signed, Nat.reduceAdd, Nat.reduceSub, Nat.reduceMul, Nat.reducePow, Nat.reduceDiv, Nat.reduceMod, Int.reduceAdd, Int.reduceSub, Int.reduceMul, Int.reducePow, Int.reduceNeg, Int.reduceToNat, Int.reduceLT, Int.reduceLE, Nat.reduceEqDiff, sidsB, Nat.reduceBEq, keyKD, isIntK]
    refine CallC.by (weights_spec t 1 1 c hT (by omega) (by omega)) (by rfl) (by rfl) (Nat.le_refl _) ?_
    have hw := @matW_ok t 1 1 c (by omega) (by omega)
    have hv := @matW_valid t 1 1 c (by omega) (by omega)
    obtain ⟨row, erow, hrl, hsm, hnn⟩ : ∃ row, matW t 1 1 c = [row] ∧ row.length = c ∧ (∀ x ∈ row, Sm 60 x) ∧ ∀ x ∈ row, 0 ≤ x := by
      refine ⟨rowW t 1 c, by simp [matW, List.range_succ], rowW_length, fun x hx => ?_, fun x hx => ?_⟩
      · simp only [rowW, List.mem_map] at hx
        obtain ⟨i, _, rfl⟩ := hx
        exact ent_Sm.1
      · simp only [rowW, List.mem_map] at hx
        obtain ⟨i, _, rfl⟩ := hx
        exact ent_Sm.2
    rw [erow] at hw hv ⊢
    generalize 1 + 2 * c * 1 = K at *
    simp (config := { maxSteps := 1000000 }) (disch := ((try simp only [awL]); omega)) only [↓awU, awV, awF, ofVal, ofVal0, isShift, aggK, forall_const, ↓reduceIte, ↓reduceDIte, ↓purePost, combine, idsA, cellsA, numsOf, srcA, calleeA, refsA, isScalar, scalarD, scalar0, AV.one, putL, unfA, implies_true, IntKind.signed, Nat.reduceAdd, Nat.reduceSub, Nat.reduceMul, Nat.reducePow, Nat.reduceDiv, Nat.reduceMod, Int.reduceAdd, Int.reduceSub, Int.reduceMul, Int.reducePow, Int.reduceNeg, Int.reduceToNat, Int.reduceLT, Int.reduceLE, Nat.reduceEqDiff, sidsB, Nat.reduceBEq, keyKD, isIntK]
    refine CallC.pure rzero_spec ?_
    have fl := @Fr_length row
    have mx1 : MxL [row] = [FrS row] := rfl
    simp (config := { maxSteps := 1000000 }) (disch := ((try simp only [awL]); omega)) only [mx1, fl, hrl, List.getD_cons_zero, ↓awU, awV, awF, ofVal, ofVal0, isShift, aggK, forall_const, ↓reduceIte, ↓reduceDIte, ↓purePost, combine, idsA, cellsA, numsOf, srcA, calleeA, refsA, isScalar, scalarD, scalar0, AV.one, putL, unfA, implies_true, IntKind.signed, Nat.reduceAdd, Nat.reduceSub, Nat.reduceMul, Nat.reducePow, Nat.reduceDiv, Nat.reduceMod, Int.reduceAdd, Int.reduceSub, Int.reduceMul, Int.reducePow, Int.reduceNeg, Int.reduceToNat, Int.reduceLT, Int.reduceLE, Nat.reduceEqDiff, sidsB, Nat.reduceBEq, keyKD, isIntK]
    have cl := fun k => @colD_length row k
    rw [zerosD_one, ← hrl, ← colD_zero]
    refine LoopC.fr 7788520772669397152351470191903152 (α := Nat) (fun k => row.length - k) (fun k => [(6, .d (.int .i64 (wantF row k).1)), (38, .d (.int .i64 k))])
      (fun k => [DiceB t K, .box [.d (.bool (decide ((wantF row k).2.num < 0))), .d (W (toW (wantF row k).2.num.natAbs)), .d (.bool false), .d (W (toW (wantF row k).2.den))], .row false (colD row k)]) (fun k => k ≤ row.length) 0 (Nat.zero_le _) ?_ ?_
    · exact ⟨[some 0, some 1, some 2], rfl, by simp, by simp [setsA, keepA, SWeak, AWeak, wantF], by simp [HWeak, BWeak, SWeak, AWeak, wantF]⟩
    · intro k hk
      simp only [keepA_z8, keepA_z, keepA_cons, keepA_nil, setsA_nil, setsA_cons, List.set_cons_zero, List.set_cons_succ, set_8, Nat.reduceMod, Nat.reduceDiv, Nat.zero_mod, Nat.zero_ne_one, if_true, if_false, reduceIte]
      have hck := cl k hk
      rcases Nat.lt_or_ge k row.length with h1 | h1
      · have fv1 := (wantF_sm hsm k hk).FV (by omega)
        have fv2 := (hsm _ (mem_getD (d := 0) h1)).FV (by omega)
        have wi := @wantF_int row k
        simp (config := { maxSteps := 1000000 }) (disch := ((try simp only [awL]); omega)) only [Fr_get, fl, ↓awU, awV, awF, ofVal, ofVal0, isShift, aggK, forall_const, ↓reduceIte, ↓reduceDIte, ↓purePost, combine, idsA, cellsA, numsOf, srcA, calleeA, refsA, isScalar, scalarD, scalar0, AV.one, putL, unfA, implies_true, IntKind.signed, Nat.reduceAdd, Nat.reduceSub, Nat.reduceMul, Nat.reducePow, Nat.reduceDiv, Nat.reduceMod, Int.reduceAdd, Int.reduceSub, Int.reduceMul, Int.reducePow, Int.reduceNeg, Int.reduceToNat, Int.reduceLT, Int.reduceLE, Nat.reduceEqDiff, sidsB, Nat.reduceBEq, keyKD, isIntK]
        refine CallC.pure (less_spec _ _ fv1 fv2) ?_
        by_cases hlt : (wantF row k).2 < row.getD k 0
        · have ew := wantF_take hlt
          have ew1 : (wantF row (k + 1)).1 = k := by rw [ew]
          have ew2 : (wantF row (k + 1)).2 = row.getD k 0 := by rw [ew]
          rw [decide_eq_true hlt]
          simp (config := { maxSteps := 1000000 }) (disch := ((try simp only [awL]); omega)) only [hck, cut_4, colD_set, ↓awU, awV, awF, ofVal, ofVal0, isShift, aggK, forall_const, ↓reduceIte, ↓reduceDIte, ↓purePost, combine, idsA, cellsA, numsOf, srcA, calleeA, refsA, isScalar, scalarD, scalar0, AV.one, putL, unfA, implies_true, IntKind.signed, Nat.reduceAdd, Nat.reduceSub, Nat.reduceMul, Nat.reducePow, Nat.reduceDiv, Nat.reduceMod, Int.reduceAdd, Int.reduceSub, Int.reduceMul, Int.reducePow, Int.reduceNeg, Int.reduceToNat, Int.reduceLT, Int.reduceLE, Nat.reduceEqDiff, sidsB, Nat.reduceBEq, keyKD, isIntK]
          rw [← ew1, ← ew2]
          exact ⟨by decide, by decide, k + 1, h1, by simp only; omega, ⟨[some 0, some 1, some 2], rfl, by simp, by simp [setsA, keepA, SWeak, AWeak], by simp [HWeak, BWeak, SWeak, AWeak]⟩⟩
        · have ew := wantF_keep hlt
          rw [decide_eq_false hlt]
          simp (config := { maxSteps := 1000000 }) (disch := ((try simp only [awL]); omega)) only [hck, cut_4, colD_set, ↓awU, awV, awF, ofVal, ofVal0, isShift, aggK, forall_const, ↓reduceIte, ↓reduceDIte, ↓purePost, combine, idsA, cellsA, numsOf, srcA, calleeA, refsA, isScalar, scalarD, scalar0, AV.one, putL, unfA, implies_true, IntKind.signed, Nat.reduceAdd, Nat.reduceSub, Nat.reduceMul, Nat.reducePow, Nat.reduceDiv, Nat.reduceMod, Int.reduceAdd, Int.reduceSub, Int.reduceMul, Int.reducePow, Int.reduceNeg, Int.reduceToNat, Int.reduceLT, Int.reduceLE, Nat.reduceEqDiff, sidsB, Nat.reduceBEq, keyKD, isIntK]
          rw [← ew]
          exact ⟨by decide, k + 1, h1, by simp only; omega, ⟨[some 0, some 1, some 2], rfl, by simp, by simp [setsA, keepA, SWeak, AWeak], by simp [HWeak, BWeak, SWeak, AWeak]⟩⟩
      · have ek : k = row.length := by omega
        subst ek
        have hwc := colL_ok (r := row) (by omega) hsm
        have hvc := colL_valid (r := row) (by omega) hnn
        have fb := (wantF_sm hsm row.length (Nat.le_refl _)).FV (by omega)
        have wi := @wantF_int row row.length
        have eb1 : bestR [row] = .tup [.sl 1 false (ints .i64 [(wantF row row.length).1]), Frac (wantF row row.length).2, .int .i64 0] := by
          rw [bestR, if_neg (by simp [hv]), bestL_one hnn, bst_one hnn]; rfl
        have eb2 : bestR (colL row) = .tup [.sl row.length false (ints .i64 (bestL (colL row) 0)), Frac (wantF row row.length).2, .int .i64 0] := by
          rw [bestR, if_neg (by simp [hvc]), (bestL_col hnn).1, bst_col hnn]
        have hlen := (bestL_col hnn).1
        have cw := fun k (hk : k < row.length) => col_want hnn hk
        simp (config := { maxSteps := 1000000 }) (disch := ((try simp only [awL]); omega)) only [↓awU, awV, awF, ofVal, ofVal0, isShift, aggK, forall_const, ↓reduceIte, ↓reduceDIte, ↓purePost, combine, idsA, cellsA, numsOf, srcA, calleeA, refsA, isScalar, scalarD, scalar0, AV.one, putL, unfA, implies_true, IntKind.signed, Nat.reduceAdd, Nat.reduceSub, Nat.reduceMul, Nat.reducePow, Nat.reduceDiv, Nat.reduceMod, Int.reduceAdd, Int.reduceSub, Int.reduceMul, Int.reducePow, Int.reduceNeg, Int.reduceToNat, Int.reduceLT, Int.reduceLE, Nat.reduceEqDiff, sidsB, Nat.reduceBEq, keyKD, isIntK]
        refine CallC.pure (best_spec hG [row] hw) ?_
        rw [eb1]
        have ccl := @colL_length row
        simp (config := { maxSteps := 1000000 }) (disch := ((try simp only [awL]); omega)) only [colD_all, cut_Mx, ccl, ↓awU, awV, awF, ofVal, ofVal0, isShift, aggK, forall_const, ↓reduceIte, ↓reduceDIte, ↓purePost, combine, idsA, cellsA, numsOf, srcA, calleeA, refsA, isScalar, scalarD, scalar0, AV.one, putL, unfA, implies_true, IntKind.signed, Nat.reduceAdd, Nat.reduceSub, Nat.reduceMul, Nat.reducePow, Nat.reduceDiv, Nat.reduceMod, Int.reduceAdd, Int.reduceSub, Int.reduceMul, Int.reducePow, Int.reduceNeg, Int.reduceToNat, Int.reduceLT, Int.reduceLE, Nat.reduceEqDiff, sidsB, Nat.reduceBEq, keyKD, isIntK]
        refine CallC.frozenE (best_spec hG (colL row) hwc) (by rw [Mx, ccl]) ?_
        rw [eb2]
        generalize bestL (colL row) 0 = m at *
        simp (config := { maxSteps := 1000000 }) (disch := ((try simp only [awL]); omega)) only [↓awU, awV, awF, ofVal, ofVal0, isShift, aggK, forall_const, ↓reduceIte, ↓reduceDIte, ↓purePost, combine, idsA, cellsA, numsOf, srcA, calleeA, refsA, isScalar, scalarD, scalar0, AV.one, putL, unfA, implies_true, IntKind.signed, Nat.reduceAdd, Nat.reduceSub, Nat.reduceMul, Nat.reducePow, Nat.reduceDiv, Nat.reduceMod, Int.reduceAdd, Int.reduceSub, Int.reduceMul, Int.reducePow, Int.reduceNeg, Int.reduceToNat, Int.reduceLT, Int.reduceLE, Nat.reduceEqDiff, sidsB, Nat.reduceBEq, keyKD, isIntK]
        refine CallC.pure (sameF_spec _ _ fb fb) ?_
        rw [decide_eq_true rfl]
        simp (config := { maxSteps := 1000000 }) (disch := ((try simp only [awL]); omega)) only [↓awU, awV, awF, ofVal, ofVal0, isShift, aggK, forall_const, ↓reduceIte, ↓reduceDIte, ↓purePost, combine, idsA, cellsA, numsOf, srcA, calleeA, refsA, isScalar, scalarD, scalar0, AV.one, putL, unfA, implies_true, IntKind.signed, Nat.reduceAdd, Nat.reduceSub, Nat.reduceMul, Nat.reducePow, Nat.reduceDiv, Nat.reduceMod, Int.reduceAdd, Int.reduceSub, Int.reduceMul, Int.reducePow, Int.reduceNeg, Int.reduceToNat, Int.reduceLT, Int.reduceLE, Nat.reduceEqDiff, sidsB, Nat.reduceBEq, keyKD, isIntK]
        refine CallC.pure (sameF_spec _ _ fb fb) ?_
        rw [decide_eq_true rfl]
        simp (config := { maxSteps := 1000000 }) (disch := ((try simp only [awL]); omega)) only [↓awU, awV, awF, ofVal, ofVal0, isShift, aggK, forall_const, ↓reduceIte, ↓reduceDIte, ↓purePost, combine, idsA, cellsA, numsOf, srcA, calleeA, refsA, isScalar, scalarD, scalar0, AV.one, putL, unfA, implies_true, IntKind.signed, Nat.reduceAdd, Nat.reduceSub, Nat.reduceMul, Nat.reducePow, Nat.reduceDiv, Nat.reduceMod, Int.reduceAdd, Int.reduceSub, Int.reduceMul, Int.reducePow, Int.reduceNeg, Int.reduceToNat, Int.reduceLT, Int.reduceLE, Nat.reduceEqDiff, sidsB, Nat.reduceBEq, keyKD, isIntK]
        refine CallC.frozenE (sameInts_spec [(wantF row row.length).1] [(wantF row row.length).1] (by simp) (by simp)) (by rfl) ?_
        rw [decide_eq_true rfl]
        have rl8 : row.length ≤ 8 := by omega
        simp (config := { maxSteps := 1000000 }) (disch := ((try simp only [awL]); omega)) only [↓awU, awV, awF, ofVal, ofVal0, isShift, aggK, forall_const, ↓reduceIte, ↓reduceDIte, ↓purePost, combine, idsA, cellsA, numsOf, srcA, calleeA, refsA, isScalar, scalarD, scalar0, AV.one, putL, unfA, implies_true, IntKind.signed, Nat.reduceAdd, Nat.reduceSub, Nat.reduceMul, Nat.reducePow, Nat.reduceDiv, Nat.reduceMod, Int.reduceAdd, Int.reduceSub, Int.reduceMul, Int.reducePow, Int.reduceNeg, Int.reduceToNat, Int.reduceLT, Int.reduceLE, Nat.reduceEqDiff, sidsB, Nat.reduceBEq, keyKD, isIntK]
        refine LoopC.fr 475368975085586025561263702080 (α := Nat) (fun k => row.length - k) (fun k => [(99, .d (.int .i64 k)), (111, .undef), (112, .undef)])
          (fun _ => [DiceB t K]) (fun k => k ≤ row.length) 0 (Nat.zero_le _) ?_ ?_
        · exact ⟨[some 0], rfl, by simp, by simp [setsA, keepA, SWeak, AWeak], by simp [HWeak, BWeak, SWeak, AWeak]⟩
        · intro k hk2
          simp only [keepA_z8, keepA_z, keepA_cons, keepA_nil, setsA_nil, setsA_cons, List.set_cons_zero, List.set_cons_succ, set_8, Nat.reduceMod, Nat.reduceDiv, Nat.zero_mod, Nat.zero_ne_one, if_true, if_false, reduceIte]
          rcases Nat.lt_or_ge k row.length with h2 | h2
          · obtain ⟨c1, c2⟩ := cw k h2
            by_cases hz : m.getD k 0 = 0
            · have hz2 := c1.1 hz
              simp (config := { maxSteps := 1000000 }) (disch := ((try simp only [awL]); omega)) only [ints_getD, hlen, ints_length, hz, eq_true hz2, ↓awU, awV, awF, ofVal, ofVal0, isShift, aggK, forall_const, ↓reduceIte, ↓reduceDIte, ↓purePost, combine, idsA, cellsA, numsOf, srcA, calleeA, refsA, isScalar, scalarD, scalar0, AV.one, putL, unfA, implies_true, IntKind.signed, Nat.reduceAdd, Nat.reduceSub, Nat.reduceMul, Nat.reducePow, Nat.reduceDiv, Nat.reduceMod, Int.reduceAdd, Int.reduceSub, Int.reduceMul, Int.reducePow, Int.reduceNeg, Int.reduceToNat, Int.reduceLT, Int.reduceLE, Nat.reduceEqDiff, sidsB, Nat.reduceBEq, keyKD, isIntK]
              exact ⟨k + 1, h2, by simp only; omega, ⟨[some 0], rfl, by simp, by simp [setsA, keepA, SWeak, AWeak], by simp [HWeak, BWeak, SWeak, AWeak]⟩⟩
            · have hz2 := fun h => hz (c1.2 h)
              simp (config := { maxSteps := 1000000 }) (disch := ((try simp only [awL]); omega)) only [ints_getD, hlen, ints_length, hz, hz2, ↓awU, awV, awF, ofVal, ofVal0, isShift, aggK, forall_const, ↓reduceIte, ↓reduceDIte, ↓purePost, combine, idsA, cellsA, numsOf, srcA, calleeA, refsA, isScalar, scalarD, scalar0, AV.one, putL, unfA, implies_true, IntKind.signed, Nat.reduceAdd, Nat.reduceSub, Nat.reduceMul, Nat.reducePow, Nat.reduceDiv, Nat.reduceMod, Int.reduceAdd, Int.reduceSub, Int.reduceMul, Int.reducePow, Int.reduceNeg, Int.reduceToNat, Int.reduceLT, Int.reduceLE, Nat.reduceEqDiff, sidsB, Nat.reduceBEq, keyKD, isIntK]
              exact ⟨k + 1, h2, by simp only; omega, ⟨[some 0], rfl, by simp, by simp [setsA, keepA, SWeak, AWeak], by simp [HWeak, BWeak, SWeak, AWeak]⟩⟩
          · simp (config := { maxSteps := 1000000 }) (disch := ((try simp only [awL]); omega)) only [↓awU, awV, awF, ofVal, ofVal0, isShift, aggK, forall_const, ↓reduceIte, ↓reduceDIte, ↓purePost, combine, idsA, cellsA, numsOf, srcA, calleeA, refsA, isScalar, scalarD, scalar0, AV.one, putL, unfA, implies_true, IntKind.signed, Nat.reduceAdd, Nat.reduceSub, Nat.reduceMul, Nat.reducePow, Nat.reduceDiv, Nat.reduceMod, Int.reduceAdd, Int.reduceSub, Int.reduceMul, Int.reducePow, Int.reduceNeg, Int.reduceToNat, Int.reduceLT, Int.reduceLE, Nat.reduceEqDiff, sidsB, Nat.reduceBEq, keyKD, isIntK]
            refine CallC.pure (awake_spec hG) ?_
            simp (config := { maxSteps := 1000000 }) (disch := ((try simp only [awL]); omega)) only [↓awU, awV, awF, ofVal, ofVal0, isShift, aggK, forall_const, ↓reduceIte, ↓reduceDIte, ↓purePost, combine, idsA, cellsA, numsOf, srcA, calleeA, refsA, isScalar, scalarD, scalar0, AV.one, putL, unfA, implies_true, IntKind.signed, Nat.reduceAdd, Nat.reduceSub, Nat.reduceMul, Nat.reducePow, Nat.reduceDiv, Nat.reduceMod, Int.reduceAdd, Int.reduceSub, Int.reduceMul, Int.reducePow, Int.reduceNeg, Int.reduceToNat, Int.reduceLT, Int.reduceLE, Nat.reduceEqDiff, sidsB, Nat.reduceBEq, keyKD, isIntK]
  · rw [decide_eq_false hl]
    simp (config := { maxSteps := 1000000 }) (disch := ((try simp only [awL]); omega)) only [↓awU, awV, awF, ofVal, ofVal0, isShift, aggK, forall_const, ↓reduceIte, ↓reduceDIte, ↓purePost, combine, idsA, cellsA, numsOf, srcA, calleeA, refsA, isScalar, scalarD, scalar0, AV.one, putL, unfA, implies_true, IntKind.signed, Nat.reduceAdd, Nat.reduceSub, Nat.reduceMul, Nat.reducePow, Nat.reduceDiv, Nat.reduceMod, Int.reduceAdd, Int.reduceSub, Int.reduceMul, Int.reducePow, Int.reduceNeg, Int.reduceToNat, Int.reduceLT, Int.reduceLE, Nat.reduceEqDiff, sidsB, Nat.reduceBEq, keyKD, isIntK]
    refine CallC.pure (awake_spec hG) ?_
    simp (config := { maxSteps := 1000000 }) (disch := ((try simp only [awL]); omega)) only [↓awU, awV, awF, ofVal, ofVal0, isShift, aggK, forall_const, ↓reduceIte, ↓reduceDIte, ↓purePost, combine, idsA, cellsA, numsOf, srcA, calleeA, refsA, isScalar, scalarD, scalar0, AV.one, putL, unfA, implies_true, IntKind.signed, Nat.reduceAdd, Nat.reduceSub, Nat.reduceMul, Nat.reducePow, Nat.reduceDiv, Nat.reduceMod, Int.reduceAdd, Int.reduceSub, Int.reduceMul, Int.reducePow, Int.reduceNeg, Int.reduceToNat, Int.reduceLT, Int.reduceLE, Nat.reduceEqDiff, sidsB, Nat.reduceBEq, keyKD, isIntK]
end Go.Proofs.YtkppgdialedoeaaDoor

namespace Go.Proofs.YtkppgdialedoeaaDoor
open Go Go.Proofs Go.Abs
/-! Scaled weights. -/
def scaleR (k : Rat) (r : List Rat) : List Rat := r.map (· * k)
def scaleW (k : Rat) (w : List (List Rat)) : List (List Rat) := w.map (scaleR k)
theorem scaleR_get {k : Rat} {r : List Rat} {j : Nat} : (scaleR k r).getD j 0 = r.getD j 0 * k := by
  simp only [scaleR, List.getD_eq_getElem?_getD, List.getElem?_map]
  cases r[j]? with
  | none => simp [Rat.zero_mul]
  | some x => rfl
theorem scaleR_length {k : Rat} {r : List Rat} : (scaleR k r).length = r.length := by simp [scaleR]
theorem mul_lt_iff {a b k : Rat} (hk : 0 < k) : a * k < b * k ↔ a < b := Rat.mul_lt_mul_right hk
theorem mul_zero_iff {a k : Rat} (hk : 0 < k) : a * k = 0 ↔ a = 0 := by
  rw [Rat.mul_eq_zero]
  exact ⟨fun h => h.elim id fun h => absurd hk (h ▸ Rat.lt_irrefl), .inl⟩
theorem bstep_scale {f : Nat → Rat} {r : List Rat} {u j : Nat} {b k : Rat} (hk : 0 < k) : bstep (fun u => f u * k) (scaleR k r) u j (b * k) = bstep f r u j b * k := by
  simp only [bstep, scaleR_get, mul_zero_iff hk, ← Rat.add_mul, mul_lt_iff hk]
  split
  · rfl
  · split <;> rfl
theorem bloop_scale {f : Nat → Rat} {r : List Rat} {u : Nat} {b k : Rat} (hk : 0 < k) : ∀ n, bloop (fun u => f u * k) (scaleR k r) u (b * k) n = bloop f r u b n * k
  | 0 => rfl
  | n + 1 => by rw [bloop, bloop_scale hk n, bstep_scale hk]; rfl
theorem bst_scale {k : Rat} (hk : 0 < k) : ∀ w : List (List Rat), bst (scaleW k w) = fun u => bst w u * k
  | [] => by funext u; exact (Rat.zero_mul k).symm
  | r :: w => by
    funext u
    show bloop (bst (scaleW k w)) (scaleR k r) u (bst (scaleW k w) u) (scaleR k r).length = _
    rw [bst_scale hk w, scaleR_length, bloop_scale hk]; rfl
theorem mul_right_inj {a b k : Rat} (hk : 0 < k) : a * k = b * k ↔ a = b := by
  constructor
  · intro h
    refine Rat.le_antisymm (Rat.not_lt.1 fun h2 => ?_) (Rat.not_lt.1 fun h2 => ?_)
    · have := (mul_lt_iff hk).2 h2; rw [h] at this; exact Rat.lt_irrefl this
    · have := (mul_lt_iff hk).2 h2; rw [h] at this; exact Rat.lt_irrefl this
  · intro h; rw [h]
theorem okK_scale {f : Nat → Rat} {r : List Rat} {u j : Nat} {b k : Rat} (hk : 0 < k) : okK (fun u => f u * k) (scaleR k r) u j (b * k) ↔ okK f r u j b := by
  simp only [okK, scaleR_get, mul_zero_iff hk, ← Rat.add_mul, mul_right_inj hk]
theorem firstK_scale {f : Nat → Rat} {r : List Rat} {u : Nat} {b k : Rat} (hk : 0 < k) : ∀ n j, firstK (fun u => f u * k) (scaleR k r) u (b * k) j n = firstK f r u b j n
  | 0, _ => rfl
  | n + 1, j => by
    simp only [firstK, okK_scale hk, firstK_scale hk n]
theorem bestL_scale {k : Rat} (hk : 0 < k) : ∀ (w : List (List Rat)) (u : Nat), bestL (scaleW k w) u = bestL w u
  | [], _ => rfl
  | r :: w, u => by
    have e1 := bst_scale hk w
    have e2 := congrFun (bst_scale hk (r :: w)) u
    show (match firstK (bst (scaleW k w)) (scaleR k r) u (bst (scaleW k (r :: w)) u) 0 (scaleR k r).length with | some j => (j : Int) :: bestL (scaleW k w) (u ||| 2 ^ j) | none => -1 :: bestL (scaleW k w) u) = _
    rw [e1, e2, scaleR_length, firstK_scale hk]
    simp only [bestL, bestL_scale hk w]
    cases firstK (bst w) r u (bst (r :: w) u) 0 r.length <;> rfl
end Go.Proofs.YtkppgdialedoeaaDoor

namespace Go.Proofs.YtkppgdialedoeaaDoor
open Go Go.Proofs Go.Abs
/-! Rows and columns exchanged: the best weight stays. -/
def sumR (f : Nat → Rat) : Nat → Rat
  | 0 => 0
  | n + 1 => sumR f n + f n
theorem sumR_congr {f g : Nat → Rat} : ∀ {n : Nat}, (∀ i, i < n → f i = g i) → sumR f n = sumR g n
  | 0, _ => rfl
  | n + 1, h => by rw [sumR, sumR, sumR_congr fun i hi => h i (by omega), h n (by omega)]
theorem sumR_zero : ∀ n, sumR (fun _ => 0) n = 0
  | 0 => rfl
  | n + 1 => by rw [sumR, sumR_zero n, Rat.add_zero]
theorem sumR_add {f g : Nat → Rat} : ∀ n, sumR (fun i => f i + g i) n = sumR f n + sumR g n
  | 0 => by simp [sumR, Rat.add_zero]
  | n + 1 => by
    simp only [sumR, sumR_add n]
    rw [Rat.add_assoc, Rat.add_assoc]; congr 1
    rw [← Rat.add_assoc, ← Rat.add_assoc]; congr 1
    exact Rat.add_comm _ _
theorem sumR_swap {f : Nat → Nat → Rat} {m : Nat} : ∀ n, sumR (fun i => sumR (f i) m) n = sumR (fun j => sumR (fun i => f i j) n) m
  | 0 => (sumR_zero m).symm
  | n + 1 => by
    rw [sumR, sumR_swap n, ← sumR_add]
    exact sumR_congr fun j _ => rfl
theorem sumR_none {f : Nat → Rat} {n : Nat} (h : ∀ i, i < n → f i = 0) : sumR f n = 0 := by
  rw [sumR_congr h, sumR_zero]
theorem sumR_one {f : Nat → Rat} : ∀ {n k : Nat}, k < n → (∀ i, i < n → i ≠ k → f i = 0) → sumR f n = f k
  | n + 1, k, hk, h => by
    rw [sumR]
    by_cases e : k = n
    · subst e
      rw [sumR_none fun i hi => h i (by omega) (by omega), Rat.zero_add]
    · rw [sumR_one (k := k) (by omega) fun i hi hne => h i (by omega) hne, h n (by omega) (fun e2 => e e2.symm), Rat.add_zero]
/-- What a row gets. -/
def entR (w : List (List Rat)) (l : List Int) (i : Nat) : Rat := if 0 ≤ l.getD i 0 then (w.getD i []).getD (l.getD i 0).toNat 0 else 0
theorem sumR_cons {f : Nat → Rat} : ∀ n, sumR f (n + 1) = f 0 + sumR (fun i => f (i + 1)) n
  | 0 => by simp [sumR, Rat.add_zero, Rat.zero_add]
  | n + 1 => by rw [sumR, sumR_cons n, sumR, Rat.add_assoc]
theorem tot_sumR : ∀ (w : List (List Rat)) (l : List Int), l.length = w.length → tot w l = sumR (entR w l) w.length
  | [], [], _ => rfl
  | r :: w, k :: l, h => by
    rw [tot, tot_sumR w l (by simpa using h), List.length_cons, sumR_cons]
    rfl
  | [], _ :: _, h => by simp at h
  | _ :: _, [], h => by simp at h
/-- Rows and columns exchanged. -/
def trW (m : Nat) (w : List (List Rat)) : List (List Rat) := (List.range m).map fun j => w.map fun r => r.getD j 0
theorem trW_length {m : Nat} {w : List (List Rat)} : (trW m w).length = m := by simp [trW]
theorem trW_get {m j : Nat} {w : List (List Rat)} (h : j < m) : (trW m w).getD j [] = w.map fun r => r.getD j 0 := by
  simp [trW, List.getD_eq_getElem?_getD, List.getElem?_map, List.getElem?_range h]
theorem trW_at {m i j : Nat} {w : List (List Rat)} (h : j < m) (hi : i < w.length) : ((trW m w).getD j []).getD i 0 = (w.getD i []).getD j 0 := by
  rw [trW_get h]
  simp [List.getD_eq_getElem?_getD, List.getElem?_map, List.getElem?_eq_getElem hi]
/-- The row that takes a column. -/
def whoL (l : List Int) (j : Nat) : Int := match l.findIdx? (fun k => k == (j : Int)) with | some i => i | none => -1
def invL (m : Nat) (l : List Int) : List Int := (List.range m).map (whoL l)
theorem invL_length {m : Nat} {l : List Int} : (invL m l).length = m := by simp [invL]
theorem invL_get {m j : Nat} {l : List Int} (h : j < m) : (invL m l).getD j 0 = whoL l j := by
  simp [invL, List.getD_eq_getElem?_getD, List.getElem?_map, List.getElem?_range h]
theorem whoL_some {l : List Int} {j i : Nat} (h : whoL l j = (i : Int)) : i < l.length ∧ l.getD i 0 = j := by
  unfold whoL at h
  split at h
  · rename_i i' hf
    have : i' = i := by omega
    subst this
    obtain ⟨h1, h2, _⟩ := List.findIdx?_eq_some_iff_getElem.1 hf
    refine ⟨h1, ?_⟩
    rw [List.getD_eq_getElem?_getD, List.getElem?_eq_getElem h1]
    simpa using h2
  · omega
theorem whoL_none {l : List Int} {j : Nat} (h : ¬ 0 ≤ whoL l j) : ∀ i, i < l.length → l.getD i 0 ≠ j := by
  unfold whoL at h
  split at h
  · omega
  · rename_i hf
    intro i hi e
    have := List.findIdx?_eq_none_iff.1 hf (l.getD i 0) (mem_getD hi)
    rw [e] at this; simp at this
theorem whoL_ge {l : List Int} {j : Nat} : -1 ≤ whoL l j := by
  unfold whoL; split <;> omega
theorem inv_feas {w : List (List Rat)} {m : Nat} {l : List Int} (hw : ∀ i, i < w.length → (w.getD i []).length = m) (h : plain w 0 l) : plain (trW m w) 0 (invL m l) ∧ tot (trW m w) (invL m l) = tot w l := by
  obtain ⟨p1, p2, _, p4⟩ := h
  have uniq : ∀ i i', i < l.length → i' < l.length → 0 ≤ l.getD i 0 → l.getD i 0 = l.getD i' 0 → i = i' := fun i i' hi hi' h0 e => by
    rcases Nat.lt_trichotomy i i' with h | h | h
    · exact absurd e (p4 i' hi' (e ▸ h0) i h)
    · exact h
    · exact absurd e.symm (p4 i hi h0 i' h)
  refine ⟨⟨by rw [invL_length, trW_length], fun j hj => ?_, fun _ _ _ => by simp, fun j hj h0 i hi => ?_⟩, ?_⟩
  · rw [invL_length] at hj
    rw [invL_get hj, trW_get hj, List.length_map]
    refine ⟨whoL_ge, ?_⟩
    by_cases h0 : 0 ≤ whoL l j
    · obtain ⟨i, hi⟩ : ∃ i : Nat, whoL l j = i := ⟨(whoL l j).toNat, by omega⟩
      have := (whoL_some hi).1
      omega
    · omega
  · rw [invL_length] at hj
    rw [invL_get hj] at h0 ⊢
    rw [invL_get (by omega)]
    intro e
    obtain ⟨a, ha⟩ : ∃ a : Nat, whoL l j = a := ⟨(whoL l j).toNat, by omega⟩
    have h1 := (whoL_some ha).2
    have h2 := (whoL_some (e.trans ha)).2
    rw [h1] at h2
    omega
  · rw [tot_sumR w l p1, tot_sumR _ _ (by rw [invL_length, trW_length]), trW_length]
    have e1 : sumR (entR w l) w.length = sumR (fun i => sumR (fun j => if l.getD i 0 = (j : Int) then (w.getD i []).getD j 0 else 0) m) w.length := by
      refine sumR_congr fun i hi => ?_
      obtain ⟨a1, a2⟩ := p2 i (by omega)
      rw [hw i hi] at a2
      unfold entR
      split
      · rename_i h0
        obtain ⟨a, ha⟩ : ∃ a : Nat, l.getD i 0 = a := ⟨(l.getD i 0).toNat, by omega⟩
        rw [sumR_one (k := a) (by omega) fun j hj hne => if_neg (by omega), if_pos ha, ha, Int.toNat_natCast]
      · exact (sumR_none fun j _ => if_neg (by omega)).symm
    rw [e1, sumR_swap]
    refine sumR_congr fun j hj => ?_
    unfold entR
    rw [invL_get hj]
    split
    · rename_i h0
      obtain ⟨a, ha⟩ : ∃ a : Nat, whoL l j = a := ⟨(whoL l j).toNat, by omega⟩
      obtain ⟨h1, h2⟩ := whoL_some ha
      rw [sumR_one (k := a) (by omega) fun i hi hne => if_neg fun e => hne (uniq i a (by omega) h1 (by omega) (e.trans h2.symm)), if_pos h2, ha, Int.toNat_natCast, trW_at hj (by omega)]
    · rename_i h0
      exact (sumR_none fun i hi => if_neg (whoL_none h0 i (by omega))).symm
theorem bst_tr_le {w : List (List Rat)} {m : Nat} (hw : ∀ i, i < w.length → (w.getD i []).length = m) : bst w 0 ≤ bst (trW m w) 0 := by
  obtain ⟨f, e, _⟩ := bestL_ok w 0
  obtain ⟨g1, g2⟩ := inv_feas hw ((feas_plain w 0 _).1 f)
  rw [← e, ← g2]
  exact tot_le _ _ _ ((feas_plain _ _ _).2 g1)
theorem trW_trW {w : List (List Rat)} {m : Nat} (hw : ∀ i, i < w.length → (w.getD i []).length = m) : trW w.length (trW m w) = w := by
  apply List.ext_getElem?
  intro i
  rcases Nat.lt_or_ge i w.length with h | h
  · have e1 : (trW w.length (trW m w)).getD i [] = w.getD i [] := by
      rw [trW_get h]
      apply List.ext_getElem?
      intro j
      rcases Nat.lt_or_ge j m with hj | hj
      · have := trW_at (w := w) hj h
        have hl := hw i h
        simp only [List.getElem?_map]
        rw [List.getElem?_eq_getElem (by rw [trW_length]; exact hj), List.getElem?_eq_getElem (by omega)]
        simp only [Option.map_some, Option.some.injEq]
        have gd : ∀ {β : Type} (l : List β) (d : β) (n : Nat) (hn : n < l.length), l.getD n d = l[n] := fun l d n hn => by
          rw [List.getD_eq_getElem?_getD, List.getElem?_eq_getElem hn]; rfl
        rw [gd (trW m w) [] j (by rw [trW_length]; exact hj), gd (w.getD i []) 0 j (by omega)] at this
        exact this
      · rw [List.getElem?_eq_none (by rw [List.length_map, trW_length]; exact hj), List.getElem?_eq_none (by rw [hw i h]; exact hj)]
    rw [List.getElem?_eq_getElem (by rw [trW_length]; exact h), List.getElem?_eq_getElem h]
    rw [List.getD_eq_getElem?_getD, List.getD_eq_getElem?_getD, List.getElem?_eq_getElem (by rw [trW_length]; exact h), List.getElem?_eq_getElem h] at e1
    exact congrArg some e1
  · rw [List.getElem?_eq_none (by rw [trW_length]; exact h), List.getElem?_eq_none h]
theorem bst_tr {w : List (List Rat)} {m : Nat} (hw : ∀ i, i < w.length → (w.getD i []).length = m) : bst (trW m w) 0 = bst w 0 := by
  refine Rat.le_antisymm ?_ (bst_tr_le hw)
  have := bst_tr_le (w := trW m w) (m := w.length) fun j hj => by
    rw [trW_length] at hj; rw [trW_get hj, List.length_map]
  rwa [trW_trW hw] at this
end Go.Proofs.YtkppgdialedoeaaDoor

namespace Go.Proofs.YtkppgdialedoeaaDoor
open Go Go.Proofs Go.Abs
variable {G : Globals}
/-! AssignmentScales: the exchanged table is a box of own rows; it is sealed when it is handed on. -/
abbrev MS : Muts := fun n => match Nat.beq n 2000051 with | true => true | false => Nat.beq n 2000100
theorem ent_scale {t : List Int} {j : Nat} {a b : Int} (ha : 1 ≤ a) (ha2 : a ≤ 6) (hb : 1 ≤ b) (hb2 : b ≤ 3) : Sm 1000 (ent t j * Rat.divInt a b) := by
  have h1 := @nx_range t (j + 1) 2 (by decide)
  have h2 := @tab7_range (nx t j 7).toNat
  simp only [ent]
  have hq : 1 + nx t (j + 1) 2 = 1 ∨ 1 + nx t (j + 1) 2 = 2 := by omega
  clear h1
  generalize tab7.getD (nx t j 7).toNat 0 = p at *
  generalize 1 + nx t (j + 1) 2 = q at *
  rw [Rat.divInt_mul_divInt]
  obtain ⟨c, hc, hc0, hd⟩ : ∃ c : Nat, q * b = c ∧ c ≠ 0 ∧ c ∣ 12 := by
    obtain rfl | rfl | rfl : b = 1 ∨ b = 2 ∨ b = 3 := by omega
    · rcases hq with rfl | rfl
      · exact ⟨1, rfl, by decide, by decide⟩
      · exact ⟨2, rfl, by decide, by decide⟩
    · rcases hq with rfl | rfl
      · exact ⟨2, rfl, by decide, by decide⟩
      · exact ⟨4, rfl, by decide, by decide⟩
    · rcases hq with rfl | rfl
      · exact ⟨3, rfl, by decide, by decide⟩
      · exact ⟨6, rfl, by decide, by decide⟩
  rw [hc]
  refine (Sm.of (a := p * a) (b := c) hd hc0).mono ?_
  have h3 : p * a ≤ 5 * 6 := Int.mul_le_mul h2.2 ha2 (by omega) (by decide)
  have h4 : 0 ≤ p * a := Int.mul_nonneg h2.1 (by omega)
  omega
def colK (w : List (List Rat)) (q i : Nat) : List Rat := (w.take i).map fun r => r.getD q 0
theorem colK_length {w : List (List Rat)} {q i : Nat} (h : i ≤ w.length) : (colK w q i).length = i := by simp [colK]; omega
theorem colK_push {w : List (List Rat)} {q i : Nat} (h : i < w.length) : colK w q i ++ [(w.getD i []).getD q 0] = colK w q (i + 1) := by
  rw [colK, colK, List.take_add_one, List.getElem?_eq_getElem h, List.map_append]
  simp [List.getD_eq_getElem?_getD, List.getElem?_eq_getElem h]
theorem colK_all {w : List (List Rat)} {q m : Nat} (h : q < m) : colK w q w.length = (trW m w).getD q [] := by
  rw [trW_get h, colK, List.take_length]
theorem scale_push {w : List (List Rat)} {k : Rat} {i : Nat} (h : i < w.length) : scaleW k (w.take i) ++ [scaleR k (w.getD i [])] = scaleW k (w.take (i + 1)) := by
  rw [List.take_add_one, List.getElem?_eq_getElem h, scaleW, scaleW, List.map_append]
  simp [List.getD_eq_getElem?_getD, List.getElem?_eq_getElem h]
theorem scaleW_length {w : List (List Rat)} {k : Rat} : (scaleW k w).length = w.length := by simp [scaleW]

theorem divInt_pos {a b : Int} (ha : 0 < a) (hb : 0 < b) : 0 < Rat.divInt a b := by
  have h0 : 0 ≤ Rat.divInt a b := (Rat.divInt_nonneg_iff_of_pos_right hb).2 (by omega)
  refine Rat.not_le.1 fun h => ?_
  have e := Rat.le_antisymm h h0
  rw [← Rat.zero_divInt 1, Rat.divInt_eq_divInt_iff (by omega) (by decide)] at e
  omega
theorem part_FV {a b : Int} (ha : 1 ≤ a) (ha2 : a ≤ 6) (hb : 1 ≤ b) (hb2 : b ≤ 3) : FV (Rat.divInt a b) := by
  obtain ⟨c, hc, hc0, hd⟩ : ∃ c : Nat, b = c ∧ c ≠ 0 ∧ c ∣ 12 := by
    obtain rfl | rfl | rfl : b = 1 ∨ b = 2 ∨ b = 3 := by omega
    · exact ⟨1, rfl, by decide, by decide⟩
    · exact ⟨2, rfl, by decide, by decide⟩
    · exact ⟨3, rfl, by decide, by decide⟩
  rw [hc]
  exact (Sm.of (a := a) (b := c) hd hc0).FV (by omega)
theorem list1 {l : List Rat} (h : l.length = 1) : ∃ x0, l = [x0] := by
  match l, h with
  | [x0], _ => exact ⟨x0, rfl⟩
theorem list2 {l : List Rat} (h : l.length = 2) : ∃ x0 x1, l = [x0, x1] := by
  match l, h with
  | [x0, x1], _ => exact ⟨x0, x1, rfl⟩
theorem list3 {l : List Rat} (h : l.length = 3) : ∃ x0 x1 x2, l = [x0, x1, x2] := by
  match l, h with
  | [x0, x1, x2], _ => exact ⟨x0, x1, x2, rfl⟩
theorem list4 {l : List Rat} (h : l.length = 4) : ∃ x0 x1 x2 x3, l = [x0, x1, x2, x3] := by
  match l, h with
  | [x0, x1, x2, x3], _ => exact ⟨x0, x1, x2, x3, rfl⟩
theorem matW_ent {t : List Int} {k r c : Nat} : ∀ a ∈ matW t k r c, a.length = c ∧ ∀ x ∈ a, ∃ j, x = ent t j := fun a ha => by
  simp only [matW, List.mem_map] at ha
  obtain ⟨j, _, rfl⟩ := ha
  refine ⟨rowW_length, fun x hx => ?_⟩
  simp only [rowW, List.mem_map] at hx
  obtain ⟨i, _, rfl⟩ := hx
  exact ⟨_, rfl⟩
theorem rect_ok {w : List (List Rat)} {m n : Nat} (hl : w.length ≤ 500) (hm : m ≤ 500) (hr : ∀ a ∈ w, a.length = m ∧ ∀ x ∈ a, Sm n x) (hn : n ≤ 1000) : Wok w := by
  refine ⟨by omega, fun i => ?_, fun row hrow x hx => ((hr row hrow).2 x hx).mono hn⟩
  rcases Nat.lt_or_ge i w.length with h | h
  · have := (hr _ (mem_getD (d := []) h)).1; omega
  · rw [List.getD_eq_getElem?_getD, List.getElem?_eq_none h]; simp
theorem rect_valid {w : List (List Rat)} {m : Nat} (h0 : 0 < w.length) (hl : w.length ≤ 8) (hm : m ≤ 8) (hr : ∀ a ∈ w, a.length = m ∧ ∀ x ∈ a, 0 ≤ x) : validE w = 0 := by
  have hlen : ∀ i, i < w.length → (w.getD i []).length = m := fun i hi => (hr _ (mem_getD hi)).1
  refine ve_e (side8_of (by omega) (fun i hi => by rw [hlen i hi]; exact hm)) (sameL_of fun i hi => by rw [hlen i hi, hlen 0 h0]) (fun i hi j hj => ?_)
  exact Rat.not_lt.2 ((hr _ (mem_getD hi)).2 _ (mem_getD hj))
theorem scaleW_mem {w : List (List Rat)} {k : Rat} {a : List Rat} (h : a ∈ scaleW k w) : ∃ b ∈ w, a = scaleR k b := by
  simp only [scaleW, List.mem_map] at h
  obtain ⟨b, hb, rfl⟩ := h
  exact ⟨b, hb, rfl⟩
theorem trW_mem {w : List (List Rat)} {m : Nat} (hr : ∀ a ∈ w, a.length = m) {a : List Rat} (h : a ∈ trW m w) : a.length = w.length ∧ ∀ x ∈ a, ∃ b ∈ w, x ∈ b := by
  simp only [trW, List.mem_map] at h
  obtain ⟨j, hj, rfl⟩ := h
  refine ⟨by simp, fun x hx => ?_⟩
  simp only [List.mem_map] at hx
  obtain ⟨b, hb, rfl⟩ := hx
  refine ⟨b, hb, mem_getD ?_⟩
  rw [hr b hb]
  exact List.mem_range.1 hj
def hS1 (t : List Int) (K : Nat) (w : List (List Rat)) (k : Rat) (i : Nat) (x0 : Rat) : Nat → List ABlk
  | 0 => [DiceB t K, .box [.d (.bool (decide (k.num < 0))), .d (W (toW k.num.natAbs)), .d (.bool false), .d (W (toW k.den))], .box [.lsl 3 4 0 i], .row false (Fr (colK w 0 i)), .row false (MxL (scaleW k (w.take i))), .row false (Fr [])]
  | 1 => [DiceB t K, .box [.d (.bool (decide (k.num < 0))), .d (W (toW k.num.natAbs)), .d (.bool false), .d (W (toW k.den))], .box [.lsl 3 4 0 (i + 1)], .row false (Fr (colK w 0 (i + 1))), .row false (MxL (scaleW k (w.take i))), .row false (Fr [x0 * k])]
  | _ => []
set_option maxHeartbeats 16000000 in
set_option maxRecDepth 100000 in
theorem scales_law1 (hG : HG G) (t : List Int) (hT : OkT t) (by' : Int) (hb1 : -9223372036854775808 ≤ by') (hb2 : by' ≤ 9223372036854775807) (r : Nat) (hr : 1 + nx t 0 4 = r) (hm : 1 + nx t 1 4 = (1 : Nat)) :
    Ctr Tryd.prog G 4 [.d (.sl t.length false (ints .i64 t)), .d (.int .i64 by')] [] (.d (.bool true)) [] := by
  refine Ctr.pure (M := MS) hmix Tryd.func4 rfl go4 ?_
  simp (config := { maxSteps := 1000000 }) (disch := ((try simp only [awL]); omega)) only [MS, Nat.beq_eq, Tryd.f4, ↓awU, awV, awF, ofVal, ofVal0, isShift, aggK, forall_const, ↓reduceIte, ↓reduceDIte, ↓purePost, combine, idsA, cellsA, numsOf, srcA, calleeA, refsA, isScalar, scalarD, scalar0, AV.one, putL, unfA, implies_true, IntKind.signed, Nat.reduceAdd, Nat.reduceSub, Nat.reduceMul, Nat.reducePow, Nat.reduceDiv, Nat.reduceMod, Int.reduceAdd, Int.reduceSub, Int.reduceMul, Int.reducePow, Int.reduceNeg, Int.reduceToNat, Int.reduceLT, Int.reduceLE, Nat.reduceEqDiff, sidsB, Nat.reduceBEq, keyKD, isIntK]
  refine CallC.pure (light_spec t) ?_
  rw [decide_eq_true hT.1]
  simp (config := { maxSteps := 1000000 }) (disch := ((try simp only [awL]); omega)) only [MS, Nat.beq_eq, ↓awU, awV, awF, ofVal, ofVal0, isShift, aggK, forall_const, ↓reduceIte, ↓reduceDIte, ↓purePost, combine, idsA, cellsA, numsOf, srcA, calleeA, refsA, isScalar, scalarD, scalar0, AV.one, putL, unfA, implies_true, IntKind.signed, Nat.reduceAdd, Nat.reduceSub, Nat.reduceMul, Nat.reducePow, Nat.reduceDiv, Nat.reduceMod, Int.reduceAdd, Int.reduceSub, Int.reduceMul, Int.reducePow, Int.reduceNeg, Int.reduceToNat, Int.reduceLT, Int.reduceLE, Nat.reduceEqDiff, sidsB, Nat.reduceBEq, keyKD, isIntK]
  refine CallC.by (roll_spec t hT.1) rfl rfl (Nat.zero_le _) ?_
  simp (config := { maxSteps := 1000000 }) (disch := ((try simp only [awL]); omega)) only [MS, Nat.beq_eq, ↓awU, awV, awF, ofVal, ofVal0, isShift, aggK, forall_const, ↓reduceIte, ↓reduceDIte, ↓purePost, combine, idsA, cellsA, numsOf, srcA, calleeA, refsA, isScalar, scalarD, scalar0, AV.one, putL, unfA, implies_true, IntKind.signed, Nat.reduceAdd, Nat.reduceSub, Nat.reduceMul, Nat.reducePow, Nat.reduceDiv, Nat.reduceMod, Int.reduceAdd, Int.reduceSub, Int.reduceMul, Int.reducePow, Int.reduceNeg, Int.reduceToNat, Int.reduceLT, Int.reduceLE, Nat.reduceEqDiff, sidsB, Nat.reduceBEq, keyKD, isIntK]
  have n1 := @nx_range t 0 4 (by decide)
  have n2 := @nx_range t 1 4 (by decide)
  refine CallC.by (next_spec t 0 4 hT (by decide) (by decide)) (by rfl) (by rfl) (Nat.le_refl _) ?_
  simp (config := { maxSteps := 1000000 }) (disch := ((try simp only [awL]); omega)) only [MS, Nat.beq_eq, ↓awU, awV, awF, ofVal, ofVal0, isShift, aggK, forall_const, ↓reduceIte, ↓reduceDIte, ↓purePost, combine, idsA, cellsA, numsOf, srcA, calleeA, refsA, isScalar, scalarD, scalar0, AV.one, putL, unfA, implies_true, IntKind.signed, Nat.reduceAdd, Nat.reduceSub, Nat.reduceMul, Nat.reducePow, Nat.reduceDiv, Nat.reduceMod, Int.reduceAdd, Int.reduceSub, Int.reduceMul, Int.reducePow, Int.reduceNeg, Int.reduceToNat, Int.reduceLT, Int.reduceLE, Nat.reduceEqDiff, sidsB, Nat.reduceBEq, keyKD, isIntK]
  rw [hr]
  refine CallC.by (next_spec t 1 4 hT (by decide) (by decide)) (by rfl) (by rfl) (Nat.le_refl _) ?_
  simp (config := { maxSteps := 1000000 }) (disch := ((try simp only [awL]); omega)) only [MS, Nat.beq_eq, ↓awU, awV, awF, ofVal, ofVal0, isShift, aggK, forall_const, ↓reduceIte, ↓reduceDIte, ↓purePost, combine, idsA, cellsA, numsOf, srcA, calleeA, refsA, isScalar, scalarD, scalar0, AV.one, putL, unfA, implies_true, IntKind.signed, Nat.reduceAdd, Nat.reduceSub, Nat.reduceMul, Nat.reducePow, Nat.reduceDiv, Nat.reduceMod, Int.reduceAdd, Int.reduceSub, Int.reduceMul, Int.reducePow, Int.reduceNeg, Int.reduceToNat, Int.reduceLT, Int.reduceLE, Nat.reduceEqDiff, sidsB, Nat.reduceBEq, keyKD, isIntK]
  rw [hm]
  refine CallC.by (weights_spec t 2 r 1 hT (by omega) (by omega)) (by rfl) (by rfl) (Nat.le_refl _) ?_
  have hw := @matW_ok t 2 r 1 (by omega) (by omega)
  have hwl := @matW_length t 2 r 1
  have hent := @matW_ent t 2 r 1
  generalize matW t 2 r 1 = w at *
  generalize 2 + 2 * 1 * r = K at *
  have hrow : ∀ a ∈ w, a.length = 1 := fun a ha => (hent a ha).1
  have ml := @MxL_length w
  have hb3 : -9223372036854775808 ≤ by'.tdiv 6 ∧ by'.tdiv 6 ≤ 9223372036854775807 := by
    rw [Int.tdiv_eq_ediv]
    have e6 : Int.sign 6 = 1 := rfl
    split <;> omega
  have y1 := Int.emod_nonneg by' (show (6 : Int) ≠ 0 by decide)
  have y2 := Int.emod_lt_of_pos by' (show (0 : Int) < 6 by decide)
  have z1 := Int.emod_nonneg (by'.tdiv 6) (show (3 : Int) ≠ 0 by decide)
  have z2 := Int.emod_lt_of_pos (by'.tdiv 6) (show (0 : Int) < 3 by decide)
  simp (config := { maxSteps := 1000000 }) (disch := ((try simp only [awL]); omega)) only [MS, Nat.beq_eq, ↓awU, awV, awF, ofVal, ofVal0, isShift, aggK, forall_const, ↓reduceIte, ↓reduceDIte, ↓purePost, combine, idsA, cellsA, numsOf, srcA, calleeA, refsA, isScalar, scalarD, scalar0, AV.one, putL, unfA, implies_true, IntKind.signed, Nat.reduceAdd, Nat.reduceSub, Nat.reduceMul, Nat.reducePow, Nat.reduceDiv, Nat.reduceMod, Int.reduceAdd, Int.reduceSub, Int.reduceMul, Int.reducePow, Int.reduceNeg, Int.reduceToNat, Int.reduceLT, Int.reduceLE, Nat.reduceEqDiff, sidsB, Nat.reduceBEq, keyKD, isIntK]
  refine CallC.pure (mod_spec by' 6 hb1 hb2 (by decide) (by decide)) ?_
  simp (config := { maxSteps := 1000000 }) (disch := ((try simp only [awL]); omega)) only [MS, Nat.beq_eq, ↓awU, awV, awF, ofVal, ofVal0, isShift, aggK, forall_const, ↓reduceIte, ↓reduceDIte, ↓purePost, combine, idsA, cellsA, numsOf, srcA, calleeA, refsA, isScalar, scalarD, scalar0, AV.one, putL, unfA, implies_true, IntKind.signed, Nat.reduceAdd, Nat.reduceSub, Nat.reduceMul, Nat.reducePow, Nat.reduceDiv, Nat.reduceMod, Int.reduceAdd, Int.reduceSub, Int.reduceMul, Int.reducePow, Int.reduceNeg, Int.reduceToNat, Int.reduceLT, Int.reduceLE, Nat.reduceEqDiff, sidsB, Nat.reduceBEq, keyKD, isIntK]
  refine CallC.pure (mod_spec (by'.tdiv 6) 3 hb3.1 hb3.2 (by decide) (by decide)) ?_
  simp (config := { maxSteps := 1000000 }) (disch := ((try simp only [awL]); omega)) only [MS, Nat.beq_eq, ↓awU, awV, awF, ofVal, ofVal0, isShift, aggK, forall_const, ↓reduceIte, ↓reduceDIte, ↓purePost, combine, idsA, cellsA, numsOf, srcA, calleeA, refsA, isScalar, scalarD, scalar0, AV.one, putL, unfA, implies_true, IntKind.signed, Nat.reduceAdd, Nat.reduceSub, Nat.reduceMul, Nat.reducePow, Nat.reduceDiv, Nat.reduceMod, Int.reduceAdd, Int.reduceSub, Int.reduceMul, Int.reducePow, Int.reduceNeg, Int.reduceToNat, Int.reduceLT, Int.reduceLE, Nat.reduceEqDiff, sidsB, Nat.reduceBEq, keyKD, isIntK]
  refine CallC.pure (part_spec (1 + by' % 6) (1 + by'.tdiv 6 % 3) (by omega) (by omega) (by omega) (by omega)) ?_
  have hkp : 0 < Rat.divInt (1 + by' % 6) (1 + by'.tdiv 6 % 3) := divInt_pos (by omega) (by omega)
  have hkv : FV (Rat.divInt (1 + by' % 6) (1 + by'.tdiv 6 % 3)) := part_FV (by omega) (by omega) (by omega) (by omega)
  have hks : ∀ j, Sm 1000 (ent t j * Rat.divInt (1 + by' % 6) (1 + by'.tdiv 6 % 3)) := fun j => ent_scale (by omega) (by omega) (by omega) (by omega)
  generalize Rat.divInt (1 + by' % 6) (1 + by'.tdiv 6 % 3) = k at *
  simp (config := { maxSteps := 1000000 }) (disch := ((try simp only [awL]); omega)) only [MS, Nat.beq_eq, ml, ↓awU, awV, awF, ofVal, ofVal0, isShift, aggK, forall_const, ↓reduceIte, ↓reduceDIte, ↓purePost, combine, idsA, cellsA, numsOf, srcA, calleeA, refsA, isScalar, scalarD, scalar0, AV.one, putL, unfA, implies_true, IntKind.signed, Nat.reduceAdd, Nat.reduceSub, Nat.reduceMul, Nat.reducePow, Nat.reduceDiv, Nat.reduceMod, Int.reduceAdd, Int.reduceSub, Int.reduceMul, Int.reducePow, Int.reduceNeg, Int.reduceToNat, Int.reduceLT, Int.reduceLE, Nat.reduceEqDiff, sidsB, Nat.reduceBEq, keyKD, isIntK]
  have hmem : ∀ i, i < w.length → ∀ q, q < 1 → ∃ j, (w.getD i []).getD q 0 = ent t j := fun i hi q hq => by
    have h1 := hent _ (mem_getD (d := []) hi)
    exact h1.2 _ (mem_getD (by omega))
  refine LoopC.fr 26710105434996492030586573936618048064256 (α := Nat) (fun i => w.length - i) (fun i => [(10, .lsl 4 1 0 i), (54, .d (.int .i64 i))])
    (fun i => [DiceB t K, .box [.d (.bool (decide (k.num < 0))), .d (W (toW k.num.natAbs)), .d (.bool false), .d (W (toW k.den))], .box [.lsl 3 4 0 i], .row false (Fr (colK w 0 i)), .row false (MxL (scaleW k (w.take i)))]) (fun i => i ≤ w.length) 0 (Nat.zero_le _) ?_ ?_
  · exact ⟨[some 0, some 1, some 2, none, none], rfl, by simp, by simp [setsA, keepA, SWeak, AWeak], by simp [HWeak, BWeak, SWeak, AWeak, colK, Fr, scaleW, MxL]⟩
  · intro i hi
    simp only [keepA_z8, keepA_z, keepA_cons, keepA_nil, setsA_nil, setsA_cons, List.set_cons_zero, List.set_cons_succ, set_8, Nat.reduceMod, Nat.reduceDiv, Nat.zero_mod, Nat.zero_ne_one, if_true, if_false, reduceIte]
    rcases Nat.lt_or_ge i w.length with h1 | h1
    · obtain ⟨x0, hx⟩ : ∃ x0, w.getD i [] = [x0] := list1 (hrow _ (mem_getD h1))
      have g0 : (w.getD i []).getD 0 0 = x0 := by rw [hx]; rfl
      obtain ⟨j0, e0⟩ := hmem i h1 0 (by decide)
      rw [g0] at e0
      have c0 : Fr (colK w 0 i) ++ [.bool (decide (x0.num < 0)), W (toW x0.num.natAbs), .bool false, W (toW x0.den)] = Fr (colK w 0 (i + 1)) := by
        rw [← colK_push h1, g0]; exact Fr_push
      have l0 := @Fr_length (colK w 0 i)
      rw [colK_length hi] at l0
      have f0 : FV x0 := by rw [e0]; exact ent_Sm.1.FV (by decide)
      have p0 : FV (x0 * k) := by rw [e0]; exact (hks _).FV (by decide)
      have lm := @MxL_length (scaleW k (w.take i))
      have lm2 : (scaleW k (w.take i)).length = i := by rw [scaleW_length, List.length_take]; omega
      have hsc : MxL (scaleW k (w.take i)) ++ [.sl 1 false (Fr [x0 * k])] = MxL (scaleW k (w.take (i + 1))) := by
        rw [← scale_push h1, hx]; exact MxL_push (r := [x0 * k])
      have hq : cut (Fr [x0 * k]) 0 4 = Fr [x0 * k] := rfl
      simp only [Fr] at hsc hq
      simp (config := { maxSteps := 1000000 }) (disch := ((try simp only [awL]); omega)) only [MS, Nat.beq_eq, ml, MxL_get, hx, Fr, ↓awU, awV, awF, ofVal, ofVal0, isShift, aggK, forall_const, ↓reduceIte, ↓reduceDIte, ↓purePost, combine, idsA, cellsA, numsOf, srcA, calleeA, refsA, isScalar, scalarD, scalar0, AV.one, putL, unfA, implies_true, IntKind.signed, Nat.reduceAdd, Nat.reduceSub, Nat.reduceMul, Nat.reducePow, Nat.reduceDiv, Nat.reduceMod, Int.reduceAdd, Int.reduceSub, Int.reduceMul, Int.reducePow, Int.reduceNeg, Int.reduceToNat, Int.reduceLT, Int.reduceLE, Nat.reduceEqDiff, sidsB, Nat.reduceBEq, keyKD, isIntK]
      refine LoopC.fr 26710105434996492030587456642145012682496 (α := Nat) (fun j => 1 - j) (fun j => [(14, .lsl 5 4 0 j), (60, .d (.int .i64 j))])
        (hS1 t K w k i x0) (fun j => j ≤ 1) 0 (Nat.zero_le _) ?_ ?_
      · exact ⟨[some 0, some 1, some 2, some 3, some 4, none], rfl, by simp [hS1], by simp [setsA, keepA, SWeak, AWeak], by simp [hS1, HWeak, BWeak, SWeak, AWeak, Fr]⟩
      · intro j hj
        obtain rfl | rfl : j = 0 ∨ j = 1 := by omega
        · simp only [keepA_z8, keepA_z, keepA_cons, keepA_nil, setsA_nil, setsA_cons, List.set_cons_zero, List.set_cons_succ, set_8, Nat.reduceMod, Nat.reduceDiv, Nat.zero_mod, Nat.zero_ne_one, if_true, if_false, reduceIte]
          simp only [hS1]
          simp (config := { maxSteps := 1000000 }) (disch := ((try simp only [awL]); omega)) only [MS, Nat.beq_eq, cut_4, Fr, c0, l0, ↓awU, awV, awF, ofVal, ofVal0, isShift, aggK, forall_const, ↓reduceIte, ↓reduceDIte, ↓purePost, combine, idsA, cellsA, numsOf, srcA, calleeA, refsA, isScalar, scalarD, scalar0, AV.one, putL, unfA, implies_true, IntKind.signed, Nat.reduceAdd, Nat.reduceSub, Nat.reduceMul, Nat.reducePow, Nat.reduceDiv, Nat.reduceMod, Int.reduceAdd, Int.reduceSub, Int.reduceMul, Int.reducePow, Int.reduceNeg, Int.reduceToNat, Int.reduceLT, Int.reduceLE, Nat.reduceEqDiff, sidsB, Nat.reduceBEq, keyKD, isIntK]
          refine CallC.pure (rmul23_spec x0 k f0 hkv p0) ?_
          simp (config := { maxSteps := 1000000 }) (disch := ((try simp only [awL]); omega)) only [MS, Nat.beq_eq, cut_4, Fr, c0, l0, ↓awU, awV, awF, ofVal, ofVal0, isShift, aggK, forall_const, ↓reduceIte, ↓reduceDIte, ↓purePost, combine, idsA, cellsA, numsOf, srcA, calleeA, refsA, isScalar, scalarD, scalar0, AV.one, putL, unfA, implies_true, IntKind.signed, Nat.reduceAdd, Nat.reduceSub, Nat.reduceMul, Nat.reducePow, Nat.reduceDiv, Nat.reduceMod, Int.reduceAdd, Int.reduceSub, Int.reduceMul, Int.reducePow, Int.reduceNeg, Int.reduceToNat, Int.reduceLT, Int.reduceLE, Nat.reduceEqDiff, sidsB, Nat.reduceBEq, keyKD, isIntK]
          refine ⟨by rfl, ?_⟩
          exact ⟨1, by decide, by simp only; omega, [some 0, some 1, some 2, some 10, some 4, some 8], rfl, by simp [hS1], by simp [setsA, keepA, SWeak, AWeak], by simp [hS1, HWeak, BWeak, SWeak, AWeak, Fr]⟩
        · simp only [keepA_z8, keepA_z, keepA_cons, keepA_nil, setsA_nil, setsA_cons, List.set_cons_zero, List.set_cons_succ, set_8, Nat.reduceMod, Nat.reduceDiv, Nat.zero_mod, Nat.zero_ne_one, if_true, if_false, reduceIte]
          simp only [hS1]
          simp (config := { maxSteps := 1000000 }) (disch := ((try simp only [awL]); omega)) only [MS, Nat.beq_eq, cut_4, Fr, c0, l0, lm, lm2, hq, hsc, ↓awU, awV, awF, ofVal, ofVal0, isShift, aggK, forall_const, ↓reduceIte, ↓reduceDIte, ↓purePost, combine, idsA, cellsA, numsOf, srcA, calleeA, refsA, isScalar, scalarD, scalar0, AV.one, putL, unfA, implies_true, IntKind.signed, Nat.reduceAdd, Nat.reduceSub, Nat.reduceMul, Nat.reducePow, Nat.reduceDiv, Nat.reduceMod, Int.reduceAdd, Int.reduceSub, Int.reduceMul, Int.reducePow, Int.reduceNeg, Int.reduceToNat, Int.reduceLT, Int.reduceLE, Nat.reduceEqDiff, sidsB, Nat.reduceBEq, keyKD, isIntK]
          exact ⟨i + 1, h1, by simp only; omega, ⟨[some 0, some 1, some 2, some 3, some 7], rfl, by simp, by simp [setsA, keepA, SWeak, AWeak], by simp [HWeak, BWeak, SWeak, AWeak]⟩⟩
    · obtain rfl : i = w.length := by omega
      have hpos : 0 < w.length := by omega
      have hs1 : ∀ a ∈ w, a.length = 1 ∧ ∀ x ∈ a, Sm 1000 x := fun a ha => ⟨hrow a ha, fun x hx => by obtain ⟨j, rfl⟩ := (hent a ha).2 x hx; exact ent_Sm.1.mono (by decide)⟩
      have hn1 : ∀ a ∈ w, a.length = 1 ∧ ∀ x ∈ a, 0 ≤ x := fun a ha => ⟨hrow a ha, fun x hx => by obtain ⟨j, rfl⟩ := (hent a ha).2 x hx; exact ent_Sm.2⟩
      have hs2 : ∀ a ∈ scaleW k w, a.length = 1 ∧ ∀ x ∈ a, Sm 1000 x := fun a ha => by
        obtain ⟨b, hb, rfl⟩ := scaleW_mem ha
        refine ⟨by rw [scaleR_length, hrow b hb], fun x hx => ?_⟩
        simp only [scaleR, List.mem_map] at hx
        obtain ⟨y, hy, rfl⟩ := hx
        obtain ⟨j, rfl⟩ := (hent b hb).2 y hy
        exact hks j
      have hn2 : ∀ a ∈ scaleW k w, a.length = 1 ∧ ∀ x ∈ a, 0 ≤ x := fun a ha => by
        obtain ⟨b, hb, rfl⟩ := scaleW_mem ha
        refine ⟨by rw [scaleR_length, hrow b hb], fun x hx => ?_⟩
        simp only [scaleR, List.mem_map] at hx
        obtain ⟨y, hy, rfl⟩ := hx
        exact Rat.mul_nonneg ((hn1 b hb).2 y hy) (Rat.le_of_lt hkp)
      have hs3 : ∀ a ∈ trW 1 w, a.length = w.length ∧ ∀ x ∈ a, Sm 1000 x := fun a ha => by
        obtain ⟨q1, q2⟩ := trW_mem hrow ha
        exact ⟨q1, fun x hx => by obtain ⟨b, hb, hxb⟩ := q2 x hx; exact (hs1 b hb).2 x hxb⟩
      have hn3 : ∀ a ∈ trW 1 w, a.length = w.length ∧ ∀ x ∈ a, 0 ≤ x := fun a ha => by
        obtain ⟨q1, q2⟩ := trW_mem hrow ha
        exact ⟨q1, fun x hx => by obtain ⟨b, hb, hxb⟩ := q2 x hx; exact (hn1 b hb).2 x hxb⟩
      have l2 : (scaleW k w).length = w.length := scaleW_length
      have l3 : (trW 1 w).length = 1 := trW_length
      have hw2 := rect_ok (w := scaleW k w) (by omega) (by decide) hs2 (Nat.le_refl _)
      have hw3 := rect_ok (w := trW 1 w) (by omega) (by omega) hs3 (Nat.le_refl _)
      have hv1 := rect_valid (w := w) hpos (by omega) (by decide) hn1
      have hv2 := rect_valid (w := scaleW k w) (by omega) (by omega) (by decide) hn2
      have hv3 := rect_valid (w := trW 1 w) (by omega) (by omega) (by omega) hn3
      have fb := (bst_Sm w (fun r hr => hw.sm r hr) 0).FV (by omega)
      have fbk := (bst_Sm (scaleW k w) (fun r hr => hw2.sm r hr) 0).FV (by omega)
      have ebr : bestR w = .tup [.sl (bestL w 0).length false (ints .i64 (bestL w 0)), Frac (bst w 0), .int .i64 0] := by rw [bestR, if_neg (by simp [hv1])]
      have ebr2 : bestR (scaleW k w) = .tup [.sl (bestL w 0).length false (ints .i64 (bestL w 0)), Frac (bst w 0 * k), .int .i64 0] := by rw [bestR, if_neg (by simp [hv2]), bestL_scale hkp, bst_scale hkp]
      have ebr3 : bestR (trW 1 w) = .tup [.sl (bestL (trW 1 w) 0).length false (ints .i64 (bestL (trW 1 w) 0)), Frac (bst w 0), .int .i64 0] := by rw [bestR, if_neg (by simp [hv3]), bst_tr fun i hi => hrow _ (mem_getD hi)]
      rw [bst_scale hkp] at fbk
      replace fbk : FV (bst w 0 * k) := fbk
      have hbl : (bestL w 0).length = w.length := ((feas_plain w 0 _).1 (bestL_ok w 0).1).1
      have et : trW 1 w = [colK w 0 w.length] := by simp [trW, colK, List.range_succ]
      have k0 : (Fr (colK w 0 w.length)).length = 4 * w.length := by rw [Fr_length, colK_length (Nat.le_refl _)]
      have q0 : cut (Fr (colK w 0 w.length)) 0 (w.length * 4) = Fr (colK w 0 w.length) := cut_Fr (by rw [colK_length (Nat.le_refl _)]; omega)
      simp (config := { maxSteps := 1000000 }) (disch := ((try simp only [awL]); omega)) only [MS, Nat.beq_eq, ↓awU, awV, awF, ofVal, ofVal0, isShift, aggK, forall_const, ↓reduceIte, ↓reduceDIte, ↓purePost, combine, idsA, cellsA, numsOf, srcA, calleeA, refsA, isScalar, scalarD, scalar0, AV.one, putL, unfA, implies_true, IntKind.signed, Nat.reduceAdd, Nat.reduceSub, Nat.reduceMul, Nat.reducePow, Nat.reduceDiv, Nat.reduceMod, Int.reduceAdd, Int.reduceSub, Int.reduceMul, Int.reducePow, Int.reduceNeg, Int.reduceToNat, Int.reduceLT, Int.reduceLE, Nat.reduceEqDiff, sidsB, Nat.reduceBEq, keyKD, isIntK]
      refine CallC.pure (best_spec hG w hw) ?_
      rw [ebr]
      generalize bestL w 0 = bl0 at *
      generalize bst w 0 = b0 at *
      simp (config := { maxSteps := 1000000 }) (disch := ((try simp only [awL]); omega)) only [MS, Nat.beq_eq, ↓awU, awV, awF, ofVal, ofVal0, isShift, aggK, forall_const, ↓reduceIte, ↓reduceDIte, ↓purePost, combine, idsA, cellsA, numsOf, srcA, calleeA, refsA, isScalar, scalarD, scalar0, AV.one, putL, unfA, implies_true, IntKind.signed, Nat.reduceAdd, Nat.reduceSub, Nat.reduceMul, Nat.reducePow, Nat.reduceDiv, Nat.reduceMod, Int.reduceAdd, Int.reduceSub, Int.reduceMul, Int.reducePow, Int.reduceNeg, Int.reduceToNat, Int.reduceLT, Int.reduceLE, Nat.reduceEqDiff, sidsB, Nat.reduceBEq, keyKD, isIntK]
      refine CallC.frozenE (best_spec hG (scaleW k w) hw2) (by rw [cut_Mx l2.symm, Mx, l2]) ?_
      rw [ebr2]
      simp (config := { maxSteps := 1000000 }) (disch := ((try simp only [awL]); omega)) only [MS, Nat.beq_eq, k0, ↓awU, awV, awF, ofVal, ofVal0, isShift, aggK, forall_const, ↓reduceIte, ↓reduceDIte, ↓purePost, combine, idsA, cellsA, numsOf, srcA, calleeA, refsA, isScalar, scalarD, scalar0, AV.one, putL, unfA, implies_true, IntKind.signed, Nat.reduceAdd, Nat.reduceSub, Nat.reduceMul, Nat.reducePow, Nat.reduceDiv, Nat.reduceMod, Int.reduceAdd, Int.reduceSub, Int.reduceMul, Int.reducePow, Int.reduceNeg, Int.reduceToNat, Int.reduceLT, Int.reduceLE, Nat.reduceEqDiff, sidsB, Nat.reduceBEq, keyKD, isIntK]
      simp only [q0]
      refine ⟨by decide, ?_⟩
      refine CallC.frozenE (best_spec hG (trW 1 w) hw3) (by rw [et]; simp only [Mx, MxL, List.map_cons, List.map_nil, FrS, colK_length (Nat.le_refl _)]; rfl) ?_
      rw [ebr3]
      simp (config := { maxSteps := 1000000 }) (disch := ((try simp only [awL]); omega)) only [MS, Nat.beq_eq, ↓awU, awV, awF, ofVal, ofVal0, isShift, aggK, forall_const, ↓reduceIte, ↓reduceDIte, ↓purePost, combine, idsA, cellsA, numsOf, srcA, calleeA, refsA, isScalar, scalarD, scalar0, AV.one, putL, unfA, implies_true, IntKind.signed, Nat.reduceAdd, Nat.reduceSub, Nat.reduceMul, Nat.reducePow, Nat.reduceDiv, Nat.reduceMod, Int.reduceAdd, Int.reduceSub, Int.reduceMul, Int.reducePow, Int.reduceNeg, Int.reduceToNat, Int.reduceLT, Int.reduceLE, Nat.reduceEqDiff, sidsB, Nat.reduceBEq, keyKD, isIntK]
      refine CallC.pure (sameInts_spec bl0 bl0 (by omega) (by omega)) ?_
      rw [decide_eq_true rfl]
      simp (config := { maxSteps := 1000000 }) (disch := ((try simp only [awL]); omega)) only [MS, Nat.beq_eq, ↓awU, awV, awF, ofVal, ofVal0, isShift, aggK, forall_const, ↓reduceIte, ↓reduceDIte, ↓purePost, combine, idsA, cellsA, numsOf, srcA, calleeA, refsA, isScalar, scalarD, scalar0, AV.one, putL, unfA, implies_true, IntKind.signed, Nat.reduceAdd, Nat.reduceSub, Nat.reduceMul, Nat.reducePow, Nat.reduceDiv, Nat.reduceMod, Int.reduceAdd, Int.reduceSub, Int.reduceMul, Int.reducePow, Int.reduceNeg, Int.reduceToNat, Int.reduceLT, Int.reduceLE, Nat.reduceEqDiff, sidsB, Nat.reduceBEq, keyKD, isIntK]
      refine CallC.pure (rmul23_spec b0 k fb hkv fbk) ?_
      simp (config := { maxSteps := 1000000 }) (disch := ((try simp only [awL]); omega)) only [MS, Nat.beq_eq, ↓awU, awV, awF, ofVal, ofVal0, isShift, aggK, forall_const, ↓reduceIte, ↓reduceDIte, ↓purePost, combine, idsA, cellsA, numsOf, srcA, calleeA, refsA, isScalar, scalarD, scalar0, AV.one, putL, unfA, implies_true, IntKind.signed, Nat.reduceAdd, Nat.reduceSub, Nat.reduceMul, Nat.reducePow, Nat.reduceDiv, Nat.reduceMod, Int.reduceAdd, Int.reduceSub, Int.reduceMul, Int.reducePow, Int.reduceNeg, Int.reduceToNat, Int.reduceLT, Int.reduceLE, Nat.reduceEqDiff, sidsB, Nat.reduceBEq, keyKD, isIntK]
      refine CallC.pure (rcmpF_spec (b0 * k) (b0 * k) fbk fbk) ?_
      rw [cmpQ_zero.2 rfl]
      simp (config := { maxSteps := 1000000 }) (disch := ((try simp only [awL]); omega)) only [MS, Nat.beq_eq, ↓awU, awV, awF, ofVal, ofVal0, isShift, aggK, forall_const, ↓reduceIte, ↓reduceDIte, ↓purePost, combine, idsA, cellsA, numsOf, srcA, calleeA, refsA, isScalar, scalarD, scalar0, AV.one, putL, unfA, implies_true, IntKind.signed, Nat.reduceAdd, Nat.reduceSub, Nat.reduceMul, Nat.reducePow, Nat.reduceDiv, Nat.reduceMod, Int.reduceAdd, Int.reduceSub, Int.reduceMul, Int.reducePow, Int.reduceNeg, Int.reduceToNat, Int.reduceLT, Int.reduceLE, Nat.reduceEqDiff, sidsB, Nat.reduceBEq, keyKD, isIntK]
      refine CallC.pure (sameF_spec b0 b0 fb fb) ?_
      rw [decide_eq_true rfl]
      simp (config := { maxSteps := 1000000 }) (disch := ((try simp only [awL]); omega)) only [MS, Nat.beq_eq, ↓awU, awV, awF, ofVal, ofVal0, isShift, aggK, forall_const, ↓reduceIte, ↓reduceDIte, ↓purePost, combine, idsA, cellsA, numsOf, srcA, calleeA, refsA, isScalar, scalarD, scalar0, AV.one, putL, unfA, implies_true, IntKind.signed, Nat.reduceAdd, Nat.reduceSub, Nat.reduceMul, Nat.reducePow, Nat.reduceDiv, Nat.reduceMod, Int.reduceAdd, Int.reduceSub, Int.reduceMul, Int.reducePow, Int.reduceNeg, Int.reduceToNat, Int.reduceLT, Int.reduceLE, Nat.reduceEqDiff, sidsB, Nat.reduceBEq, keyKD, isIntK]
      refine CallC.pure (awake_spec hG) ?_
      simp (config := { maxSteps := 1000000 }) (disch := ((try simp only [awL]); omega)) only [MS, Nat.beq_eq, ↓awU, awV, awF, ofVal, ofVal0, isShift, aggK, forall_const, ↓reduceIte, ↓reduceDIte, ↓purePost, combine, idsA, cellsA, numsOf, srcA, calleeA, refsA, isScalar, scalarD, scalar0, AV.one, putL, unfA, implies_true, IntKind.signed, Nat.reduceAdd, Nat.reduceSub, Nat.reduceMul, Nat.reducePow, Nat.reduceDiv, Nat.reduceMod, Int.reduceAdd, Int.reduceSub, Int.reduceMul, Int.reducePow, Int.reduceNeg, Int.reduceToNat, Int.reduceLT, Int.reduceLE, Nat.reduceEqDiff, sidsB, Nat.reduceBEq, keyKD, isIntK]
      rfl
def hS2 (t : List Int) (K : Nat) (w : List (List Rat)) (k : Rat) (i : Nat) (x0 : Rat) (x1 : Rat) : Nat → List ABlk
  | 0 => [DiceB t K, .box [.d (.bool (decide (k.num < 0))), .d (W (toW k.num.natAbs)), .d (.bool false), .d (W (toW k.den))], .box [.lsl 3 4 0 i, .lsl 4 4 0 i], .row false (Fr (colK w 0 i)), .row false (Fr (colK w 1 i)), .row false (MxL (scaleW k (w.take i))), .row false (Fr [])]
  | 1 => [DiceB t K, .box [.d (.bool (decide (k.num < 0))), .d (W (toW k.num.natAbs)), .d (.bool false), .d (W (toW k.den))], .box [.lsl 3 4 0 (i + 1), .lsl 4 4 0 i], .row false (Fr (colK w 0 (i + 1))), .row false (Fr (colK w 1 i)), .row false (MxL (scaleW k (w.take i))), .row false (Fr [x0 * k])]
  | 2 => [DiceB t K, .box [.d (.bool (decide (k.num < 0))), .d (W (toW k.num.natAbs)), .d (.bool false), .d (W (toW k.den))], .box [.lsl 3 4 0 (i + 1), .lsl 4 4 0 (i + 1)], .row false (Fr (colK w 0 (i + 1))), .row false (Fr (colK w 1 (i + 1))), .row false (MxL (scaleW k (w.take i))), .row false (Fr [x0 * k, x1 * k])]
  | _ => []
set_option maxHeartbeats 16000000 in
set_option maxRecDepth 100000 in
theorem scales_law2 (hG : HG G) (t : List Int) (hT : OkT t) (by' : Int) (hb1 : -9223372036854775808 ≤ by') (hb2 : by' ≤ 9223372036854775807) (r : Nat) (hr : 1 + nx t 0 4 = r) (hm : 1 + nx t 1 4 = (2 : Nat)) :
    Ctr Tryd.prog G 4 [.d (.sl t.length false (ints .i64 t)), .d (.int .i64 by')] [] (.d (.bool true)) [] := by
  refine Ctr.pure (M := MS) hmix Tryd.func4 rfl go4 ?_
  simp (config := { maxSteps := 1000000 }) (disch := ((try simp only [awL]); omega)) only [MS, Nat.beq_eq, Tryd.f4, ↓awU, awV, awF, ofVal, ofVal0, isShift, aggK, forall_const, ↓reduceIte, ↓reduceDIte, ↓purePost, combine, idsA, cellsA, numsOf, srcA, calleeA, refsA, isScalar, scalarD, scalar0, AV.one, putL, unfA, implies_true, IntKind.signed, Nat.reduceAdd, Nat.reduceSub, Nat.reduceMul, Nat.reducePow, Nat.reduceDiv, Nat.reduceMod, Int.reduceAdd, Int.reduceSub, Int.reduceMul, Int.reducePow, Int.reduceNeg, Int.reduceToNat, Int.reduceLT, Int.reduceLE, Nat.reduceEqDiff, sidsB, Nat.reduceBEq, keyKD, isIntK]
  refine CallC.pure (light_spec t) ?_
  rw [decide_eq_true hT.1]
  simp (config := { maxSteps := 1000000 }) (disch := ((try simp only [awL]); omega)) only [MS, Nat.beq_eq, ↓awU, awV, awF, ofVal, ofVal0, isShift, aggK, forall_const, ↓reduceIte, ↓reduceDIte, ↓purePost, combine, idsA, cellsA, numsOf, srcA, calleeA, refsA, isScalar, scalarD, scalar0, AV.one, putL, unfA, implies_true, IntKind.signed, Nat.reduceAdd, Nat.reduceSub, Nat.reduceMul, Nat.reducePow, Nat.reduceDiv, Nat.reduceMod, Int.reduceAdd, Int.reduceSub, Int.reduceMul, Int.reducePow, Int.reduceNeg, Int.reduceToNat, Int.reduceLT, Int.reduceLE, Nat.reduceEqDiff, sidsB, Nat.reduceBEq, keyKD, isIntK]
  refine CallC.by (roll_spec t hT.1) rfl rfl (Nat.zero_le _) ?_
  simp (config := { maxSteps := 1000000 }) (disch := ((try simp only [awL]); omega)) only [MS, Nat.beq_eq, ↓awU, awV, awF, ofVal, ofVal0, isShift, aggK, forall_const, ↓reduceIte, ↓reduceDIte, ↓purePost, combine, idsA, cellsA, numsOf, srcA, calleeA, refsA, isScalar, scalarD, scalar0, AV.one, putL, unfA, implies_true, IntKind.signed, Nat.reduceAdd, Nat.reduceSub, Nat.reduceMul, Nat.reducePow, Nat.reduceDiv, Nat.reduceMod, Int.reduceAdd, Int.reduceSub, Int.reduceMul, Int.reducePow, Int.reduceNeg, Int.reduceToNat, Int.reduceLT, Int.reduceLE, Nat.reduceEqDiff, sidsB, Nat.reduceBEq, keyKD, isIntK]
  have n1 := @nx_range t 0 4 (by decide)
  have n2 := @nx_range t 1 4 (by decide)
  refine CallC.by (next_spec t 0 4 hT (by decide) (by decide)) (by rfl) (by rfl) (Nat.le_refl _) ?_
  simp (config := { maxSteps := 1000000 }) (disch := ((try simp only [awL]); omega)) only [MS, Nat.beq_eq, ↓awU, awV, awF, ofVal, ofVal0, isShift, aggK, forall_const, ↓reduceIte, ↓reduceDIte, ↓purePost, combine, idsA, cellsA, numsOf, srcA, calleeA, refsA, isScalar, scalarD, scalar0, AV.one, putL, unfA, implies_true, IntKind.signed, Nat.reduceAdd, Nat.reduceSub, Nat.reduceMul, Nat.reducePow, Nat.reduceDiv, Nat.reduceMod, Int.reduceAdd, Int.reduceSub, Int.reduceMul, Int.reducePow, Int.reduceNeg, Int.reduceToNat, Int.reduceLT, Int.reduceLE, Nat.reduceEqDiff, sidsB, Nat.reduceBEq, keyKD, isIntK]
  rw [hr]
  refine CallC.by (next_spec t 1 4 hT (by decide) (by decide)) (by rfl) (by rfl) (Nat.le_refl _) ?_
  simp (config := { maxSteps := 1000000 }) (disch := ((try simp only [awL]); omega)) only [MS, Nat.beq_eq, ↓awU, awV, awF, ofVal, ofVal0, isShift, aggK, forall_const, ↓reduceIte, ↓reduceDIte, ↓purePost, combine, idsA, cellsA, numsOf, srcA, calleeA, refsA, isScalar, scalarD, scalar0, AV.one, putL, unfA, implies_true, IntKind.signed, Nat.reduceAdd, Nat.reduceSub, Nat.reduceMul, Nat.reducePow, Nat.reduceDiv, Nat.reduceMod, Int.reduceAdd, Int.reduceSub, Int.reduceMul, Int.reducePow, Int.reduceNeg, Int.reduceToNat, Int.reduceLT, Int.reduceLE, Nat.reduceEqDiff, sidsB, Nat.reduceBEq, keyKD, isIntK]
  rw [hm]
  refine CallC.by (weights_spec t 2 r 2 hT (by omega) (by omega)) (by rfl) (by rfl) (Nat.le_refl _) ?_
  have hw := @matW_ok t 2 r 2 (by omega) (by omega)
  have hwl := @matW_length t 2 r 2
  have hent := @matW_ent t 2 r 2
  generalize matW t 2 r 2 = w at *
  generalize 2 + 2 * 2 * r = K at *
  have hrow : ∀ a ∈ w, a.length = 2 := fun a ha => (hent a ha).1
  have ml := @MxL_length w
  have hb3 : -9223372036854775808 ≤ by'.tdiv 6 ∧ by'.tdiv 6 ≤ 9223372036854775807 := by
    rw [Int.tdiv_eq_ediv]
    have e6 : Int.sign 6 = 1 := rfl
    split <;> omega
  have y1 := Int.emod_nonneg by' (show (6 : Int) ≠ 0 by decide)
  have y2 := Int.emod_lt_of_pos by' (show (0 : Int) < 6 by decide)
  have z1 := Int.emod_nonneg (by'.tdiv 6) (show (3 : Int) ≠ 0 by decide)
  have z2 := Int.emod_lt_of_pos (by'.tdiv 6) (show (0 : Int) < 3 by decide)
  simp (config := { maxSteps := 1000000 }) (disch := ((try simp only [awL]); omega)) only [MS, Nat.beq_eq, ↓awU, awV, awF, ofVal, ofVal0, isShift, aggK, forall_const, ↓reduceIte, ↓reduceDIte, ↓purePost, combine, idsA, cellsA, numsOf, srcA, calleeA, refsA, isScalar, scalarD, scalar0, AV.one, putL, unfA, implies_true, IntKind.signed, Nat.reduceAdd, Nat.reduceSub, Nat.reduceMul, Nat.reducePow, Nat.reduceDiv, Nat.reduceMod, Int.reduceAdd, Int.reduceSub, Int.reduceMul, Int.reducePow, Int.reduceNeg, Int.reduceToNat, Int.reduceLT, Int.reduceLE, Nat.reduceEqDiff, sidsB, Nat.reduceBEq, keyKD, isIntK]
  refine CallC.pure (mod_spec by' 6 hb1 hb2 (by decide) (by decide)) ?_
  simp (config := { maxSteps := 1000000 }) (disch := ((try simp only [awL]); omega)) only [MS, Nat.beq_eq, ↓awU, awV, awF, ofVal, ofVal0, isShift, aggK, forall_const, ↓reduceIte, ↓reduceDIte, ↓purePost, combine, idsA, cellsA, numsOf, srcA, calleeA, refsA, isScalar, scalarD, scalar0, AV.one, putL, unfA, implies_true, IntKind.signed, Nat.reduceAdd, Nat.reduceSub, Nat.reduceMul, Nat.reducePow, Nat.reduceDiv, Nat.reduceMod, Int.reduceAdd, Int.reduceSub, Int.reduceMul, Int.reducePow, Int.reduceNeg, Int.reduceToNat, Int.reduceLT, Int.reduceLE, Nat.reduceEqDiff, sidsB, Nat.reduceBEq, keyKD, isIntK]
  refine CallC.pure (mod_spec (by'.tdiv 6) 3 hb3.1 hb3.2 (by decide) (by decide)) ?_
  simp (config := { maxSteps := 1000000 }) (disch := ((try simp only [awL]); omega)) only [MS, Nat.beq_eq, ↓awU, awV, awF, ofVal, ofVal0, isShift, aggK, forall_const, ↓reduceIte, ↓reduceDIte, ↓purePost, combine, idsA, cellsA, numsOf, srcA, calleeA, refsA, isScalar, scalarD, scalar0, AV.one, putL, unfA, implies_true, IntKind.signed, Nat.reduceAdd, Nat.reduceSub, Nat.reduceMul, Nat.reducePow, Nat.reduceDiv, Nat.reduceMod, Int.reduceAdd, Int.reduceSub, Int.reduceMul, Int.reducePow, Int.reduceNeg, Int.reduceToNat, Int.reduceLT, Int.reduceLE, Nat.reduceEqDiff, sidsB, Nat.reduceBEq, keyKD, isIntK]
  refine CallC.pure (part_spec (1 + by' % 6) (1 + by'.tdiv 6 % 3) (by omega) (by omega) (by omega) (by omega)) ?_
  have hkp : 0 < Rat.divInt (1 + by' % 6) (1 + by'.tdiv 6 % 3) := divInt_pos (by omega) (by omega)
  have hkv : FV (Rat.divInt (1 + by' % 6) (1 + by'.tdiv 6 % 3)) := part_FV (by omega) (by omega) (by omega) (by omega)
  have hks : ∀ j, Sm 1000 (ent t j * Rat.divInt (1 + by' % 6) (1 + by'.tdiv 6 % 3)) := fun j => ent_scale (by omega) (by omega) (by omega) (by omega)
  generalize Rat.divInt (1 + by' % 6) (1 + by'.tdiv 6 % 3) = k at *
  simp (config := { maxSteps := 1000000 }) (disch := ((try simp only [awL]); omega)) only [MS, Nat.beq_eq, ml, ↓awU, awV, awF, ofVal, ofVal0, isShift, aggK, forall_const, ↓reduceIte, ↓reduceDIte, ↓purePost, combine, idsA, cellsA, numsOf, srcA, calleeA, refsA, isScalar, scalarD, scalar0, AV.one, putL, unfA, implies_true, IntKind.signed, Nat.reduceAdd, Nat.reduceSub, Nat.reduceMul, Nat.reducePow, Nat.reduceDiv, Nat.reduceMod, Int.reduceAdd, Int.reduceSub, Int.reduceMul, Int.reducePow, Int.reduceNeg, Int.reduceToNat, Int.reduceLT, Int.reduceLE, Nat.reduceEqDiff, sidsB, Nat.reduceBEq, keyKD, isIntK]
  have hmem : ∀ i, i < w.length → ∀ q, q < 2 → ∃ j, (w.getD i []).getD q 0 = ent t j := fun i hi q hq => by
    have h1 := hent _ (mem_getD (d := []) hi)
    exact h1.2 _ (mem_getD (by omega))
  refine LoopC.fr 26710105434996492030586573936618048064256 (α := Nat) (fun i => w.length - i) (fun i => [(10, .lsl 5 1 0 i), (54, .d (.int .i64 i))])
    (fun i => [DiceB t K, .box [.d (.bool (decide (k.num < 0))), .d (W (toW k.num.natAbs)), .d (.bool false), .d (W (toW k.den))], .box [.lsl 3 4 0 i, .lsl 4 4 0 i], .row false (Fr (colK w 0 i)), .row false (Fr (colK w 1 i)), .row false (MxL (scaleW k (w.take i)))]) (fun i => i ≤ w.length) 0 (Nat.zero_le _) ?_ ?_
  · exact ⟨[some 0, some 1, some 2, none, none, none], rfl, by simp, by simp [setsA, keepA, SWeak, AWeak], by simp [HWeak, BWeak, SWeak, AWeak, colK, Fr, scaleW, MxL]⟩
  · intro i hi
    simp only [keepA_z8, keepA_z, keepA_cons, keepA_nil, setsA_nil, setsA_cons, List.set_cons_zero, List.set_cons_succ, set_8, Nat.reduceMod, Nat.reduceDiv, Nat.zero_mod, Nat.zero_ne_one, if_true, if_false, reduceIte]
    rcases Nat.lt_or_ge i w.length with h1 | h1
    · obtain ⟨x0, x1, hx⟩ : ∃ x0 x1, w.getD i [] = [x0, x1] := list2 (hrow _ (mem_getD h1))
      have g0 : (w.getD i []).getD 0 0 = x0 := by rw [hx]; rfl
      obtain ⟨j0, e0⟩ := hmem i h1 0 (by decide)
      rw [g0] at e0
      have c0 : Fr (colK w 0 i) ++ [.bool (decide (x0.num < 0)), W (toW x0.num.natAbs), .bool false, W (toW x0.den)] = Fr (colK w 0 (i + 1)) := by
        rw [← colK_push h1, g0]; exact Fr_push
      have l0 := @Fr_length (colK w 0 i)
      rw [colK_length hi] at l0
      have f0 : FV x0 := by rw [e0]; exact ent_Sm.1.FV (by decide)
      have p0 : FV (x0 * k) := by rw [e0]; exact (hks _).FV (by decide)
      have g1 : (w.getD i []).getD 1 0 = x1 := by rw [hx]; rfl
      obtain ⟨j1, e1⟩ := hmem i h1 1 (by decide)
      rw [g1] at e1
      have c1 : Fr (colK w 1 i) ++ [.bool (decide (x1.num < 0)), W (toW x1.num.natAbs), .bool false, W (toW x1.den)] = Fr (colK w 1 (i + 1)) := by
        rw [← colK_push h1, g1]; exact Fr_push
      have l1 := @Fr_length (colK w 1 i)
      rw [colK_length hi] at l1
      have f1 : FV x1 := by rw [e1]; exact ent_Sm.1.FV (by decide)
      have p1 : FV (x1 * k) := by rw [e1]; exact (hks _).FV (by decide)
      have lm := @MxL_length (scaleW k (w.take i))
      have lm2 : (scaleW k (w.take i)).length = i := by rw [scaleW_length, List.length_take]; omega
      have hsc : MxL (scaleW k (w.take i)) ++ [.sl 2 false (Fr [x0 * k, x1 * k])] = MxL (scaleW k (w.take (i + 1))) := by
        rw [← scale_push h1, hx]; exact MxL_push (r := [x0 * k, x1 * k])
      have hq : cut (Fr [x0 * k, x1 * k]) 0 8 = Fr [x0 * k, x1 * k] := rfl
      simp only [Fr] at hsc hq
      simp (config := { maxSteps := 1000000 }) (disch := ((try simp only [awL]); omega)) only [MS, Nat.beq_eq, ml, MxL_get, hx, Fr, ↓awU, awV, awF, ofVal, ofVal0, isShift, aggK, forall_const, ↓reduceIte, ↓reduceDIte, ↓purePost, combine, idsA, cellsA, numsOf, srcA, calleeA, refsA, isScalar, scalarD, scalar0, AV.one, putL, unfA, implies_true, IntKind.signed, Nat.reduceAdd, Nat.reduceSub, Nat.reduceMul, Nat.reducePow, Nat.reduceDiv, Nat.reduceMod, Int.reduceAdd, Int.reduceSub, Int.reduceMul, Int.reducePow, Int.reduceNeg, Int.reduceToNat, Int.reduceLT, Int.reduceLE, Nat.reduceEqDiff, sidsB, Nat.reduceBEq, keyKD, isIntK]
      refine LoopC.fr 26710105434996492030587456642145012682496 (α := Nat) (fun j => 2 - j) (fun j => [(14, .lsl 6 4 0 j), (60, .d (.int .i64 j))])
        (hS2 t K w k i x0 x1) (fun j => j ≤ 2) 0 (Nat.zero_le _) ?_ ?_
      · exact ⟨[some 0, some 1, some 2, some 3, some 4, some 5, none], rfl, by simp [hS2], by simp [setsA, keepA, SWeak, AWeak], by simp [hS2, HWeak, BWeak, SWeak, AWeak, Fr]⟩
      · intro j hj
        obtain rfl | rfl | rfl : j = 0 ∨ j = 1 ∨ j = 2 := by omega
        · simp only [keepA_z8, keepA_z, keepA_cons, keepA_nil, setsA_nil, setsA_cons, List.set_cons_zero, List.set_cons_succ, set_8, Nat.reduceMod, Nat.reduceDiv, Nat.zero_mod, Nat.zero_ne_one, if_true, if_false, reduceIte]
          simp only [hS2]
          simp (config := { maxSteps := 1000000 }) (disch := ((try simp only [awL]); omega)) only [MS, Nat.beq_eq, cut_4, Fr, c0, l0, c1, l1, ↓awU, awV, awF, ofVal, ofVal0, isShift, aggK, forall_const, ↓reduceIte, ↓reduceDIte, ↓purePost, combine, idsA, cellsA, numsOf, srcA, calleeA, refsA, isScalar, scalarD, scalar0, AV.one, putL, unfA, implies_true, IntKind.signed, Nat.reduceAdd, Nat.reduceSub, Nat.reduceMul, Nat.reducePow, Nat.reduceDiv, Nat.reduceMod, Int.reduceAdd, Int.reduceSub, Int.reduceMul, Int.reducePow, Int.reduceNeg, Int.reduceToNat, Int.reduceLT, Int.reduceLE, Nat.reduceEqDiff, sidsB, Nat.reduceBEq, keyKD, isIntK]
          refine CallC.pure (rmul23_spec x0 k f0 hkv p0) ?_
          simp (config := { maxSteps := 1000000 }) (disch := ((try simp only [awL]); omega)) only [MS, Nat.beq_eq, cut_4, Fr, c0, l0, c1, l1, ↓awU, awV, awF, ofVal, ofVal0, isShift, aggK, forall_const, ↓reduceIte, ↓reduceDIte, ↓purePost, combine, idsA, cellsA, numsOf, srcA, calleeA, refsA, isScalar, scalarD, scalar0, AV.one, putL, unfA, implies_true, IntKind.signed, Nat.reduceAdd, Nat.reduceSub, Nat.reduceMul, Nat.reducePow, Nat.reduceDiv, Nat.reduceMod, Int.reduceAdd, Int.reduceSub, Int.reduceMul, Int.reducePow, Int.reduceNeg, Int.reduceToNat, Int.reduceLT, Int.reduceLE, Nat.reduceEqDiff, sidsB, Nat.reduceBEq, keyKD, isIntK]
          refine ⟨by rfl, ?_⟩
          exact ⟨1, by decide, by simp only; omega, [some 0, some 1, some 2, some 11, some 4, some 5, some 9], rfl, by simp [hS2], by simp [setsA, keepA, SWeak, AWeak], by simp [hS2, HWeak, BWeak, SWeak, AWeak, Fr]⟩
        · simp only [keepA_z8, keepA_z, keepA_cons, keepA_nil, setsA_nil, setsA_cons, List.set_cons_zero, List.set_cons_succ, set_8, Nat.reduceMod, Nat.reduceDiv, Nat.zero_mod, Nat.zero_ne_one, if_true, if_false, reduceIte]
          simp only [hS2]
          simp (config := { maxSteps := 1000000 }) (disch := ((try simp only [awL]); omega)) only [MS, Nat.beq_eq, cut_4, Fr, c0, l0, c1, l1, ↓awU, awV, awF, ofVal, ofVal0, isShift, aggK, forall_const, ↓reduceIte, ↓reduceDIte, ↓purePost, combine, idsA, cellsA, numsOf, srcA, calleeA, refsA, isScalar, scalarD, scalar0, AV.one, putL, unfA, implies_true, IntKind.signed, Nat.reduceAdd, Nat.reduceSub, Nat.reduceMul, Nat.reducePow, Nat.reduceDiv, Nat.reduceMod, Int.reduceAdd, Int.reduceSub, Int.reduceMul, Int.reducePow, Int.reduceNeg, Int.reduceToNat, Int.reduceLT, Int.reduceLE, Nat.reduceEqDiff, sidsB, Nat.reduceBEq, keyKD, isIntK]
          refine CallC.pure (rmul23_spec x1 k f1 hkv p1) ?_
          simp (config := { maxSteps := 1000000 }) (disch := ((try simp only [awL]); omega)) only [MS, Nat.beq_eq, cut_4, Fr, c0, l0, c1, l1, ↓awU, awV, awF, ofVal, ofVal0, isShift, aggK, forall_const, ↓reduceIte, ↓reduceDIte, ↓purePost, combine, idsA, cellsA, numsOf, srcA, calleeA, refsA, isScalar, scalarD, scalar0, AV.one, putL, unfA, implies_true, IntKind.signed, Nat.reduceAdd, Nat.reduceSub, Nat.reduceMul, Nat.reducePow, Nat.reduceDiv, Nat.reduceMod, Int.reduceAdd, Int.reduceSub, Int.reduceMul, Int.reducePow, Int.reduceNeg, Int.reduceToNat, Int.reduceLT, Int.reduceLE, Nat.reduceEqDiff, sidsB, Nat.reduceBEq, keyKD, isIntK]
          refine ⟨by rfl, ?_⟩
          exact ⟨2, by decide, by simp only; omega, [some 0, some 1, some 2, some 3, some 11, some 5, some 9], rfl, by simp [hS2], by simp [setsA, keepA, SWeak, AWeak], by simp [hS2, HWeak, BWeak, SWeak, AWeak, Fr]⟩
        · simp only [keepA_z8, keepA_z, keepA_cons, keepA_nil, setsA_nil, setsA_cons, List.set_cons_zero, List.set_cons_succ, set_8, Nat.reduceMod, Nat.reduceDiv, Nat.zero_mod, Nat.zero_ne_one, if_true, if_false, reduceIte]
          simp only [hS2]
          simp (config := { maxSteps := 1000000 }) (disch := ((try simp only [awL]); omega)) only [MS, Nat.beq_eq, cut_4, Fr, c0, l0, c1, l1, lm, lm2, hq, hsc, ↓awU, awV, awF, ofVal, ofVal0, isShift, aggK, forall_const, ↓reduceIte, ↓reduceDIte, ↓purePost, combine, idsA, cellsA, numsOf, srcA, calleeA, refsA, isScalar, scalarD, scalar0, AV.one, putL, unfA, implies_true, IntKind.signed, Nat.reduceAdd, Nat.reduceSub, Nat.reduceMul, Nat.reducePow, Nat.reduceDiv, Nat.reduceMod, Int.reduceAdd, Int.reduceSub, Int.reduceMul, Int.reducePow, Int.reduceNeg, Int.reduceToNat, Int.reduceLT, Int.reduceLE, Nat.reduceEqDiff, sidsB, Nat.reduceBEq, keyKD, isIntK]
          exact ⟨i + 1, h1, by simp only; omega, ⟨[some 0, some 1, some 2, some 3, some 4, some 8], rfl, by simp, by simp [setsA, keepA, SWeak, AWeak], by simp [HWeak, BWeak, SWeak, AWeak]⟩⟩
    · obtain rfl : i = w.length := by omega
      have hpos : 0 < w.length := by omega
      have hs1 : ∀ a ∈ w, a.length = 2 ∧ ∀ x ∈ a, Sm 1000 x := fun a ha => ⟨hrow a ha, fun x hx => by obtain ⟨j, rfl⟩ := (hent a ha).2 x hx; exact ent_Sm.1.mono (by decide)⟩
      have hn1 : ∀ a ∈ w, a.length = 2 ∧ ∀ x ∈ a, 0 ≤ x := fun a ha => ⟨hrow a ha, fun x hx => by obtain ⟨j, rfl⟩ := (hent a ha).2 x hx; exact ent_Sm.2⟩
      have hs2 : ∀ a ∈ scaleW k w, a.length = 2 ∧ ∀ x ∈ a, Sm 1000 x := fun a ha => by
        obtain ⟨b, hb, rfl⟩ := scaleW_mem ha
        refine ⟨by rw [scaleR_length, hrow b hb], fun x hx => ?_⟩
        simp only [scaleR, List.mem_map] at hx
        obtain ⟨y, hy, rfl⟩ := hx
        obtain ⟨j, rfl⟩ := (hent b hb).2 y hy
        exact hks j
      have hn2 : ∀ a ∈ scaleW k w, a.length = 2 ∧ ∀ x ∈ a, 0 ≤ x := fun a ha => by
        obtain ⟨b, hb, rfl⟩ := scaleW_mem ha
        refine ⟨by rw [scaleR_length, hrow b hb], fun x hx => ?_⟩
        simp only [scaleR, List.mem_map] at hx
        obtain ⟨y, hy, rfl⟩ := hx
        exact Rat.mul_nonneg ((hn1 b hb).2 y hy) (Rat.le_of_lt hkp)
      have hs3 : ∀ a ∈ trW 2 w, a.length = w.length ∧ ∀ x ∈ a, Sm 1000 x := fun a ha => by
        obtain ⟨q1, q2⟩ := trW_mem hrow ha
        exact ⟨q1, fun x hx => by obtain ⟨b, hb, hxb⟩ := q2 x hx; exact (hs1 b hb).2 x hxb⟩
      have hn3 : ∀ a ∈ trW 2 w, a.length = w.length ∧ ∀ x ∈ a, 0 ≤ x := fun a ha => by
        obtain ⟨q1, q2⟩ := trW_mem hrow ha
        exact ⟨q1, fun x hx => by obtain ⟨b, hb, hxb⟩ := q2 x hx; exact (hn1 b hb).2 x hxb⟩
      have l2 : (scaleW k w).length = w.length := scaleW_length
      have l3 : (trW 2 w).length = 2 := trW_length
      have hw2 := rect_ok (w := scaleW k w) (by omega) (by decide) hs2 (Nat.le_refl _)
      have hw3 := rect_ok (w := trW 2 w) (by omega) (by omega) hs3 (Nat.le_refl _)
      have hv1 := rect_valid (w := w) hpos (by omega) (by decide) hn1
      have hv2 := rect_valid (w := scaleW k w) (by omega) (by omega) (by decide) hn2
      have hv3 := rect_valid (w := trW 2 w) (by omega) (by omega) (by omega) hn3
      have fb := (bst_Sm w (fun r hr => hw.sm r hr) 0).FV (by omega)
      have fbk := (bst_Sm (scaleW k w) (fun r hr => hw2.sm r hr) 0).FV (by omega)
      have ebr : bestR w = .tup [.sl (bestL w 0).length false (ints .i64 (bestL w 0)), Frac (bst w 0), .int .i64 0] := by rw [bestR, if_neg (by simp [hv1])]
      have ebr2 : bestR (scaleW k w) = .tup [.sl (bestL w 0).length false (ints .i64 (bestL w 0)), Frac (bst w 0 * k), .int .i64 0] := by rw [bestR, if_neg (by simp [hv2]), bestL_scale hkp, bst_scale hkp]
      have ebr3 : bestR (trW 2 w) = .tup [.sl (bestL (trW 2 w) 0).length false (ints .i64 (bestL (trW 2 w) 0)), Frac (bst w 0), .int .i64 0] := by rw [bestR, if_neg (by simp [hv3]), bst_tr fun i hi => hrow _ (mem_getD hi)]
      rw [bst_scale hkp] at fbk
      replace fbk : FV (bst w 0 * k) := fbk
      have hbl : (bestL w 0).length = w.length := ((feas_plain w 0 _).1 (bestL_ok w 0).1).1
      have et : trW 2 w = [colK w 0 w.length, colK w 1 w.length] := by simp [trW, colK, List.range_succ]
      have k0 : (Fr (colK w 0 w.length)).length = 4 * w.length := by rw [Fr_length, colK_length (Nat.le_refl _)]
      have q0 : cut (Fr (colK w 0 w.length)) 0 (w.length * 4) = Fr (colK w 0 w.length) := cut_Fr (by rw [colK_length (Nat.le_refl _)]; omega)
      have k1 : (Fr (colK w 1 w.length)).length = 4 * w.length := by rw [Fr_length, colK_length (Nat.le_refl _)]
      have q1 : cut (Fr (colK w 1 w.length)) 0 (w.length * 4) = Fr (colK w 1 w.length) := cut_Fr (by rw [colK_length (Nat.le_refl _)]; omega)
      simp (config := { maxSteps := 1000000 }) (disch := ((try simp only [awL]); omega)) only [MS, Nat.beq_eq, ↓awU, awV, awF, ofVal, ofVal0, isShift, aggK, forall_const, ↓reduceIte, ↓reduceDIte, ↓purePost, combine, idsA, cellsA, numsOf, srcA, calleeA, refsA, isScalar, scalarD, scalar0, AV.one, putL, unfA, implies_true, IntKind.signed, Nat.reduceAdd, Nat.reduceSub, Nat.reduceMul, Nat.reducePow, Nat.reduceDiv, Nat.reduceMod, Int.reduceAdd, Int.reduceSub, Int.reduceMul, Int.reducePow, Int.reduceNeg, Int.reduceToNat, Int.reduceLT, Int.reduceLE, Nat.reduceEqDiff, sidsB, Nat.reduceBEq, keyKD, isIntK]
      refine CallC.pure (best_spec hG w hw) ?_
      rw [ebr]
      generalize bestL w 0 = bl0 at *
      generalize bst w 0 = b0 at *
      simp (config := { maxSteps := 1000000 }) (disch := ((try simp only [awL]); omega)) only [MS, Nat.beq_eq, ↓awU, awV, awF, ofVal, ofVal0, isShift, aggK, forall_const, ↓reduceIte, ↓reduceDIte, ↓purePost, combine, idsA, cellsA, numsOf, srcA, calleeA, refsA, isScalar, scalarD, scalar0, AV.one, putL, unfA, implies_true, IntKind.signed, Nat.reduceAdd, Nat.reduceSub, Nat.reduceMul, Nat.reducePow, Nat.reduceDiv, Nat.reduceMod, Int.reduceAdd, Int.reduceSub, Int.reduceMul, Int.reducePow, Int.reduceNeg, Int.reduceToNat, Int.reduceLT, Int.reduceLE, Nat.reduceEqDiff, sidsB, Nat.reduceBEq, keyKD, isIntK]
      refine CallC.frozenE (best_spec hG (scaleW k w) hw2) (by rw [cut_Mx l2.symm, Mx, l2]) ?_
      rw [ebr2]
      simp (config := { maxSteps := 1000000 }) (disch := ((try simp only [awL]); omega)) only [MS, Nat.beq_eq, k0, k1, ↓awU, awV, awF, ofVal, ofVal0, isShift, aggK, forall_const, ↓reduceIte, ↓reduceDIte, ↓purePost, combine, idsA, cellsA, numsOf, srcA, calleeA, refsA, isScalar, scalarD, scalar0, AV.one, putL, unfA, implies_true, IntKind.signed, Nat.reduceAdd, Nat.reduceSub, Nat.reduceMul, Nat.reducePow, Nat.reduceDiv, Nat.reduceMod, Int.reduceAdd, Int.reduceSub, Int.reduceMul, Int.reducePow, Int.reduceNeg, Int.reduceToNat, Int.reduceLT, Int.reduceLE, Nat.reduceEqDiff, sidsB, Nat.reduceBEq, keyKD, isIntK]
      simp only [q0, q1]
      refine ⟨by decide, ?_⟩
      refine CallC.frozenE (best_spec hG (trW 2 w) hw3) (by rw [et]; simp only [Mx, MxL, List.map_cons, List.map_nil, FrS, colK_length (Nat.le_refl _)]; rfl) ?_
      rw [ebr3]
      simp (config := { maxSteps := 1000000 }) (disch := ((try simp only [awL]); omega)) only [MS, Nat.beq_eq, ↓awU, awV, awF, ofVal, ofVal0, isShift, aggK, forall_const, ↓reduceIte, ↓reduceDIte, ↓purePost, combine, idsA, cellsA, numsOf, srcA, calleeA, refsA, isScalar, scalarD, scalar0, AV.one, putL, unfA, implies_true, IntKind.signed, Nat.reduceAdd, Nat.reduceSub, Nat.reduceMul, Nat.reducePow, Nat.reduceDiv, Nat.reduceMod, Int.reduceAdd, Int.reduceSub, Int.reduceMul, Int.reducePow, Int.reduceNeg, Int.reduceToNat, Int.reduceLT, Int.reduceLE, Nat.reduceEqDiff, sidsB, Nat.reduceBEq, keyKD, isIntK]
      refine CallC.pure (sameInts_spec bl0 bl0 (by omega) (by omega)) ?_
      rw [decide_eq_true rfl]
      simp (config := { maxSteps := 1000000 }) (disch := ((try simp only [awL]); omega)) only [MS, Nat.beq_eq, ↓awU, awV, awF, ofVal, ofVal0, isShift, aggK, forall_const, ↓reduceIte, ↓reduceDIte, ↓purePost, combine, idsA, cellsA, numsOf, srcA, calleeA, refsA, isScalar, scalarD, scalar0, AV.one, putL, unfA, implies_true, IntKind.signed, Nat.reduceAdd, Nat.reduceSub, Nat.reduceMul, Nat.reducePow, Nat.reduceDiv, Nat.reduceMod, Int.reduceAdd, Int.reduceSub, Int.reduceMul, Int.reducePow, Int.reduceNeg, Int.reduceToNat, Int.reduceLT, Int.reduceLE, Nat.reduceEqDiff, sidsB, Nat.reduceBEq, keyKD, isIntK]
      refine CallC.pure (rmul23_spec b0 k fb hkv fbk) ?_
      simp (config := { maxSteps := 1000000 }) (disch := ((try simp only [awL]); omega)) only [MS, Nat.beq_eq, ↓awU, awV, awF, ofVal, ofVal0, isShift, aggK, forall_const, ↓reduceIte, ↓reduceDIte, ↓purePost, combine, idsA, cellsA, numsOf, srcA, calleeA, refsA, isScalar, scalarD, scalar0, AV.one, putL, unfA, implies_true, IntKind.signed, Nat.reduceAdd, Nat.reduceSub, Nat.reduceMul, Nat.reducePow, Nat.reduceDiv, Nat.reduceMod, Int.reduceAdd, Int.reduceSub, Int.reduceMul, Int.reducePow, Int.reduceNeg, Int.reduceToNat, Int.reduceLT, Int.reduceLE, Nat.reduceEqDiff, sidsB, Nat.reduceBEq, keyKD, isIntK]
      refine CallC.pure (rcmpF_spec (b0 * k) (b0 * k) fbk fbk) ?_
      rw [cmpQ_zero.2 rfl]
      simp (config := { maxSteps := 1000000 }) (disch := ((try simp only [awL]); omega)) only [MS, Nat.beq_eq, ↓awU, awV, awF, ofVal, ofVal0, isShift, aggK, forall_const, ↓reduceIte, ↓reduceDIte, ↓purePost, combine, idsA, cellsA, numsOf, srcA, calleeA, refsA, isScalar, scalarD, scalar0, AV.one, putL, unfA, implies_true, IntKind.signed, Nat.reduceAdd, Nat.reduceSub, Nat.reduceMul, Nat.reducePow, Nat.reduceDiv, Nat.reduceMod, Int.reduceAdd, Int.reduceSub, Int.reduceMul, Int.reducePow, Int.reduceNeg, Int.reduceToNat, Int.reduceLT, Int.reduceLE, Nat.reduceEqDiff, sidsB, Nat.reduceBEq, keyKD, isIntK]
      refine CallC.pure (sameF_spec b0 b0 fb fb) ?_
      rw [decide_eq_true rfl]
      simp (config := { maxSteps := 1000000 }) (disch := ((try simp only [awL]); omega)) only [MS, Nat.beq_eq, ↓awU, awV, awF, ofVal, ofVal0, isShift, aggK, forall_const, ↓reduceIte, ↓reduceDIte, ↓purePost, combine, idsA, cellsA, numsOf, srcA, calleeA, refsA, isScalar, scalarD, scalar0, AV.one, putL, unfA, implies_true, IntKind.signed, Nat.reduceAdd, Nat.reduceSub, Nat.reduceMul, Nat.reducePow, Nat.reduceDiv, Nat.reduceMod, Int.reduceAdd, Int.reduceSub, Int.reduceMul, Int.reducePow, Int.reduceNeg, Int.reduceToNat, Int.reduceLT, Int.reduceLE, Nat.reduceEqDiff, sidsB, Nat.reduceBEq, keyKD, isIntK]
      refine CallC.pure (awake_spec hG) ?_
      simp (config := { maxSteps := 1000000 }) (disch := ((try simp only [awL]); omega)) only [MS, Nat.beq_eq, ↓awU, awV, awF, ofVal, ofVal0, isShift, aggK, forall_const, ↓reduceIte, ↓reduceDIte, ↓purePost, combine, idsA, cellsA, numsOf, srcA, calleeA, refsA, isScalar, scalarD, scalar0, AV.one, putL, unfA, implies_true, IntKind.signed, Nat.reduceAdd, Nat.reduceSub, Nat.reduceMul, Nat.reducePow, Nat.reduceDiv, Nat.reduceMod, Int.reduceAdd, Int.reduceSub, Int.reduceMul, Int.reducePow, Int.reduceNeg, Int.reduceToNat, Int.reduceLT, Int.reduceLE, Nat.reduceEqDiff, sidsB, Nat.reduceBEq, keyKD, isIntK]
      rfl
def hS3 (t : List Int) (K : Nat) (w : List (List Rat)) (k : Rat) (i : Nat) (x0 : Rat) (x1 : Rat) (x2 : Rat) : Nat → List ABlk
  | 0 => [DiceB t K, .box [.d (.bool (decide (k.num < 0))), .d (W (toW k.num.natAbs)), .d (.bool false), .d (W (toW k.den))], .box [.lsl 3 4 0 i, .lsl 4 4 0 i, .lsl 5 4 0 i], .row false (Fr (colK w 0 i)), .row false (Fr (colK w 1 i)), .row false (Fr (colK w 2 i)), .row false (MxL (scaleW k (w.take i))), .row false (Fr [])]
  | 1 => [DiceB t K, .box [.d (.bool (decide (k.num < 0))), .d (W (toW k.num.natAbs)), .d (.bool false), .d (W (toW k.den))], .box [.lsl 3 4 0 (i + 1), .lsl 4 4 0 i, .lsl 5 4 0 i], .row false (Fr (colK w 0 (i + 1))), .row false (Fr (colK w 1 i)), .row false (Fr (colK w 2 i)), .row false (MxL (scaleW k (w.take i))), .row false (Fr [x0 * k])]
  | 2 => [DiceB t K, .box [.d (.bool (decide (k.num < 0))), .d (W (toW k.num.natAbs)), .d (.bool false), .d (W (toW k.den))], .box [.lsl 3 4 0 (i + 1), .lsl 4 4 0 (i + 1), .lsl 5 4 0 i], .row false (Fr (colK w 0 (i + 1))), .row false (Fr (colK w 1 (i + 1))), .row false (Fr (colK w 2 i)), .row false (MxL (scaleW k (w.take i))), .row false (Fr [x0 * k, x1 * k])]
  | 3 => [DiceB t K, .box [.d (.bool (decide (k.num < 0))), .d (W (toW k.num.natAbs)), .d (.bool false), .d (W (toW k.den))], .box [.lsl 3 4 0 (i + 1), .lsl 4 4 0 (i + 1), .lsl 5 4 0 (i + 1)], .row false (Fr (colK w 0 (i + 1))), .row false (Fr (colK w 1 (i + 1))), .row false (Fr (colK w 2 (i + 1))), .row false (MxL (scaleW k (w.take i))), .row false (Fr [x0 * k, x1 * k, x2 * k])]
  | _ => []
set_option maxHeartbeats 16000000 in
set_option maxRecDepth 100000 in
theorem scales_law3 (hG : HG G) (t : List Int) (hT : OkT t) (by' : Int) (hb1 : -9223372036854775808 ≤ by') (hb2 : by' ≤ 9223372036854775807) (r : Nat) (hr : 1 + nx t 0 4 = r) (hm : 1 + nx t 1 4 = (3 : Nat)) :
    Ctr Tryd.prog G 4 [.d (.sl t.length false (ints .i64 t)), .d (.int .i64 by')] [] (.d (.bool true)) [] := by
  refine Ctr.pure (M := MS) hmix Tryd.func4 rfl go4 ?_
  simp (config := { maxSteps := 1000000 }) (disch := ((try simp only [awL]); omega)) only [MS, Nat.beq_eq, Tryd.f4, ↓awU, awV, awF, ofVal, ofVal0, isShift, aggK, forall_const, ↓reduceIte, ↓reduceDIte, ↓purePost, combine, idsA, cellsA, numsOf, srcA, calleeA, refsA, isScalar, scalarD, scalar0, AV.one, putL, unfA, implies_true, IntKind.signed, Nat.reduceAdd, Nat.reduceSub, Nat.reduceMul, Nat.reducePow, Nat.reduceDiv, Nat.reduceMod, Int.reduceAdd, Int.reduceSub, Int.reduceMul, Int.reducePow, Int.reduceNeg, Int.reduceToNat, Int.reduceLT, Int.reduceLE, Nat.reduceEqDiff, sidsB, Nat.reduceBEq, keyKD, isIntK]
  refine CallC.pure (light_spec t) ?_
  rw [decide_eq_true hT.1]
  simp (config := { maxSteps := 1000000 }) (disch := ((try simp only [awL]); omega)) only [MS, Nat.beq_eq, ↓awU, awV, awF, ofVal, ofVal0, isShift, aggK, forall_const, ↓reduceIte, ↓reduceDIte, ↓purePost, combine, idsA, cellsA, numsOf, srcA, calleeA, refsA, isScalar, scalarD, scalar0, AV.one, putL, unfA, implies_true, IntKind.signed, Nat.reduceAdd, Nat.reduceSub, Nat.reduceMul, Nat.reducePow, Nat.reduceDiv, Nat.reduceMod, Int.reduceAdd, Int.reduceSub, Int.reduceMul, Int.reducePow, Int.reduceNeg, Int.reduceToNat, Int.reduceLT, Int.reduceLE, Nat.reduceEqDiff, sidsB, Nat.reduceBEq, keyKD, isIntK]
  refine CallC.by (roll_spec t hT.1) rfl rfl (Nat.zero_le _) ?_
  simp (config := { maxSteps := 1000000 }) (disch := ((try simp only [awL]); omega)) only [MS, Nat.beq_eq, ↓awU, awV, awF, ofVal, ofVal0, isShift, aggK, forall_const, ↓reduceIte, ↓reduceDIte, ↓purePost, combine, idsA, cellsA, numsOf, srcA, calleeA, refsA, isScalar, scalarD, scalar0, AV.one, putL, unfA, implies_true, IntKind.signed, Nat.reduceAdd, Nat.reduceSub, Nat.reduceMul, Nat.reducePow, Nat.reduceDiv, Nat.reduceMod, Int.reduceAdd, Int.reduceSub, Int.reduceMul, Int.reducePow, Int.reduceNeg, Int.reduceToNat, Int.reduceLT, Int.reduceLE, Nat.reduceEqDiff, sidsB, Nat.reduceBEq, keyKD, isIntK]
  have n1 := @nx_range t 0 4 (by decide)
  have n2 := @nx_range t 1 4 (by decide)
  refine CallC.by (next_spec t 0 4 hT (by decide) (by decide)) (by rfl) (by rfl) (Nat.le_refl _) ?_
  simp (config := { maxSteps := 1000000 }) (disch := ((try simp only [awL]); omega)) only [MS, Nat.beq_eq, ↓awU, awV, awF, ofVal, ofVal0, isShift, aggK, forall_const, ↓reduceIte, ↓reduceDIte, ↓purePost, combine, idsA, cellsA, numsOf, srcA, calleeA, refsA, isScalar, scalarD, scalar0, AV.one, putL, unfA, implies_true, IntKind.signed, Nat.reduceAdd, Nat.reduceSub, Nat.reduceMul, Nat.reducePow, Nat.reduceDiv, Nat.reduceMod, Int.reduceAdd, Int.reduceSub, Int.reduceMul, Int.reducePow, Int.reduceNeg, Int.reduceToNat, Int.reduceLT, Int.reduceLE, Nat.reduceEqDiff, sidsB, Nat.reduceBEq, keyKD, isIntK]
  rw [hr]
  refine CallC.by (next_spec t 1 4 hT (by decide) (by decide)) (by rfl) (by rfl) (Nat.le_refl _) ?_
  simp (config := { maxSteps := 1000000 }) (disch := ((try simp only [awL]); omega)) only [MS, Nat.beq_eq, ↓awU, awV, awF, ofVal, ofVal0, isShift, aggK, forall_const, ↓reduceIte, ↓reduceDIte, ↓purePost, combine, idsA, cellsA, numsOf, srcA, calleeA, refsA, isScalar, scalarD, scalar0, AV.one, putL, unfA, implies_true, IntKind.signed, Nat.reduceAdd, Nat.reduceSub, Nat.reduceMul, Nat.reducePow, Nat.reduceDiv, Nat.reduceMod, Int.reduceAdd, Int.reduceSub, Int.reduceMul, Int.reducePow, Int.reduceNeg, Int.reduceToNat, Int.reduceLT, Int.reduceLE, Nat.reduceEqDiff, sidsB, Nat.reduceBEq, keyKD, isIntK]
  rw [hm]
  refine CallC.by (weights_spec t 2 r 3 hT (by omega) (by omega)) (by rfl) (by rfl) (Nat.le_refl _) ?_
  have hw := @matW_ok t 2 r 3 (by omega) (by omega)
  have hwl := @matW_length t 2 r 3
  have hent := @matW_ent t 2 r 3
  generalize matW t 2 r 3 = w at *
  generalize 2 + 2 * 3 * r = K at *
  have hrow : ∀ a ∈ w, a.length = 3 := fun a ha => (hent a ha).1
  have ml := @MxL_length w
  have hb3 : -9223372036854775808 ≤ by'.tdiv 6 ∧ by'.tdiv 6 ≤ 9223372036854775807 := by
    rw [Int.tdiv_eq_ediv]
    have e6 : Int.sign 6 = 1 := rfl
    split <;> omega
  have y1 := Int.emod_nonneg by' (show (6 : Int) ≠ 0 by decide)
  have y2 := Int.emod_lt_of_pos by' (show (0 : Int) < 6 by decide)
  have z1 := Int.emod_nonneg (by'.tdiv 6) (show (3 : Int) ≠ 0 by decide)
  have z2 := Int.emod_lt_of_pos (by'.tdiv 6) (show (0 : Int) < 3 by decide)
  simp (config := { maxSteps := 1000000 }) (disch := ((try simp only [awL]); omega)) only [MS, Nat.beq_eq, ↓awU, awV, awF, ofVal, ofVal0, isShift, aggK, forall_const, ↓reduceIte, ↓reduceDIte, ↓purePost, combine, idsA, cellsA, numsOf, srcA, calleeA, refsA, isScalar, scalarD, scalar0, AV.one, putL, unfA, implies_true, IntKind.signed, Nat.reduceAdd, Nat.reduceSub, Nat.reduceMul, Nat.reducePow, Nat.reduceDiv, Nat.reduceMod, Int.reduceAdd, Int.reduceSub, Int.reduceMul, Int.reducePow, Int.reduceNeg, Int.reduceToNat, Int.reduceLT, Int.reduceLE, Nat.reduceEqDiff, sidsB, Nat.reduceBEq, keyKD, isIntK]
  refine CallC.pure (mod_spec by' 6 hb1 hb2 (by decide) (by decide)) ?_
  simp (config := { maxSteps := 1000000 }) (disch := ((try simp only [awL]); omega)) only [MS, Nat.beq_eq, ↓awU, awV, awF, ofVal, ofVal0, isShift, aggK, forall_const, ↓reduceIte, ↓reduceDIte, ↓purePost, combine, idsA, cellsA, numsOf, srcA, calleeA, refsA, isScalar, scalarD, scalar0, AV.one, putL, unfA, implies_true, IntKind.signed, Nat.reduceAdd, Nat.reduceSub, Nat.reduceMul, Nat.reducePow, Nat.reduceDiv, Nat.reduceMod, Int.reduceAdd, Int.reduceSub, Int.reduceMul, Int.reducePow, Int.reduceNeg, Int.reduceToNat, Int.reduceLT, Int.reduceLE, Nat.reduceEqDiff, sidsB, Nat.reduceBEq, keyKD, isIntK]
  refine CallC.pure (mod_spec (by'.tdiv 6) 3 hb3.1 hb3.2 (by decide) (by decide)) ?_
  simp (config := { maxSteps := 1000000 }) (disch := ((try simp only [awL]); omega)) only [MS, Nat.beq_eq, ↓awU, awV, awF, ofVal, ofVal0, isShift, aggK, forall_const, ↓reduceIte, ↓reduceDIte, ↓purePost, combine, idsA, cellsA, numsOf, srcA, calleeA, refsA, isScalar, scalarD, scalar0, AV.one, putL, unfA, implies_true, IntKind.signed, Nat.reduceAdd, Nat.reduceSub, Nat.reduceMul, Nat.reducePow, Nat.reduceDiv, Nat.reduceMod, Int.reduceAdd, Int.reduceSub, Int.reduceMul, Int.reducePow, Int.reduceNeg, Int.reduceToNat, Int.reduceLT, Int.reduceLE, Nat.reduceEqDiff, sidsB, Nat.reduceBEq, keyKD, isIntK]
  refine CallC.pure (part_spec (1 + by' % 6) (1 + by'.tdiv 6 % 3) (by omega) (by omega) (by omega) (by omega)) ?_
  have hkp : 0 < Rat.divInt (1 + by' % 6) (1 + by'.tdiv 6 % 3) := divInt_pos (by omega) (by omega)
  have hkv : FV (Rat.divInt (1 + by' % 6) (1 + by'.tdiv 6 % 3)) := part_FV (by omega) (by omega) (by omega) (by omega)
  have hks : ∀ j, Sm 1000 (ent t j * Rat.divInt (1 + by' % 6) (1 + by'.tdiv 6 % 3)) := fun j => ent_scale (by omega) (by omega) (by omega) (by omega)
  generalize Rat.divInt (1 + by' % 6) (1 + by'.tdiv 6 % 3) = k at *
  simp (config := { maxSteps := 1000000 }) (disch := ((try simp only [awL]); omega)) only [MS, Nat.beq_eq, ml, ↓awU, awV, awF, ofVal, ofVal0, isShift, aggK, forall_const, ↓reduceIte, ↓reduceDIte, ↓purePost, combine, idsA, cellsA, numsOf, srcA, calleeA, refsA, isScalar, scalarD, scalar0, AV.one, putL, unfA, implies_true, IntKind.signed, Nat.reduceAdd, Nat.reduceSub, Nat.reduceMul, Nat.reducePow, Nat.reduceDiv, Nat.reduceMod, Int.reduceAdd, Int.reduceSub, Int.reduceMul, Int.reducePow, Int.reduceNeg, Int.reduceToNat, Int.reduceLT, Int.reduceLE, Nat.reduceEqDiff, sidsB, Nat.reduceBEq, keyKD, isIntK]
  have hmem : ∀ i, i < w.length → ∀ q, q < 3 → ∃ j, (w.getD i []).getD q 0 = ent t j := fun i hi q hq => by
    have h1 := hent _ (mem_getD (d := []) hi)
    exact h1.2 _ (mem_getD (by omega))
  refine LoopC.fr 26710105434996492030586573936618048064256 (α := Nat) (fun i => w.length - i) (fun i => [(10, .lsl 6 1 0 i), (54, .d (.int .i64 i))])
    (fun i => [DiceB t K, .box [.d (.bool (decide (k.num < 0))), .d (W (toW k.num.natAbs)), .d (.bool false), .d (W (toW k.den))], .box [.lsl 3 4 0 i, .lsl 4 4 0 i, .lsl 5 4 0 i], .row false (Fr (colK w 0 i)), .row false (Fr (colK w 1 i)), .row false (Fr (colK w 2 i)), .row false (MxL (scaleW k (w.take i)))]) (fun i => i ≤ w.length) 0 (Nat.zero_le _) ?_ ?_
  · exact ⟨[some 0, some 1, some 2, none, none, none, none], rfl, by simp, by simp [setsA, keepA, SWeak, AWeak], by simp [HWeak, BWeak, SWeak, AWeak, colK, Fr, scaleW, MxL]⟩
  · intro i hi
    simp only [keepA_z8, keepA_z, keepA_cons, keepA_nil, setsA_nil, setsA_cons, List.set_cons_zero, List.set_cons_succ, set_8, Nat.reduceMod, Nat.reduceDiv, Nat.zero_mod, Nat.zero_ne_one, if_true, if_false, reduceIte]
    rcases Nat.lt_or_ge i w.length with h1 | h1
    · obtain ⟨x0, x1, x2, hx⟩ : ∃ x0 x1 x2, w.getD i [] = [x0, x1, x2] := list3 (hrow _ (mem_getD h1))
      have g0 : (w.getD i []).getD 0 0 = x0 := by rw [hx]; rfl
      obtain ⟨j0, e0⟩ := hmem i h1 0 (by decide)
      rw [g0] at e0
      have c0 : Fr (colK w 0 i) ++ [.bool (decide (x0.num < 0)), W (toW x0.num.natAbs), .bool false, W (toW x0.den)] = Fr (colK w 0 (i + 1)) := by
        rw [← colK_push h1, g0]; exact Fr_push
      have l0 := @Fr_length (colK w 0 i)
      rw [colK_length hi] at l0
      have f0 : FV x0 := by rw [e0]; exact ent_Sm.1.FV (by decide)
      have p0 : FV (x0 * k) := by rw [e0]; exact (hks _).FV (by decide)
      have g1 : (w.getD i []).getD 1 0 = x1 := by rw [hx]; rfl
      obtain ⟨j1, e1⟩ := hmem i h1 1 (by decide)
      rw [g1] at e1
      have c1 : Fr (colK w 1 i) ++ [.bool (decide (x1.num < 0)), W (toW x1.num.natAbs), .bool false, W (toW x1.den)] = Fr (colK w 1 (i + 1)) := by
        rw [← colK_push h1, g1]; exact Fr_push
      have l1 := @Fr_length (colK w 1 i)
      rw [colK_length hi] at l1
      have f1 : FV x1 := by rw [e1]; exact ent_Sm.1.FV (by decide)
      have p1 : FV (x1 * k) := by rw [e1]; exact (hks _).FV (by decide)
      have g2 : (w.getD i []).getD 2 0 = x2 := by rw [hx]; rfl
      obtain ⟨j2, e2⟩ := hmem i h1 2 (by decide)
      rw [g2] at e2
      have c2 : Fr (colK w 2 i) ++ [.bool (decide (x2.num < 0)), W (toW x2.num.natAbs), .bool false, W (toW x2.den)] = Fr (colK w 2 (i + 1)) := by
        rw [← colK_push h1, g2]; exact Fr_push
      have l2 := @Fr_length (colK w 2 i)
      rw [colK_length hi] at l2
      have f2 : FV x2 := by rw [e2]; exact ent_Sm.1.FV (by decide)
      have p2 : FV (x2 * k) := by rw [e2]; exact (hks _).FV (by decide)
      have lm := @MxL_length (scaleW k (w.take i))
      have lm2 : (scaleW k (w.take i)).length = i := by rw [scaleW_length, List.length_take]; omega
      have hsc : MxL (scaleW k (w.take i)) ++ [.sl 3 false (Fr [x0 * k, x1 * k, x2 * k])] = MxL (scaleW k (w.take (i + 1))) := by
        rw [← scale_push h1, hx]; exact MxL_push (r := [x0 * k, x1 * k, x2 * k])
      have hq : cut (Fr [x0 * k, x1 * k, x2 * k]) 0 12 = Fr [x0 * k, x1 * k, x2 * k] := rfl
      simp only [Fr] at hsc hq
      simp (config := { maxSteps := 1000000 }) (disch := ((try simp only [awL]); omega)) only [MS, Nat.beq_eq, ml, MxL_get, hx, Fr, ↓awU, awV, awF, ofVal, ofVal0, isShift, aggK, forall_const, ↓reduceIte, ↓reduceDIte, ↓purePost, combine, idsA, cellsA, numsOf, srcA, calleeA, refsA, isScalar, scalarD, scalar0, AV.one, putL, unfA, implies_true, IntKind.signed, Nat.reduceAdd, Nat.reduceSub, Nat.reduceMul, Nat.reducePow, Nat.reduceDiv, Nat.reduceMod, Int.reduceAdd, Int.reduceSub, Int.reduceMul, Int.reducePow, Int.reduceNeg, Int.reduceToNat, Int.reduceLT, Int.reduceLE, Nat.reduceEqDiff, sidsB, Nat.reduceBEq, keyKD, isIntK]
      refine LoopC.fr 26710105434996492030587456642145012682496 (α := Nat) (fun j => 3 - j) (fun j => [(14, .lsl 7 4 0 j), (60, .d (.int .i64 j))])
        (hS3 t K w k i x0 x1 x2) (fun j => j ≤ 3) 0 (Nat.zero_le _) ?_ ?_
      · exact ⟨[some 0, some 1, some 2, some 3, some 4, some 5, some 6, none], rfl, by simp [hS3], by simp [setsA, keepA, SWeak, AWeak], by simp [hS3, HWeak, BWeak, SWeak, AWeak, Fr]⟩
      · intro j hj
        obtain rfl | rfl | rfl | rfl : j = 0 ∨ j = 1 ∨ j = 2 ∨ j = 3 := by omega
        · simp only [keepA_z8, keepA_z, keepA_cons, keepA_nil, setsA_nil, setsA_cons, List.set_cons_zero, List.set_cons_succ, set_8, Nat.reduceMod, Nat.reduceDiv, Nat.zero_mod, Nat.zero_ne_one, if_true, if_false, reduceIte]
          simp only [hS3]
          simp (config := { maxSteps := 1000000 }) (disch := ((try simp only [awL]); omega)) only [MS, Nat.beq_eq, cut_4, Fr, c0, l0, c1, l1, c2, l2, ↓awU, awV, awF, ofVal, ofVal0, isShift, aggK, forall_const, ↓reduceIte, ↓reduceDIte, ↓purePost, combine, idsA, cellsA, numsOf, srcA, calleeA, refsA, isScalar, scalarD, scalar0, AV.one, putL, unfA, implies_true, IntKind.signed, Nat.reduceAdd, Nat.reduceSub, Nat.reduceMul, Nat.reducePow, Nat.reduceDiv, Nat.reduceMod, Int.reduceAdd, Int.reduceSub, Int.reduceMul, Int.reducePow, Int.reduceNeg, Int.reduceToNat, Int.reduceLT, Int.reduceLE, Nat.reduceEqDiff, sidsB, Nat.reduceBEq, keyKD, isIntK]
          refine CallC.pure (rmul23_spec x0 k f0 hkv p0) ?_
          simp (config := { maxSteps := 1000000 }) (disch := ((try simp only [awL]); omega)) only [MS, Nat.beq_eq, cut_4, Fr, c0, l0, c1, l1, c2, l2, ↓awU, awV, awF, ofVal, ofVal0, isShift, aggK, forall_const, ↓reduceIte, ↓reduceDIte, ↓purePost, combine, idsA, cellsA, numsOf, srcA, calleeA, refsA, isScalar, scalarD, scalar0, AV.one, putL, unfA, implies_true, IntKind.signed, Nat.reduceAdd, Nat.reduceSub, Nat.reduceMul, Nat.reducePow, Nat.reduceDiv, Nat.reduceMod, Int.reduceAdd, Int.reduceSub, Int.reduceMul, Int.reducePow, Int.reduceNeg, Int.reduceToNat, Int.reduceLT, Int.reduceLE, Nat.reduceEqDiff, sidsB, Nat.reduceBEq, keyKD, isIntK]
          refine ⟨by rfl, ?_⟩
          exact ⟨1, by decide, by simp only; omega, [some 0, some 1, some 2, some 12, some 4, some 5, some 6, some 10], rfl, by simp [hS3], by simp [setsA, keepA, SWeak, AWeak], by simp [hS3, HWeak, BWeak, SWeak, AWeak, Fr]⟩
        · simp only [keepA_z8, keepA_z, keepA_cons, keepA_nil, setsA_nil, setsA_cons, List.set_cons_zero, List.set_cons_succ, set_8, Nat.reduceMod, Nat.reduceDiv, Nat.zero_mod, Nat.zero_ne_one, if_true, if_false, reduceIte]
          simp only [hS3]
          simp (config := { maxSteps := 1000000 }) (disch := ((try simp only [awL]); omega)) only [MS, Nat.beq_eq, cut_4, Fr, c0, l0, c1, l1, c2, l2, ↓awU, awV, awF, ofVal, ofVal0, isShift, aggK, forall_const, ↓reduceIte, ↓reduceDIte, ↓purePost, combine, idsA, cellsA, numsOf, srcA, calleeA, refsA, isScalar, scalarD, scalar0, AV.one, putL, unfA, implies_true, IntKind.signed, Nat.reduceAdd, Nat.reduceSub, Nat.reduceMul, Nat.reducePow, Nat.reduceDiv, Nat.reduceMod, Int.reduceAdd, Int.reduceSub, Int.reduceMul, Int.reducePow, Int.reduceNeg, Int.reduceToNat, Int.reduceLT, Int.reduceLE, Nat.reduceEqDiff, sidsB, Nat.reduceBEq, keyKD, isIntK]
          refine CallC.pure (rmul23_spec x1 k f1 hkv p1) ?_
          simp (config := { maxSteps := 1000000 }) (disch := ((try simp only [awL]); omega)) only [MS, Nat.beq_eq, cut_4, Fr, c0, l0, c1, l1, c2, l2, ↓awU, awV, awF, ofVal, ofVal0, isShift, aggK, forall_const, ↓reduceIte, ↓reduceDIte, ↓purePost, combine, idsA, cellsA, numsOf, srcA, calleeA, refsA, isScalar, scalarD, scalar0, AV.one, putL, unfA, implies_true, IntKind.signed, Nat.reduceAdd, Nat.reduceSub, Nat.reduceMul, Nat.reducePow, Nat.reduceDiv, Nat.reduceMod, Int.reduceAdd, Int.reduceSub, Int.reduceMul, Int.reducePow, Int.reduceNeg, Int.reduceToNat, Int.reduceLT, Int.reduceLE, Nat.reduceEqDiff, sidsB, Nat.reduceBEq, keyKD, isIntK]
          refine ⟨by rfl, ?_⟩
          exact ⟨2, by decide, by simp only; omega, [some 0, some 1, some 2, some 3, some 12, some 5, some 6, some 10], rfl, by simp [hS3], by simp [setsA, keepA, SWeak, AWeak], by simp [hS3, HWeak, BWeak, SWeak, AWeak, Fr]⟩
        · simp only [keepA_z8, keepA_z, keepA_cons, keepA_nil, setsA_nil, setsA_cons, List.set_cons_zero, List.set_cons_succ, set_8, Nat.reduceMod, Nat.reduceDiv, Nat.zero_mod, Nat.zero_ne_one, if_true, if_false, reduceIte]
          simp only [hS3]
          simp (config := { maxSteps := 1000000 }) (disch := ((try simp only [awL]); omega)) only [MS, Nat.beq_eq, cut_4, Fr, c0, l0, c1, l1, c2, l2, ↓awU, awV, awF, ofVal, ofVal0, isShift, aggK, forall_const, ↓reduceIte, ↓reduceDIte, ↓purePost, combine, idsA, cellsA, numsOf, srcA, calleeA, refsA, isScalar, scalarD, scalar0, AV.one, putL, unfA, implies_true, IntKind.signed, Nat.reduceAdd, Nat.reduceSub, Nat.reduceMul, Nat.reducePow, Nat.reduceDiv, Nat.reduceMod, Int.reduceAdd, Int.reduceSub, Int.reduceMul, Int.reducePow, Int.reduceNeg, Int.reduceToNat, Int.reduceLT, Int.reduceLE, Nat.reduceEqDiff, sidsB, Nat.reduceBEq, keyKD, isIntK]
          refine CallC.pure (rmul23_spec x2 k f2 hkv p2) ?_
          simp (config := { maxSteps := 1000000 }) (disch := ((try simp only [awL]); omega)) only [MS, Nat.beq_eq, cut_4, Fr, c0, l0, c1, l1, c2, l2, ↓awU, awV, awF, ofVal, ofVal0, isShift, aggK, forall_const, ↓reduceIte, ↓reduceDIte, ↓purePost, combine, idsA, cellsA, numsOf, srcA, calleeA, refsA, isScalar, scalarD, scalar0, AV.one, putL, unfA, implies_true, IntKind.signed, Nat.reduceAdd, Nat.reduceSub, Nat.reduceMul, Nat.reducePow, Nat.reduceDiv, Nat.reduceMod, Int.reduceAdd, Int.reduceSub, Int.reduceMul, Int.reducePow, Int.reduceNeg, Int.reduceToNat, Int.reduceLT, Int.reduceLE, Nat.reduceEqDiff, sidsB, Nat.reduceBEq, keyKD, isIntK]
          refine ⟨by rfl, ?_⟩
          exact ⟨3, by decide, by simp only; omega, [some 0, some 1, some 2, some 3, some 4, some 12, some 6, some 10], rfl, by simp [hS3], by simp [setsA, keepA, SWeak, AWeak], by simp [hS3, HWeak, BWeak, SWeak, AWeak, Fr]⟩
        · simp only [keepA_z8, keepA_z, keepA_cons, keepA_nil, setsA_nil, setsA_cons, List.set_cons_zero, List.set_cons_succ, set_8, Nat.reduceMod, Nat.reduceDiv, Nat.zero_mod, Nat.zero_ne_one, if_true, if_false, reduceIte]
          simp only [hS3]
          simp (config := { maxSteps := 1000000 }) (disch := ((try simp only [awL]); omega)) only [MS, Nat.beq_eq, cut_4, Fr, c0, l0, c1, l1, c2, l2, lm, lm2, hq, hsc, ↓awU, awV, awF, ofVal, ofVal0, isShift, aggK, forall_const, ↓reduceIte, ↓reduceDIte, ↓purePost, combine, idsA, cellsA, numsOf, srcA, calleeA, refsA, isScalar, scalarD, scalar0, AV.one, putL, unfA, implies_true, IntKind.signed, Nat.reduceAdd, Nat.reduceSub, Nat.reduceMul, Nat.reducePow, Nat.reduceDiv, Nat.reduceMod, Int.reduceAdd, Int.reduceSub, Int.reduceMul, Int.reducePow, Int.reduceNeg, Int.reduceToNat, Int.reduceLT, Int.reduceLE, Nat.reduceEqDiff, sidsB, Nat.reduceBEq, keyKD, isIntK]
          exact ⟨i + 1, h1, by simp only; omega, ⟨[some 0, some 1, some 2, some 3, some 4, some 5, some 9], rfl, by simp, by simp [setsA, keepA, SWeak, AWeak], by simp [HWeak, BWeak, SWeak, AWeak]⟩⟩
    · obtain rfl : i = w.length := by omega
      have hpos : 0 < w.length := by omega
      have hs1 : ∀ a ∈ w, a.length = 3 ∧ ∀ x ∈ a, Sm 1000 x := fun a ha => ⟨hrow a ha, fun x hx => by obtain ⟨j, rfl⟩ := (hent a ha).2 x hx; exact ent_Sm.1.mono (by decide)⟩
      have hn1 : ∀ a ∈ w, a.length = 3 ∧ ∀ x ∈ a, 0 ≤ x := fun a ha => ⟨hrow a ha, fun x hx => by obtain ⟨j, rfl⟩ := (hent a ha).2 x hx; exact ent_Sm.2⟩
      have hs2 : ∀ a ∈ scaleW k w, a.length = 3 ∧ ∀ x ∈ a, Sm 1000 x := fun a ha => by
        obtain ⟨b, hb, rfl⟩ := scaleW_mem ha
        refine ⟨by rw [scaleR_length, hrow b hb], fun x hx => ?_⟩
        simp only [scaleR, List.mem_map] at hx
        obtain ⟨y, hy, rfl⟩ := hx
        obtain ⟨j, rfl⟩ := (hent b hb).2 y hy
        exact hks j
      have hn2 : ∀ a ∈ scaleW k w, a.length = 3 ∧ ∀ x ∈ a, 0 ≤ x := fun a ha => by
        obtain ⟨b, hb, rfl⟩ := scaleW_mem ha
        refine ⟨by rw [scaleR_length, hrow b hb], fun x hx => ?_⟩
        simp only [scaleR, List.mem_map] at hx
        obtain ⟨y, hy, rfl⟩ := hx
        exact Rat.mul_nonneg ((hn1 b hb).2 y hy) (Rat.le_of_lt hkp)
      have hs3 : ∀ a ∈ trW 3 w, a.length = w.length ∧ ∀ x ∈ a, Sm 1000 x := fun a ha => by
        obtain ⟨q1, q2⟩ := trW_mem hrow ha
        exact ⟨q1, fun x hx => by obtain ⟨b, hb, hxb⟩ := q2 x hx; exact (hs1 b hb).2 x hxb⟩
      have hn3 : ∀ a ∈ trW 3 w, a.length = w.length ∧ ∀ x ∈ a, 0 ≤ x := fun a ha => by
        obtain ⟨q1, q2⟩ := trW_mem hrow ha
        exact ⟨q1, fun x hx => by obtain ⟨b, hb, hxb⟩ := q2 x hx; exact (hn1 b hb).2 x hxb⟩
      have l2 : (scaleW k w).length = w.length := scaleW_length
      have l3 : (trW 3 w).length = 3 := trW_length
      have hw2 := rect_ok (w := scaleW k w) (by omega) (by decide) hs2 (Nat.le_refl _)
      have hw3 := rect_ok (w := trW 3 w) (by omega) (by omega) hs3 (Nat.le_refl _)
      have hv1 := rect_valid (w := w) hpos (by omega) (by decide) hn1
      have hv2 := rect_valid (w := scaleW k w) (by omega) (by omega) (by decide) hn2
      have hv3 := rect_valid (w := trW 3 w) (by omega) (by omega) (by omega) hn3
      have fb := (bst_Sm w (fun r hr => hw.sm r hr) 0).FV (by omega)
      have fbk := (bst_Sm (scaleW k w) (fun r hr => hw2.sm r hr) 0).FV (by omega)
      have ebr : bestR w = .tup [.sl (bestL w 0).length false (ints .i64 (bestL w 0)), Frac (bst w 0), .int .i64 0] := by rw [bestR, if_neg (by simp [hv1])]
      have ebr2 : bestR (scaleW k w) = .tup [.sl (bestL w 0).length false (ints .i64 (bestL w 0)), Frac (bst w 0 * k), .int .i64 0] := by rw [bestR, if_neg (by simp [hv2]), bestL_scale hkp, bst_scale hkp]
      have ebr3 : bestR (trW 3 w) = .tup [.sl (bestL (trW 3 w) 0).length false (ints .i64 (bestL (trW 3 w) 0)), Frac (bst w 0), .int .i64 0] := by rw [bestR, if_neg (by simp [hv3]), bst_tr fun i hi => hrow _ (mem_getD hi)]
      rw [bst_scale hkp] at fbk
      replace fbk : FV (bst w 0 * k) := fbk
      have hbl : (bestL w 0).length = w.length := ((feas_plain w 0 _).1 (bestL_ok w 0).1).1
      have et : trW 3 w = [colK w 0 w.length, colK w 1 w.length, colK w 2 w.length] := by simp [trW, colK, List.range_succ]
      have k0 : (Fr (colK w 0 w.length)).length = 4 * w.length := by rw [Fr_length, colK_length (Nat.le_refl _)]
      have q0 : cut (Fr (colK w 0 w.length)) 0 (w.length * 4) = Fr (colK w 0 w.length) := cut_Fr (by rw [colK_length (Nat.le_refl _)]; omega)
      have k1 : (Fr (colK w 1 w.length)).length = 4 * w.length := by rw [Fr_length, colK_length (Nat.le_refl _)]
      have q1 : cut (Fr (colK w 1 w.length)) 0 (w.length * 4) = Fr (colK w 1 w.length) := cut_Fr (by rw [colK_length (Nat.le_refl _)]; omega)
      have k2 : (Fr (colK w 2 w.length)).length = 4 * w.length := by rw [Fr_length, colK_length (Nat.le_refl _)]
      have q2 : cut (Fr (colK w 2 w.length)) 0 (w.length * 4) = Fr (colK w 2 w.length) := cut_Fr (by rw [colK_length (Nat.le_refl _)]; omega)
      simp (config := { maxSteps := 1000000 }) (disch := ((try simp only [awL]); omega)) only [MS, Nat.beq_eq, ↓awU, awV, awF, ofVal, ofVal0, isShift, aggK, forall_const, ↓reduceIte, ↓reduceDIte, ↓purePost, combine, idsA, cellsA, numsOf, srcA, calleeA, refsA, isScalar, scalarD, scalar0, AV.one, putL, unfA, implies_true, IntKind.signed, Nat.reduceAdd, Nat.reduceSub, Nat.reduceMul, Nat.reducePow, Nat.reduceDiv, Nat.reduceMod, Int.reduceAdd, Int.reduceSub, Int.reduceMul, Int.reducePow, Int.reduceNeg, Int.reduceToNat, Int.reduceLT, Int.reduceLE, Nat.reduceEqDiff, sidsB, Nat.reduceBEq, keyKD, isIntK]
      refine CallC.pure (best_spec hG w hw) ?_
      rw [ebr]
      generalize bestL w 0 = bl0 at *
      generalize bst w 0 = b0 at *
      simp (config := { maxSteps := 1000000 }) (disch := ((try simp only [awL]); omega)) only [MS, Nat.beq_eq, ↓awU, awV, awF, ofVal, ofVal0, isShift, aggK, forall_const, ↓reduceIte, ↓reduceDIte, ↓purePost, combine, idsA, cellsA, numsOf, srcA, calleeA, refsA, isScalar, scalarD, scalar0, AV.one, putL, unfA, implies_true, IntKind.signed, Nat.reduceAdd, Nat.reduceSub, Nat.reduceMul, Nat.reducePow, Nat.reduceDiv, Nat.reduceMod, Int.reduceAdd, Int.reduceSub, Int.reduceMul, Int.reducePow, Int.reduceNeg, Int.reduceToNat, Int.reduceLT, Int.reduceLE, Nat.reduceEqDiff, sidsB, Nat.reduceBEq, keyKD, isIntK]
      refine CallC.frozenE (best_spec hG (scaleW k w) hw2) (by rw [cut_Mx l2.symm, Mx, l2]) ?_
      rw [ebr2]
      simp (config := { maxSteps := 1000000 }) (disch := ((try simp only [awL]); omega)) only [MS, Nat.beq_eq, k0, k1, k2, ↓awU, awV, awF, ofVal, ofVal0, isShift, aggK, forall_const, ↓reduceIte, ↓reduceDIte, ↓purePost, combine, idsA, cellsA, numsOf, srcA, calleeA, refsA, isScalar, scalarD, scalar0, AV.one, putL, unfA, implies_true, IntKind.signed, Nat.reduceAdd, Nat.reduceSub, Nat.reduceMul, Nat.reducePow, Nat.reduceDiv, Nat.reduceMod, Int.reduceAdd, Int.reduceSub, Int.reduceMul, Int.reducePow, Int.reduceNeg, Int.reduceToNat, Int.reduceLT, Int.reduceLE, Nat.reduceEqDiff, sidsB, Nat.reduceBEq, keyKD, isIntK]
      simp only [q0, q1, q2]
      refine ⟨by decide, ?_⟩
      refine CallC.frozenE (best_spec hG (trW 3 w) hw3) (by rw [et]; simp only [Mx, MxL, List.map_cons, List.map_nil, FrS, colK_length (Nat.le_refl _)]; rfl) ?_
      rw [ebr3]
      simp (config := { maxSteps := 1000000 }) (disch := ((try simp only [awL]); omega)) only [MS, Nat.beq_eq, ↓awU, awV, awF, ofVal, ofVal0, isShift, aggK, forall_const, ↓reduceIte, ↓reduceDIte, ↓purePost, combine, idsA, cellsA, numsOf, srcA, calleeA, refsA, isScalar, scalarD, scalar0, AV.one, putL, unfA, implies_true, IntKind.signed, Nat.reduceAdd, Nat.reduceSub, Nat.reduceMul, Nat.reducePow, Nat.reduceDiv, Nat.reduceMod, Int.reduceAdd, Int.reduceSub, Int.reduceMul, Int.reducePow, Int.reduceNeg, Int.reduceToNat, Int.reduceLT, Int.reduceLE, Nat.reduceEqDiff, sidsB, Nat.reduceBEq, keyKD, isIntK]
      refine CallC.pure (sameInts_spec bl0 bl0 (by omega) (by omega)) ?_
      rw [decide_eq_true rfl]
      simp (config := { maxSteps := 1000000 }) (disch := ((try simp only [awL]); omega)) only [MS, Nat.beq_eq, ↓awU, awV, awF, ofVal, ofVal0, isShift, aggK, forall_const, ↓reduceIte, ↓reduceDIte, ↓purePost, combine, idsA, cellsA, numsOf, srcA, calleeA, refsA, isScalar, scalarD, scalar0, AV.one, putL, unfA, implies_true, IntKind.signed, Nat.reduceAdd, Nat.reduceSub, Nat.reduceMul, Nat.reducePow, Nat.reduceDiv, Nat.reduceMod, Int.reduceAdd, Int.reduceSub, Int.reduceMul, Int.reducePow, Int.reduceNeg, Int.reduceToNat, Int.reduceLT, Int.reduceLE, Nat.reduceEqDiff, sidsB, Nat.reduceBEq, keyKD, isIntK]
      refine CallC.pure (rmul23_spec b0 k fb hkv fbk) ?_
      simp (config := { maxSteps := 1000000 }) (disch := ((try simp only [awL]); omega)) only [MS, Nat.beq_eq, ↓awU, awV, awF, ofVal, ofVal0, isShift, aggK, forall_const, ↓reduceIte, ↓reduceDIte, ↓purePost, combine, idsA, cellsA, numsOf, srcA, calleeA, refsA, isScalar, scalarD, scalar0, AV.one, putL, unfA, implies_true, IntKind.signed, Nat.reduceAdd, Nat.reduceSub, Nat.reduceMul, Nat.reducePow, Nat.reduceDiv, Nat.reduceMod, Int.reduceAdd, Int.reduceSub, Int.reduceMul, Int.reducePow, Int.reduceNeg, Int.reduceToNat, Int.reduceLT, Int.reduceLE, Nat.reduceEqDiff, sidsB, Nat.reduceBEq, keyKD, isIntK]
      refine CallC.pure (rcmpF_spec (b0 * k) (b0 * k) fbk fbk) ?_
      rw [cmpQ_zero.2 rfl]
      simp (config := { maxSteps := 1000000 }) (disch := ((try simp only [awL]); omega)) only [MS, Nat.beq_eq, ↓awU, awV, awF, ofVal, ofVal0, isShift, aggK, forall_const, ↓reduceIte, ↓reduceDIte, ↓purePost, combine, idsA, cellsA, numsOf, srcA, calleeA, refsA, isScalar, scalarD, scalar0, AV.one, putL, unfA, implies_true, IntKind.signed, Nat.reduceAdd, Nat.reduceSub, Nat.reduceMul, Nat.reducePow, Nat.reduceDiv, Nat.reduceMod, Int.reduceAdd, Int.reduceSub, Int.reduceMul, Int.reducePow, Int.reduceNeg, Int.reduceToNat, Int.reduceLT, Int.reduceLE, Nat.reduceEqDiff, sidsB, Nat.reduceBEq, keyKD, isIntK]
      refine CallC.pure (sameF_spec b0 b0 fb fb) ?_
      rw [decide_eq_true rfl]
      simp (config := { maxSteps := 1000000 }) (disch := ((try simp only [awL]); omega)) only [MS, Nat.beq_eq, ↓awU, awV, awF, ofVal, ofVal0, isShift, aggK, forall_const, ↓reduceIte, ↓reduceDIte, ↓purePost, combine, idsA, cellsA, numsOf, srcA, calleeA, refsA, isScalar, scalarD, scalar0, AV.one, putL, unfA, implies_true, IntKind.signed, Nat.reduceAdd, Nat.reduceSub, Nat.reduceMul, Nat.reducePow, Nat.reduceDiv, Nat.reduceMod, Int.reduceAdd, Int.reduceSub, Int.reduceMul, Int.reducePow, Int.reduceNeg, Int.reduceToNat, Int.reduceLT, Int.reduceLE, Nat.reduceEqDiff, sidsB, Nat.reduceBEq, keyKD, isIntK]
      refine CallC.pure (awake_spec hG) ?_
      simp (config := { maxSteps := 1000000 }) (disch := ((try simp only [awL]); omega)) only [MS, Nat.beq_eq, ↓awU, awV, awF, ofVal, ofVal0, isShift, aggK, forall_const, ↓reduceIte, ↓reduceDIte, ↓purePost, combine, idsA, cellsA, numsOf, srcA, calleeA, refsA, isScalar, scalarD, scalar0, AV.one, putL, unfA, implies_true, IntKind.signed, Nat.reduceAdd, Nat.reduceSub, Nat.reduceMul, Nat.reducePow, Nat.reduceDiv, Nat.reduceMod, Int.reduceAdd, Int.reduceSub, Int.reduceMul, Int.reducePow, Int.reduceNeg, Int.reduceToNat, Int.reduceLT, Int.reduceLE, Nat.reduceEqDiff, sidsB, Nat.reduceBEq, keyKD, isIntK]
      rfl
def hS4 (t : List Int) (K : Nat) (w : List (List Rat)) (k : Rat) (i : Nat) (x0 : Rat) (x1 : Rat) (x2 : Rat) (x3 : Rat) : Nat → List ABlk
  | 0 => [DiceB t K, .box [.d (.bool (decide (k.num < 0))), .d (W (toW k.num.natAbs)), .d (.bool false), .d (W (toW k.den))], .box [.lsl 3 4 0 i, .lsl 4 4 0 i, .lsl 5 4 0 i, .lsl 6 4 0 i], .row false (Fr (colK w 0 i)), .row false (Fr (colK w 1 i)), .row false (Fr (colK w 2 i)), .row false (Fr (colK w 3 i)), .row false (MxL (scaleW k (w.take i))), .row false (Fr [])]
  | 1 => [DiceB t K, .box [.d (.bool (decide (k.num < 0))), .d (W (toW k.num.natAbs)), .d (.bool false), .d (W (toW k.den))], .box [.lsl 3 4 0 (i + 1), .lsl 4 4 0 i, .lsl 5 4 0 i, .lsl 6 4 0 i], .row false (Fr (colK w 0 (i + 1))), .row false (Fr (colK w 1 i)), .row false (Fr (colK w 2 i)), .row false (Fr (colK w 3 i)), .row false (MxL (scaleW k (w.take i))), .row false (Fr [x0 * k])]
  | 2 => [DiceB t K, .box [.d (.bool (decide (k.num < 0))), .d (W (toW k.num.natAbs)), .d (.bool false), .d (W (toW k.den))], .box [.lsl 3 4 0 (i + 1), .lsl 4 4 0 (i + 1), .lsl 5 4 0 i, .lsl 6 4 0 i], .row false (Fr (colK w 0 (i + 1))), .row false (Fr (colK w 1 (i + 1))), .row false (Fr (colK w 2 i)), .row false (Fr (colK w 3 i)), .row false (MxL (scaleW k (w.take i))), .row false (Fr [x0 * k, x1 * k])]
  | 3 => [DiceB t K, .box [.d (.bool (decide (k.num < 0))), .d (W (toW k.num.natAbs)), .d (.bool false), .d (W (toW k.den))], .box [.lsl 3 4 0 (i + 1), .lsl 4 4 0 (i + 1), .lsl 5 4 0 (i + 1), .lsl 6 4 0 i], .row false (Fr (colK w 0 (i + 1))), .row false (Fr (colK w 1 (i + 1))), .row false (Fr (colK w 2 (i + 1))), .row false (Fr (colK w 3 i)), .row false (MxL (scaleW k (w.take i))), .row false (Fr [x0 * k, x1 * k, x2 * k])]
  | 4 => [DiceB t K, .box [.d (.bool (decide (k.num < 0))), .d (W (toW k.num.natAbs)), .d (.bool false), .d (W (toW k.den))], .box [.lsl 3 4 0 (i + 1), .lsl 4 4 0 (i + 1), .lsl 5 4 0 (i + 1), .lsl 6 4 0 (i + 1)], .row false (Fr (colK w 0 (i + 1))), .row false (Fr (colK w 1 (i + 1))), .row false (Fr (colK w 2 (i + 1))), .row false (Fr (colK w 3 (i + 1))), .row false (MxL (scaleW k (w.take i))), .row false (Fr [x0 * k, x1 * k, x2 * k, x3 * k])]
  | _ => []
set_option maxHeartbeats 16000000 in
set_option maxRecDepth 100000 in
theorem scales_law4 (hG : HG G) (t : List Int) (hT : OkT t) (by' : Int) (hb1 : -9223372036854775808 ≤ by') (hb2 : by' ≤ 9223372036854775807) (r : Nat) (hr : 1 + nx t 0 4 = r) (hm : 1 + nx t 1 4 = (4 : Nat)) :
    Ctr Tryd.prog G 4 [.d (.sl t.length false (ints .i64 t)), .d (.int .i64 by')] [] (.d (.bool true)) [] := by
  refine Ctr.pure (M := MS) hmix Tryd.func4 rfl go4 ?_
  simp (config := { maxSteps := 1000000 }) (disch := ((try simp only [awL]); omega)) only [MS, Nat.beq_eq, Tryd.f4, ↓awU, awV, awF, ofVal, ofVal0, isShift, aggK, forall_const, ↓reduceIte, ↓reduceDIte, ↓purePost, combine, idsA, cellsA, numsOf, srcA, calleeA, refsA, isScalar, scalarD, scalar0, AV.one, putL, unfA, implies_true, IntKind.signed, Nat.reduceAdd, Nat.reduceSub, Nat.reduceMul, Nat.reducePow, Nat.reduceDiv, Nat.reduceMod, Int.reduceAdd, Int.reduceSub, Int.reduceMul, Int.reducePow, Int.reduceNeg, Int.reduceToNat, Int.reduceLT, Int.reduceLE, Nat.reduceEqDiff, sidsB, Nat.reduceBEq, keyKD, isIntK]
  refine CallC.pure (light_spec t) ?_
  rw [decide_eq_true hT.1]
  simp (config := { maxSteps := 1000000 }) (disch := ((try simp only [awL]); omega)) only [MS, Nat.beq_eq, ↓awU, awV, awF, ofVal, ofVal0, isShift, aggK, forall_const, ↓reduceIte, ↓reduceDIte, ↓purePost, combine, idsA, cellsA, numsOf, srcA, calleeA, refsA, isScalar, scalarD, scalar0, AV.one, putL, unfA, implies_true, IntKind.signed, Nat.reduceAdd, Nat.reduceSub, Nat.reduceMul, Nat.reducePow, Nat.reduceDiv, Nat.reduceMod, Int.reduceAdd, Int.reduceSub, Int.reduceMul, Int.reducePow, Int.reduceNeg, Int.reduceToNat, Int.reduceLT, Int.reduceLE, Nat.reduceEqDiff, sidsB, Nat.reduceBEq, keyKD, isIntK]
  refine CallC.by (roll_spec t hT.1) rfl rfl (Nat.zero_le _) ?_
  simp (config := { maxSteps := 1000000 }) (disch := ((try simp only [awL]); omega)) only [MS, Nat.beq_eq, ↓awU, awV, awF, ofVal, ofVal0, isShift, aggK, forall_const, ↓reduceIte, ↓reduceDIte, ↓purePost, combine, idsA, cellsA, numsOf, srcA, calleeA, refsA, isScalar, scalarD, scalar0, AV.one, putL, unfA, implies_true, IntKind.signed, Nat.reduceAdd, Nat.reduceSub, Nat.reduceMul, Nat.reducePow, Nat.reduceDiv, Nat.reduceMod, Int.reduceAdd, Int.reduceSub, Int.reduceMul, Int.reducePow, Int.reduceNeg, Int.reduceToNat, Int.reduceLT, Int.reduceLE, Nat.reduceEqDiff, sidsB, Nat.reduceBEq, keyKD, isIntK]
  have n1 := @nx_range t 0 4 (by decide)
  have n2 := @nx_range t 1 4 (by decide)
  refine CallC.by (next_spec t 0 4 hT (by decide) (by decide)) (by rfl) (by rfl) (Nat.le_refl _) ?_
  simp (config := { maxSteps := 1000000 }) (disch := ((try simp only [awL]); omega)) only [MS, Nat.beq_eq, ↓awU, awV, awF, ofVal, ofVal0, isShift, aggK, forall_const, ↓reduceIte, ↓reduceDIte, ↓purePost, combine, idsA, cellsA, numsOf, srcA, calleeA, refsA, isScalar, scalarD, scalar0, AV.one, putL, unfA, implies_true, IntKind.signed, Nat.reduceAdd, Nat.reduceSub, Nat.reduceMul, Nat.reducePow, Nat.reduceDiv, Nat.reduceMod, Int.reduceAdd, Int.reduceSub, Int.reduceMul, Int.reducePow, Int.reduceNeg, Int.reduceToNat, Int.reduceLT, Int.reduceLE, Nat.reduceEqDiff, sidsB, Nat.reduceBEq, keyKD, isIntK]
  rw [hr]
  refine CallC.by (next_spec t 1 4 hT (by decide) (by decide)) (by rfl) (by rfl) (Nat.le_refl _) ?_
  simp (config := { maxSteps := 1000000 }) (disch := ((try simp only [awL]); omega)) only [MS, Nat.beq_eq, ↓awU, awV, awF, ofVal, ofVal0, isShift, aggK, forall_const, ↓reduceIte, ↓reduceDIte, ↓purePost, combine, idsA, cellsA, numsOf, srcA, calleeA, refsA, isScalar, scalarD, scalar0, AV.one, putL, unfA, implies_true, IntKind.signed, Nat.reduceAdd, Nat.reduceSub, Nat.reduceMul, Nat.reducePow, Nat.reduceDiv, Nat.reduceMod, Int.reduceAdd, Int.reduceSub, Int.reduceMul, Int.reducePow, Int.reduceNeg, Int.reduceToNat, Int.reduceLT, Int.reduceLE, Nat.reduceEqDiff, sidsB, Nat.reduceBEq, keyKD, isIntK]
  rw [hm]
  refine CallC.by (weights_spec t 2 r 4 hT (by omega) (by omega)) (by rfl) (by rfl) (Nat.le_refl _) ?_
  have hw := @matW_ok t 2 r 4 (by omega) (by omega)
  have hwl := @matW_length t 2 r 4
  have hent := @matW_ent t 2 r 4
  generalize matW t 2 r 4 = w at *
  generalize 2 + 2 * 4 * r = K at *
  have hrow : ∀ a ∈ w, a.length = 4 := fun a ha => (hent a ha).1
  have ml := @MxL_length w
  have hb3 : -9223372036854775808 ≤ by'.tdiv 6 ∧ by'.tdiv 6 ≤ 9223372036854775807 := by
    rw [Int.tdiv_eq_ediv]
    have e6 : Int.sign 6 = 1 := rfl
    split <;> omega
  have y1 := Int.emod_nonneg by' (show (6 : Int) ≠ 0 by decide)
  have y2 := Int.emod_lt_of_pos by' (show (0 : Int) < 6 by decide)
  have z1 := Int.emod_nonneg (by'.tdiv 6) (show (3 : Int) ≠ 0 by decide)
  have z2 := Int.emod_lt_of_pos (by'.tdiv 6) (show (0 : Int) < 3 by decide)
  simp (config := { maxSteps := 1000000 }) (disch := ((try simp only [awL]); omega)) only [MS, Nat.beq_eq, ↓awU, awV, awF, ofVal, ofVal0, isShift, aggK, forall_const, ↓reduceIte, ↓reduceDIte, ↓purePost, combine, idsA, cellsA, numsOf, srcA, calleeA, refsA, isScalar, scalarD, scalar0, AV.one, putL, unfA, implies_true, IntKind.signed, Nat.reduceAdd, Nat.reduceSub, Nat.reduceMul, Nat.reducePow, Nat.reduceDiv, Nat.reduceMod, Int.reduceAdd, Int.reduceSub, Int.reduceMul, Int.reducePow, Int.reduceNeg, Int.reduceToNat, Int.reduceLT, Int.reduceLE, Nat.reduceEqDiff, sidsB, Nat.reduceBEq, keyKD, isIntK]
  refine CallC.pure (mod_spec by' 6 hb1 hb2 (by decide) (by decide)) ?_
  simp (config := { maxSteps := 1000000 }) (disch := ((try simp only [awL]); omega)) only [MS, Nat.beq_eq, ↓awU, awV, awF, ofVal, ofVal0, isShift, aggK, forall_const, ↓reduceIte, ↓reduceDIte, ↓purePost, combine, idsA, cellsA, numsOf, srcA, calleeA, refsA, isScalar, scalarD, scalar0, AV.one, putL, unfA, implies_true, IntKind.signed, Nat.reduceAdd, Nat.reduceSub, Nat.reduceMul, Nat.reducePow, Nat.reduceDiv, Nat.reduceMod, Int.reduceAdd, Int.reduceSub, Int.reduceMul, Int.reducePow, Int.reduceNeg, Int.reduceToNat, Int.reduceLT, Int.reduceLE, Nat.reduceEqDiff, sidsB, Nat.reduceBEq, keyKD, isIntK]
  refine CallC.pure (mod_spec (by'.tdiv 6) 3 hb3.1 hb3.2 (by decide) (by decide)) ?_
  simp (config := { maxSteps := 1000000 }) (disch := ((try simp only [awL]); omega)) only [MS, Nat.beq_eq, ↓awU, awV, awF, ofVal, ofVal0, isShift, aggK, forall_const, ↓reduceIte, ↓reduceDIte, ↓purePost, combine, idsA, cellsA, numsOf, srcA, calleeA, refsA, isScalar, scalarD, scalar0, AV.one, putL, unfA, implies_true, IntKind.signed, Nat.reduceAdd, Nat.reduceSub, Nat.reduceMul, Nat.reducePow, Nat.reduceDiv, Nat.reduceMod, Int.reduceAdd, Int.reduceSub, Int.reduceMul, Int.reducePow, Int.reduceNeg, Int.reduceToNat, Int.reduceLT, Int.reduceLE, Nat.reduceEqDiff, sidsB, Nat.reduceBEq, keyKD, isIntK]
  refine CallC.pure (part_spec (1 + by' % 6) (1 + by'.tdiv 6 % 3) (by omega) (by omega) (by omega) (by omega)) ?_
  have hkp : 0 < Rat.divInt (1 + by' % 6) (1 + by'.tdiv 6 % 3) := divInt_pos (by omega) (by omega)
  have hkv : FV (Rat.divInt (1 + by' % 6) (1 + by'.tdiv 6 % 3)) := part_FV (by omega) (by omega) (by omega) (by omega)
  have hks : ∀ j, Sm 1000 (ent t j * Rat.divInt (1 + by' % 6) (1 + by'.tdiv 6 % 3)) := fun j => ent_scale (by omega) (by omega) (by omega) (by omega)
  generalize Rat.divInt (1 + by' % 6) (1 + by'.tdiv 6 % 3) = k at *
  simp (config := { maxSteps := 1000000 }) (disch := ((try simp only [awL]); omega)) only [MS, Nat.beq_eq, ml, ↓awU, awV, awF, ofVal, ofVal0, isShift, aggK, forall_const, ↓reduceIte, ↓reduceDIte, ↓purePost, combine, idsA, cellsA, numsOf, srcA, calleeA, refsA, isScalar, scalarD, scalar0, AV.one, putL, unfA, implies_true, IntKind.signed, Nat.reduceAdd, Nat.reduceSub, Nat.reduceMul, Nat.reducePow, Nat.reduceDiv, Nat.reduceMod, Int.reduceAdd, Int.reduceSub, Int.reduceMul, Int.reducePow, Int.reduceNeg, Int.reduceToNat, Int.reduceLT, Int.reduceLE, Nat.reduceEqDiff, sidsB, Nat.reduceBEq, keyKD, isIntK]
  have hmem : ∀ i, i < w.length → ∀ q, q < 4 → ∃ j, (w.getD i []).getD q 0 = ent t j := fun i hi q hq => by
    have h1 := hent _ (mem_getD (d := []) hi)
    exact h1.2 _ (mem_getD (by omega))
  refine LoopC.fr 26710105434996492030586573936618048064256 (α := Nat) (fun i => w.length - i) (fun i => [(10, .lsl 7 1 0 i), (54, .d (.int .i64 i))])
    (fun i => [DiceB t K, .box [.d (.bool (decide (k.num < 0))), .d (W (toW k.num.natAbs)), .d (.bool false), .d (W (toW k.den))], .box [.lsl 3 4 0 i, .lsl 4 4 0 i, .lsl 5 4 0 i, .lsl 6 4 0 i], .row false (Fr (colK w 0 i)), .row false (Fr (colK w 1 i)), .row false (Fr (colK w 2 i)), .row false (Fr (colK w 3 i)), .row false (MxL (scaleW k (w.take i)))]) (fun i => i ≤ w.length) 0 (Nat.zero_le _) ?_ ?_
  · exact ⟨[some 0, some 1, some 2, none, none, none, none, none], rfl, by simp, by simp [setsA, keepA, SWeak, AWeak], by simp [HWeak, BWeak, SWeak, AWeak, colK, Fr, scaleW, MxL]⟩
  · intro i hi
    simp only [keepA_z8, keepA_z, keepA_cons, keepA_nil, setsA_nil, setsA_cons, List.set_cons_zero, List.set_cons_succ, set_8, Nat.reduceMod, Nat.reduceDiv, Nat.zero_mod, Nat.zero_ne_one, if_true, if_false, reduceIte]
    rcases Nat.lt_or_ge i w.length with h1 | h1
    · obtain ⟨x0, x1, x2, x3, hx⟩ : ∃ x0 x1 x2 x3, w.getD i [] = [x0, x1, x2, x3] := list4 (hrow _ (mem_getD h1))
      have g0 : (w.getD i []).getD 0 0 = x0 := by rw [hx]; rfl
      obtain ⟨j0, e0⟩ := hmem i h1 0 (by decide)
      rw [g0] at e0
      have c0 : Fr (colK w 0 i) ++ [.bool (decide (x0.num < 0)), W (toW x0.num.natAbs), .bool false, W (toW x0.den)] = Fr (colK w 0 (i + 1)) := by
        rw [← colK_push h1, g0]; exact Fr_push
      have l0 := @Fr_length (colK w 0 i)
      rw [colK_length hi] at l0
      have f0 : FV x0 := by rw [e0]; exact ent_Sm.1.FV (by decide)
      have p0 : FV (x0 * k) := by rw [e0]; exact (hks _).FV (by decide)
      have g1 : (w.getD i []).getD 1 0 = x1 := by rw [hx]; rfl
      obtain ⟨j1, e1⟩ := hmem i h1 1 (by decide)
      rw [g1] at e1
      have c1 : Fr (colK w 1 i) ++ [.bool (decide (x1.num < 0)), W (toW x1.num.natAbs), .bool false, W (toW x1.den)] = Fr (colK w 1 (i + 1)) := by
        rw [← colK_push h1, g1]; exact Fr_push
      have l1 := @Fr_length (colK w 1 i)
      rw [colK_length hi] at l1
      have f1 : FV x1 := by rw [e1]; exact ent_Sm.1.FV (by decide)
      have p1 : FV (x1 * k) := by rw [e1]; exact (hks _).FV (by decide)
      have g2 : (w.getD i []).getD 2 0 = x2 := by rw [hx]; rfl
      obtain ⟨j2, e2⟩ := hmem i h1 2 (by decide)
      rw [g2] at e2
      have c2 : Fr (colK w 2 i) ++ [.bool (decide (x2.num < 0)), W (toW x2.num.natAbs), .bool false, W (toW x2.den)] = Fr (colK w 2 (i + 1)) := by
        rw [← colK_push h1, g2]; exact Fr_push
      have l2 := @Fr_length (colK w 2 i)
      rw [colK_length hi] at l2
      have f2 : FV x2 := by rw [e2]; exact ent_Sm.1.FV (by decide)
      have p2 : FV (x2 * k) := by rw [e2]; exact (hks _).FV (by decide)
      have g3 : (w.getD i []).getD 3 0 = x3 := by rw [hx]; rfl
      obtain ⟨j3, e3⟩ := hmem i h1 3 (by decide)
      rw [g3] at e3
      have c3 : Fr (colK w 3 i) ++ [.bool (decide (x3.num < 0)), W (toW x3.num.natAbs), .bool false, W (toW x3.den)] = Fr (colK w 3 (i + 1)) := by
        rw [← colK_push h1, g3]; exact Fr_push
      have l3 := @Fr_length (colK w 3 i)
      rw [colK_length hi] at l3
      have f3 : FV x3 := by rw [e3]; exact ent_Sm.1.FV (by decide)
      have p3 : FV (x3 * k) := by rw [e3]; exact (hks _).FV (by decide)
      have lm := @MxL_length (scaleW k (w.take i))
      have lm2 : (scaleW k (w.take i)).length = i := by rw [scaleW_length, List.length_take]; omega
      have hsc : MxL (scaleW k (w.take i)) ++ [.sl 4 false (Fr [x0 * k, x1 * k, x2 * k, x3 * k])] = MxL (scaleW k (w.take (i + 1))) := by
        rw [← scale_push h1, hx]; exact MxL_push (r := [x0 * k, x1 * k, x2 * k, x3 * k])
      have hq : cut (Fr [x0 * k, x1 * k, x2 * k, x3 * k]) 0 16 = Fr [x0 * k, x1 * k, x2 * k, x3 * k] := rfl
      simp only [Fr] at hsc hq
      simp (config := { maxSteps := 1000000 }) (disch := ((try simp only [awL]); omega)) only [MS, Nat.beq_eq, ml, MxL_get, hx, Fr, ↓awU, awV, awF, ofVal, ofVal0, isShift, aggK, forall_const, ↓reduceIte, ↓reduceDIte, ↓purePost, combine, idsA, cellsA, numsOf, srcA, calleeA, refsA, isScalar, scalarD, scalar0, AV.one, putL, unfA, implies_true, IntKind.signed, Nat.reduceAdd, Nat.reduceSub, Nat.reduceMul, Nat.reducePow, Nat.reduceDiv, Nat.reduceMod, Int.reduceAdd, Int.reduceSub, Int.reduceMul, Int.reducePow, Int.reduceNeg, Int.reduceToNat, Int.reduceLT, Int.reduceLE, Nat.reduceEqDiff, sidsB, Nat.reduceBEq, keyKD, isIntK]
      refine LoopC.fr 26710105434996492030587456642145012682496 (α := Nat) (fun j => 4 - j) (fun j => [(14, .lsl 8 4 0 j), (60, .d (.int .i64 j))])
        (hS4 t K w k i x0 x1 x2 x3) (fun j => j ≤ 4) 0 (Nat.zero_le _) ?_ ?_
      · exact ⟨[some 0, some 1, some 2, some 3, some 4, some 5, some 6, some 7, none], rfl, by simp [hS4], by simp [setsA, keepA, SWeak, AWeak], by simp [hS4, HWeak, BWeak, SWeak, AWeak, Fr]⟩
      · intro j hj
        obtain rfl | rfl | rfl | rfl | rfl : j = 0 ∨ j = 1 ∨ j = 2 ∨ j = 3 ∨ j = 4 := by omega
        · simp only [keepA_z8, keepA_z, keepA_cons, keepA_nil, setsA_nil, setsA_cons, List.set_cons_zero, List.set_cons_succ, set_8, Nat.reduceMod, Nat.reduceDiv, Nat.zero_mod, Nat.zero_ne_one, if_true, if_false, reduceIte]
          simp only [hS4]
          simp (config := { maxSteps := 1000000 }) (disch := ((try simp only [awL]); omega)) only [MS, Nat.beq_eq, cut_4, Fr, c0, l0, c1, l1, c2, l2, c3, l3, ↓awU, awV, awF, ofVal, ofVal0, isShift, aggK, forall_const, ↓reduceIte, ↓reduceDIte, ↓purePost, combine, idsA, cellsA, numsOf, srcA, calleeA, refsA, isScalar, scalarD, scalar0, AV.one, putL, unfA, implies_true, IntKind.signed, Nat.reduceAdd, Nat.reduceSub, Nat.reduceMul, Nat.reducePow, Nat.reduceDiv, Nat.reduceMod, Int.reduceAdd, Int.reduceSub, Int.reduceMul, Int.reducePow, Int.reduceNeg, Int.reduceToNat, Int.reduceLT, Int.reduceLE, Nat.reduceEqDiff, sidsB, Nat.reduceBEq, keyKD, isIntK]
          refine CallC.pure (rmul23_spec x0 k f0 hkv p0) ?_
          simp (config := { maxSteps := 1000000 }) (disch := ((try simp only [awL]); omega)) only [MS, Nat.beq_eq, cut_4, Fr, c0, l0, c1, l1, c2, l2, c3, l3, ↓awU, awV, awF, ofVal, ofVal0, isShift, aggK, forall_const, ↓reduceIte, ↓reduceDIte, ↓purePost, combine, idsA, cellsA, numsOf, srcA, calleeA, refsA, isScalar, scalarD, scalar0, AV.one, putL, unfA, implies_true, IntKind.signed, Nat.reduceAdd, Nat.reduceSub, Nat.reduceMul, Nat.reducePow, Nat.reduceDiv, Nat.reduceMod, Int.reduceAdd, Int.reduceSub, Int.reduceMul, Int.reducePow, Int.reduceNeg, Int.reduceToNat, Int.reduceLT, Int.reduceLE, Nat.reduceEqDiff, sidsB, Nat.reduceBEq, keyKD, isIntK]
          refine ⟨by rfl, ?_⟩
          exact ⟨1, by decide, by simp only; omega, [some 0, some 1, some 2, some 13, some 4, some 5, some 6, some 7, some 11], rfl, by simp [hS4], by simp [setsA, keepA, SWeak, AWeak], by simp [hS4, HWeak, BWeak, SWeak, AWeak, Fr]⟩
        · simp only [keepA_z8, keepA_z, keepA_cons, keepA_nil, setsA_nil, setsA_cons, List.set_cons_zero, List.set_cons_succ, set_8, Nat.reduceMod, Nat.reduceDiv, Nat.zero_mod, Nat.zero_ne_one, if_true, if_false, reduceIte]
          simp only [hS4]
          simp (config := { maxSteps := 1000000 }) (disch := ((try simp only [awL]); omega)) only [MS, Nat.beq_eq, cut_4, Fr, c0, l0, c1, l1, c2, l2, c3, l3, ↓awU, awV, awF, ofVal, ofVal0, isShift, aggK, forall_const, ↓reduceIte, ↓reduceDIte, ↓purePost, combine, idsA, cellsA, numsOf, srcA, calleeA, refsA, isScalar, scalarD, scalar0, AV.one, putL, unfA, implies_true, IntKind.signed, Nat.reduceAdd, Nat.reduceSub, Nat.reduceMul, Nat.reducePow, Nat.reduceDiv, Nat.reduceMod, Int.reduceAdd, Int.reduceSub, Int.reduceMul, Int.reducePow, Int.reduceNeg, Int.reduceToNat, Int.reduceLT, Int.reduceLE, Nat.reduceEqDiff, sidsB, Nat.reduceBEq, keyKD, isIntK]
          refine CallC.pure (rmul23_spec x1 k f1 hkv p1) ?_
          simp (config := { maxSteps := 1000000 }) (disch := ((try simp only [awL]); omega)) only [MS, Nat.beq_eq, cut_4, Fr, c0, l0, c1, l1, c2, l2, c3, l3, ↓awU, awV, awF, ofVal, ofVal0, isShift, aggK, forall_const, ↓reduceIte, ↓reduceDIte, ↓purePost, combine, idsA, cellsA, numsOf, srcA, calleeA, refsA, isScalar, scalarD, scalar0, AV.one, putL, unfA, implies_true, IntKind.signed, Nat.reduceAdd, Nat.reduceSub, Nat.reduceMul, Nat.reducePow, Nat.reduceDiv, Nat.reduceMod, Int.reduceAdd, Int.reduceSub, Int.reduceMul, Int.reducePow, Int.reduceNeg, Int.reduceToNat, Int.reduceLT, Int.reduceLE, Nat.reduceEqDiff, sidsB, Nat.reduceBEq, keyKD, isIntK]
          refine ⟨by rfl, ?_⟩
          exact ⟨2, by decide, by simp only; omega, [some 0, some 1, some 2, some 3, some 13, some 5, some 6, some 7, some 11], rfl, by simp [hS4], by simp [setsA, keepA, SWeak, AWeak], by simp [hS4, HWeak, BWeak, SWeak, AWeak, Fr]⟩
        · simp only [keepA_z8, keepA_z, keepA_cons, keepA_nil, setsA_nil, setsA_cons, List.set_cons_zero, List.set_cons_succ, set_8, Nat.reduceMod, Nat.reduceDiv, Nat.zero_mod, Nat.zero_ne_one, if_true, if_false, reduceIte]
          simp only [hS4]
          simp (config := { maxSteps := 1000000 }) (disch := ((try simp only [awL]); omega)) only [MS, Nat.beq_eq, cut_4, Fr, c0, l0, c1, l1, c2, l2, c3, l3, ↓awU, awV, awF, ofVal, ofVal0, isShift, aggK, forall_const, ↓reduceIte, ↓reduceDIte, ↓purePost, combine, idsA, cellsA, numsOf, srcA, calleeA, refsA, isScalar, scalarD, scalar0, AV.one, putL, unfA, implies_true, IntKind.signed, Nat.reduceAdd, Nat.reduceSub, Nat.reduceMul, Nat.reducePow, Nat.reduceDiv, Nat.reduceMod, Int.reduceAdd, Int.reduceSub, Int.reduceMul, Int.reducePow, Int.reduceNeg, Int.reduceToNat, Int.reduceLT, Int.reduceLE, Nat.reduceEqDiff, sidsB, Nat.reduceBEq, keyKD, isIntK]
          refine CallC.pure (rmul23_spec x2 k f2 hkv p2) ?_
          simp (config := { maxSteps := 1000000 }) (disch := ((try simp only [awL]); omega)) only [MS, Nat.beq_eq, cut_4, Fr, c0, l0, c1, l1, c2, l2, c3, l3, ↓awU, awV, awF, ofVal, ofVal0, isShift, aggK, forall_const, ↓reduceIte, ↓reduceDIte, ↓purePost, combine, idsA, cellsA, numsOf, srcA, calleeA, refsA, isScalar, scalarD, scalar0, AV.one, putL, unfA, implies_true, IntKind.signed, Nat.reduceAdd, Nat.reduceSub, Nat.reduceMul, Nat.reducePow, Nat.reduceDiv, Nat.reduceMod, Int.reduceAdd, Int.reduceSub, Int.reduceMul, Int.reducePow, Int.reduceNeg, Int.reduceToNat, Int.reduceLT, Int.reduceLE, Nat.reduceEqDiff, sidsB, Nat.reduceBEq, keyKD, isIntK]
          refine ⟨by rfl, ?_⟩
          exact ⟨3, by decide, by simp only; omega, [some 0, some 1, some 2, some 3, some 4, some 13, some 6, some 7, some 11], rfl, by simp [hS4], by simp [setsA, keepA, SWeak, AWeak], by simp [hS4, HWeak, BWeak, SWeak, AWeak, Fr]⟩
        · simp only [keepA_z8, keepA_z, keepA_cons, keepA_nil, setsA_nil, setsA_cons, List.set_cons_zero, List.set_cons_succ, set_8, Nat.reduceMod, Nat.reduceDiv, Nat.zero_mod, Nat.zero_ne_one, if_true, if_false, reduceIte]
          simp only [hS4]
          simp (config := { maxSteps := 1000000 }) (disch := ((try simp only [awL]); omega)) only [MS, Nat.beq_eq, cut_4, Fr, c0, l0, c1, l1, c2, l2, c3, l3, ↓awU, awV, awF, ofVal, ofVal0, isShift, aggK, forall_const, ↓reduceIte, ↓reduceDIte, ↓purePost, combine, idsA, cellsA, numsOf, srcA, calleeA, refsA, isScalar, scalarD, scalar0, AV.one, putL, unfA, implies_true, IntKind.signed, Nat.reduceAdd, Nat.reduceSub, Nat.reduceMul, Nat.reducePow, Nat.reduceDiv, Nat.reduceMod, Int.reduceAdd, Int.reduceSub, Int.reduceMul, Int.reducePow, Int.reduceNeg, Int.reduceToNat, Int.reduceLT, Int.reduceLE, Nat.reduceEqDiff, sidsB, Nat.reduceBEq, keyKD, isIntK]
          refine CallC.pure (rmul23_spec x3 k f3 hkv p3) ?_
          simp (config := { maxSteps := 1000000 }) (disch := ((try simp only [awL]); omega)) only [MS, Nat.beq_eq, cut_4, Fr, c0, l0, c1, l1, c2, l2, c3, l3, ↓awU, awV, awF, ofVal, ofVal0, isShift, aggK, forall_const, ↓reduceIte, ↓reduceDIte, ↓purePost, combine, idsA, cellsA, numsOf, srcA, calleeA, refsA, isScalar, scalarD, scalar0, AV.one, putL, unfA, implies_true, IntKind.signed, Nat.reduceAdd, Nat.reduceSub, Nat.reduceMul, Nat.reducePow, Nat.reduceDiv, Nat.reduceMod, Int.reduceAdd, Int.reduceSub, Int.reduceMul, Int.reducePow, Int.reduceNeg, Int.reduceToNat, Int.reduceLT, Int.reduceLE, Nat.reduceEqDiff, sidsB, Nat.reduceBEq, keyKD, isIntK]
          refine ⟨by rfl, ?_⟩
          exact ⟨4, by decide, by simp only; omega, [some 0, some 1, some 2, some 3, some 4, some 5, some 13, some 7, some 11], rfl, by simp [hS4], by simp [setsA, keepA, SWeak, AWeak], by simp [hS4, HWeak, BWeak, SWeak, AWeak, Fr]⟩
        · simp only [keepA_z8, keepA_z, keepA_cons, keepA_nil, setsA_nil, setsA_cons, List.set_cons_zero, List.set_cons_succ, set_8, Nat.reduceMod, Nat.reduceDiv, Nat.zero_mod, Nat.zero_ne_one, if_true, if_false, reduceIte]
          simp only [hS4]
          simp (config := { maxSteps := 1000000 }) (disch := ((try simp only [awL]); omega)) only [MS, Nat.beq_eq, cut_4, Fr, c0, l0, c1, l1, c2, l2, c3, l3, lm, lm2, hq, hsc, ↓awU, awV, awF, ofVal, ofVal0, isShift, aggK, forall_const, ↓reduceIte, ↓reduceDIte, ↓purePost, combine, idsA, cellsA, numsOf, srcA, calleeA, refsA, isScalar, scalarD, scalar0, AV.one, putL, unfA, implies_true, IntKind.signed, Nat.reduceAdd, Nat.reduceSub, Nat.reduceMul, Nat.reducePow, Nat.reduceDiv, Nat.reduceMod, Int.reduceAdd, Int.reduceSub, Int.reduceMul, Int.reducePow, Int.reduceNeg, Int.reduceToNat, Int.reduceLT, Int.reduceLE, Nat.reduceEqDiff, sidsB, Nat.reduceBEq, keyKD, isIntK]
          exact ⟨i + 1, h1, by simp only; omega, ⟨[some 0, some 1, some 2, some 3, some 4, some 5, some 6, some 10], rfl, by simp, by simp [setsA, keepA, SWeak, AWeak], by simp [HWeak, BWeak, SWeak, AWeak]⟩⟩
    · obtain rfl : i = w.length := by omega
      have hpos : 0 < w.length := by omega
      have hs1 : ∀ a ∈ w, a.length = 4 ∧ ∀ x ∈ a, Sm 1000 x := fun a ha => ⟨hrow a ha, fun x hx => by obtain ⟨j, rfl⟩ := (hent a ha).2 x hx; exact ent_Sm.1.mono (by decide)⟩
      have hn1 : ∀ a ∈ w, a.length = 4 ∧ ∀ x ∈ a, 0 ≤ x := fun a ha => ⟨hrow a ha, fun x hx => by obtain ⟨j, rfl⟩ := (hent a ha).2 x hx; exact ent_Sm.2⟩
      have hs2 : ∀ a ∈ scaleW k w, a.length = 4 ∧ ∀ x ∈ a, Sm 1000 x := fun a ha => by
        obtain ⟨b, hb, rfl⟩ := scaleW_mem ha
        refine ⟨by rw [scaleR_length, hrow b hb], fun x hx => ?_⟩
        simp only [scaleR, List.mem_map] at hx
        obtain ⟨y, hy, rfl⟩ := hx
        obtain ⟨j, rfl⟩ := (hent b hb).2 y hy
        exact hks j
      have hn2 : ∀ a ∈ scaleW k w, a.length = 4 ∧ ∀ x ∈ a, 0 ≤ x := fun a ha => by
        obtain ⟨b, hb, rfl⟩ := scaleW_mem ha
        refine ⟨by rw [scaleR_length, hrow b hb], fun x hx => ?_⟩
        simp only [scaleR, List.mem_map] at hx
        obtain ⟨y, hy, rfl⟩ := hx
        exact Rat.mul_nonneg ((hn1 b hb).2 y hy) (Rat.le_of_lt hkp)
      have hs3 : ∀ a ∈ trW 4 w, a.length = w.length ∧ ∀ x ∈ a, Sm 1000 x := fun a ha => by
        obtain ⟨q1, q2⟩ := trW_mem hrow ha
        exact ⟨q1, fun x hx => by obtain ⟨b, hb, hxb⟩ := q2 x hx; exact (hs1 b hb).2 x hxb⟩
      have hn3 : ∀ a ∈ trW 4 w, a.length = w.length ∧ ∀ x ∈ a, 0 ≤ x := fun a ha => by
        obtain ⟨q1, q2⟩ := trW_mem hrow ha
        exact ⟨q1, fun x hx => by obtain ⟨b, hb, hxb⟩ := q2 x hx; exact (hn1 b hb).2 x hxb⟩
      have l2 : (scaleW k w).length = w.length := scaleW_length
      have l3 : (trW 4 w).length = 4 := trW_length
      have hw2 := rect_ok (w := scaleW k w) (by omega) (by decide) hs2 (Nat.le_refl _)
      have hw3 := rect_ok (w := trW 4 w) (by omega) (by omega) hs3 (Nat.le_refl _)
      have hv1 := rect_valid (w := w) hpos (by omega) (by decide) hn1
      have hv2 := rect_valid (w := scaleW k w) (by omega) (by omega) (by decide) hn2
      have hv3 := rect_valid (w := trW 4 w) (by omega) (by omega) (by omega) hn3
      have fb := (bst_Sm w (fun r hr => hw.sm r hr) 0).FV (by omega)
      have fbk := (bst_Sm (scaleW k w) (fun r hr => hw2.sm r hr) 0).FV (by omega)
      have ebr : bestR w = .tup [.sl (bestL w 0).length false (ints .i64 (bestL w 0)), Frac (bst w 0), .int .i64 0] := by rw [bestR, if_neg (by simp [hv1])]
      have ebr2 : bestR (scaleW k w) = .tup [.sl (bestL w 0).length false (ints .i64 (bestL w 0)), Frac (bst w 0 * k), .int .i64 0] := by rw [bestR, if_neg (by simp [hv2]), bestL_scale hkp, bst_scale hkp]
      have ebr3 : bestR (trW 4 w) = .tup [.sl (bestL (trW 4 w) 0).length false (ints .i64 (bestL (trW 4 w) 0)), Frac (bst w 0), .int .i64 0] := by rw [bestR, if_neg (by simp [hv3]), bst_tr fun i hi => hrow _ (mem_getD hi)]
      rw [bst_scale hkp] at fbk
      replace fbk : FV (bst w 0 * k) := fbk
      have hbl : (bestL w 0).length = w.length := ((feas_plain w 0 _).1 (bestL_ok w 0).1).1
      have et : trW 4 w = [colK w 0 w.length, colK w 1 w.length, colK w 2 w.length, colK w 3 w.length] := by simp [trW, colK, List.range_succ]
      have k0 : (Fr (colK w 0 w.length)).length = 4 * w.length := by rw [Fr_length, colK_length (Nat.le_refl _)]
      have q0 : cut (Fr (colK w 0 w.length)) 0 (w.length * 4) = Fr (colK w 0 w.length) := cut_Fr (by rw [colK_length (Nat.le_refl _)]; omega)
      have k1 : (Fr (colK w 1 w.length)).length = 4 * w.length := by rw [Fr_length, colK_length (Nat.le_refl _)]
      have q1 : cut (Fr (colK w 1 w.length)) 0 (w.length * 4) = Fr (colK w 1 w.length) := cut_Fr (by rw [colK_length (Nat.le_refl _)]; omega)
      have k2 : (Fr (colK w 2 w.length)).length = 4 * w.length := by rw [Fr_length, colK_length (Nat.le_refl _)]
      have q2 : cut (Fr (colK w 2 w.length)) 0 (w.length * 4) = Fr (colK w 2 w.length) := cut_Fr (by rw [colK_length (Nat.le_refl _)]; omega)
      have k3 : (Fr (colK w 3 w.length)).length = 4 * w.length := by rw [Fr_length, colK_length (Nat.le_refl _)]
      have q3 : cut (Fr (colK w 3 w.length)) 0 (w.length * 4) = Fr (colK w 3 w.length) := cut_Fr (by rw [colK_length (Nat.le_refl _)]; omega)
      simp (config := { maxSteps := 1000000 }) (disch := ((try simp only [awL]); omega)) only [MS, Nat.beq_eq, ↓awU, awV, awF, ofVal, ofVal0, isShift, aggK, forall_const, ↓reduceIte, ↓reduceDIte, ↓purePost, combine, idsA, cellsA, numsOf, srcA, calleeA, refsA, isScalar, scalarD, scalar0, AV.one, putL, unfA, implies_true, IntKind.signed, Nat.reduceAdd, Nat.reduceSub, Nat.reduceMul, Nat.reducePow, Nat.reduceDiv, Nat.reduceMod, Int.reduceAdd, Int.reduceSub, Int.reduceMul, Int.reducePow, Int.reduceNeg, Int.reduceToNat, Int.reduceLT, Int.reduceLE, Nat.reduceEqDiff, sidsB, Nat.reduceBEq, keyKD, isIntK]
      refine CallC.pure (best_spec hG w hw) ?_
      rw [ebr]
      generalize bestL w 0 = bl0 at *
      generalize bst w 0 = b0 at *
      simp (config := { maxSteps := 1000000 }) (disch := ((try simp only [awL]); omega)) only [MS, Nat.beq_eq, ↓awU, awV, awF, ofVal, ofVal0, isShift, aggK, forall_const, ↓reduceIte, ↓reduceDIte, ↓purePost, combine, idsA, cellsA, numsOf, srcA, calleeA, refsA, isScalar, scalarD, scalar0, AV.one, putL, unfA, implies_true, IntKind.signed, Nat.reduceAdd, Nat.reduceSub, Nat.reduceMul, Nat.reducePow, Nat.reduceDiv, Nat.reduceMod, Int.reduceAdd, Int.reduceSub, Int.reduceMul, Int.reducePow, Int.reduceNeg, Int.reduceToNat, Int.reduceLT, Int.reduceLE, Nat.reduceEqDiff, sidsB, Nat.reduceBEq, keyKD, isIntK]
      refine CallC.frozenE (best_spec hG (scaleW k w) hw2) (by rw [cut_Mx l2.symm, Mx, l2]) ?_
      rw [ebr2]
      simp (config := { maxSteps := 1000000 }) (disch := ((try simp only [awL]); omega)) only [MS, Nat.beq_eq, k0, k1, k2, k3, ↓awU, awV, awF, ofVal, ofVal0, isShift, aggK, forall_const, ↓reduceIte, ↓reduceDIte, ↓purePost, combine, idsA, cellsA, numsOf, srcA, calleeA, refsA, isScalar, scalarD, scalar0, AV.one, putL, unfA, implies_true, IntKind.signed, Nat.reduceAdd, Nat.reduceSub, Nat.reduceMul, Nat.reducePow, Nat.reduceDiv, Nat.reduceMod, Int.reduceAdd, Int.reduceSub, Int.reduceMul, Int.reducePow, Int.reduceNeg, Int.reduceToNat, Int.reduceLT, Int.reduceLE, Nat.reduceEqDiff, sidsB, Nat.reduceBEq, keyKD, isIntK]
      simp only [q0, q1, q2, q3]
      refine ⟨by decide, ?_⟩
      refine CallC.frozenE (best_spec hG (trW 4 w) hw3) (by rw [et]; simp only [Mx, MxL, List.map_cons, List.map_nil, FrS, colK_length (Nat.le_refl _)]; rfl) ?_
      rw [ebr3]
      simp (config := { maxSteps := 1000000 }) (disch := ((try simp only [awL]); omega)) only [MS, Nat.beq_eq, ↓awU, awV, awF, ofVal, ofVal0, isShift, aggK, forall_const, ↓reduceIte, ↓reduceDIte, ↓purePost, combine, idsA, cellsA, numsOf, srcA, calleeA, refsA, isScalar, scalarD, scalar0, AV.one, putL, unfA, implies_true, IntKind.signed, Nat.reduceAdd, Nat.reduceSub, Nat.reduceMul, Nat.reducePow, Nat.reduceDiv, Nat.reduceMod, Int.reduceAdd, Int.reduceSub, Int.reduceMul, Int.reducePow, Int.reduceNeg, Int.reduceToNat, Int.reduceLT, Int.reduceLE, Nat.reduceEqDiff, sidsB, Nat.reduceBEq, keyKD, isIntK]
      refine CallC.pure (sameInts_spec bl0 bl0 (by omega) (by omega)) ?_
      rw [decide_eq_true rfl]
      simp (config := { maxSteps := 1000000 }) (disch := ((try simp only [awL]); omega)) only [MS, Nat.beq_eq, ↓awU, awV, awF, ofVal, ofVal0, isShift, aggK, forall_const, ↓reduceIte, ↓reduceDIte, ↓purePost, combine, idsA, cellsA, numsOf, srcA, calleeA, refsA, isScalar, scalarD, scalar0, AV.one, putL, unfA, implies_true, IntKind.signed, Nat.reduceAdd, Nat.reduceSub, Nat.reduceMul, Nat.reducePow, Nat.reduceDiv, Nat.reduceMod, Int.reduceAdd, Int.reduceSub, Int.reduceMul, Int.reducePow, Int.reduceNeg, Int.reduceToNat, Int.reduceLT, Int.reduceLE, Nat.reduceEqDiff, sidsB, Nat.reduceBEq, keyKD, isIntK]
      refine CallC.pure (rmul23_spec b0 k fb hkv fbk) ?_
      simp (config := { maxSteps := 1000000 }) (disch := ((try simp only [awL]); omega)) only [MS, Nat.beq_eq, ↓awU, awV, awF, ofVal, ofVal0, isShift, aggK, forall_const, ↓reduceIte, ↓reduceDIte, ↓purePost, combine, idsA, cellsA, numsOf, srcA, calleeA, refsA, isScalar, scalarD, scalar0, AV.one, putL, unfA, implies_true, IntKind.signed, Nat.reduceAdd, Nat.reduceSub, Nat.reduceMul, Nat.reducePow, Nat.reduceDiv, Nat.reduceMod, Int.reduceAdd, Int.reduceSub, Int.reduceMul, Int.reducePow, Int.reduceNeg, Int.reduceToNat, Int.reduceLT, Int.reduceLE, Nat.reduceEqDiff, sidsB, Nat.reduceBEq, keyKD, isIntK]
      refine CallC.pure (rcmpF_spec (b0 * k) (b0 * k) fbk fbk) ?_
      rw [cmpQ_zero.2 rfl]
      simp (config := { maxSteps := 1000000 }) (disch := ((try simp only [awL]); omega)) only [MS, Nat.beq_eq, ↓awU, awV, awF, ofVal, ofVal0, isShift, aggK, forall_const, ↓reduceIte, ↓reduceDIte, ↓purePost, combine, idsA, cellsA, numsOf, srcA, calleeA, refsA, isScalar, scalarD, scalar0, AV.one, putL, unfA, implies_true, IntKind.signed, Nat.reduceAdd, Nat.reduceSub, Nat.reduceMul, Nat.reducePow, Nat.reduceDiv, Nat.reduceMod, Int.reduceAdd, Int.reduceSub, Int.reduceMul, Int.reducePow, Int.reduceNeg, Int.reduceToNat, Int.reduceLT, Int.reduceLE, Nat.reduceEqDiff, sidsB, Nat.reduceBEq, keyKD, isIntK]
      refine CallC.pure (sameF_spec b0 b0 fb fb) ?_
      rw [decide_eq_true rfl]
      simp (config := { maxSteps := 1000000 }) (disch := ((try simp only [awL]); omega)) only [MS, Nat.beq_eq, ↓awU, awV, awF, ofVal, ofVal0, isShift, aggK, forall_const, ↓reduceIte, ↓reduceDIte, ↓purePost, combine, idsA, cellsA, numsOf, srcA, calleeA, refsA, isScalar, scalarD, scalar0, AV.one, putL, unfA, implies_true, IntKind.signed, Nat.reduceAdd, Nat.reduceSub, Nat.reduceMul, Nat.reducePow, Nat.reduceDiv, Nat.reduceMod, Int.reduceAdd, Int.reduceSub, Int.reduceMul, Int.reducePow, Int.reduceNeg, Int.reduceToNat, Int.reduceLT, Int.reduceLE, Nat.reduceEqDiff, sidsB, Nat.reduceBEq, keyKD, isIntK]
      refine CallC.pure (awake_spec hG) ?_
      simp (config := { maxSteps := 1000000 }) (disch := ((try simp only [awL]); omega)) only [MS, Nat.beq_eq, ↓awU, awV, awF, ofVal, ofVal0, isShift, aggK, forall_const, ↓reduceIte, ↓reduceDIte, ↓purePost, combine, idsA, cellsA, numsOf, srcA, calleeA, refsA, isScalar, scalarD, scalar0, AV.one, putL, unfA, implies_true, IntKind.signed, Nat.reduceAdd, Nat.reduceSub, Nat.reduceMul, Nat.reducePow, Nat.reduceDiv, Nat.reduceMod, Int.reduceAdd, Int.reduceSub, Int.reduceMul, Int.reducePow, Int.reduceNeg, Int.reduceToNat, Int.reduceLT, Int.reduceLE, Nat.reduceEqDiff, sidsB, Nat.reduceBEq, keyKD, isIntK]
      rfl
end Go.Proofs.YtkppgdialedoeaaDoor

namespace Go.Proofs.YtkppgdialedoeaaDoor
open Go Go.Proofs Go.Abs
variable {G : Globals}
set_option maxHeartbeats 8000000 in
set_option maxRecDepth 100000 in
theorem scales_law (hG : HG G) (t : List Int) (ht : OkI t) (by' : Int) (hb1 : -9223372036854775808 ≤ by') (hb2 : by' ≤ 9223372036854775807) :
    Ctr Tryd.prog G 4 [.d (.sl t.length false (ints .i64 t)), .d (.int .i64 by')] [] (.d (.bool true)) [] := by
  by_cases hl : t.length ≤ 500
  · have hT : OkT t := ⟨hl, ht⟩
    have n1 := @nx_range t 0 4 (by decide)
    have n2 := @nx_range t 1 4 (by decide)
    obtain ⟨r, hr⟩ : ∃ r : Nat, 1 + nx t 0 4 = r := ⟨(1 + nx t 0 4).toNat, by omega⟩
    obtain h | h | h | h : 1 + nx t 1 4 = (1 : Nat) ∨ 1 + nx t 1 4 = (2 : Nat) ∨ 1 + nx t 1 4 = (3 : Nat) ∨ 1 + nx t 1 4 = (4 : Nat) := by omega
    · exact scales_law1 hG t hT by' hb1 hb2 r hr h
    · exact scales_law2 hG t hT by' hb1 hb2 r hr h
    · exact scales_law3 hG t hT by' hb1 hb2 r hr h
    · exact scales_law4 hG t hT by' hb1 hb2 r hr h
  · refine Ctr.pure (M := M0) hmix Tryd.func4 rfl go4 ?_
    simp (config := { maxSteps := 1000000 }) (disch := ((try simp only [awL]); omega)) only [Tryd.f4, ↓awU, awV, awF, ofVal, ofVal0, isShift, aggK, forall_const, ↓reduceIte, ↓reduceDIte, ↓purePost, combine, idsA, cellsA, numsOf, srcA, calleeA, refsA, isScalar, scalarD, scalar0, AV.one, putL, unfA, implies_true, IntKind.signed, Nat.reduceAdd, Nat.reduceSub, Nat.reduceMul, Nat.reducePow, Nat.reduceDiv, Nat.reduceMod, Int.reduceAdd, Int.reduceSub, Int.reduceMul, Int.reducePow, Int.reduceNeg, Int.reduceToNat, Int.reduceLT, Int.reduceLE, Nat.reduceEqDiff, sidsB, Nat.reduceBEq, keyKD, isIntK]
    refine CallC.pure (light_spec t) ?_
    rw [decide_eq_false hl]
    simp (config := { maxSteps := 1000000 }) (disch := ((try simp only [awL]); omega)) only [↓awU, awV, awF, ofVal, ofVal0, isShift, aggK, forall_const, ↓reduceIte, ↓reduceDIte, ↓purePost, combine, idsA, cellsA, numsOf, srcA, calleeA, refsA, isScalar, scalarD, scalar0, AV.one, putL, unfA, implies_true, IntKind.signed, Nat.reduceAdd, Nat.reduceSub, Nat.reduceMul, Nat.reducePow, Nat.reduceDiv, Nat.reduceMod, Int.reduceAdd, Int.reduceSub, Int.reduceMul, Int.reducePow, Int.reduceNeg, Int.reduceToNat, Int.reduceLT, Int.reduceLE, Nat.reduceEqDiff, sidsB, Nat.reduceBEq, keyKD, isIntK]
    refine CallC.pure (awake_spec hG) ?_
    simp (config := { maxSteps := 1000000 }) (disch := ((try simp only [awL]); omega)) only [↓awU, awV, awF, ofVal, ofVal0, isShift, aggK, forall_const, ↓reduceIte, ↓reduceDIte, ↓purePost, combine, idsA, cellsA, numsOf, srcA, calleeA, refsA, isScalar, scalarD, scalar0, AV.one, putL, unfA, implies_true, IntKind.signed, Nat.reduceAdd, Nat.reduceSub, Nat.reduceMul, Nat.reducePow, Nat.reduceDiv, Nat.reduceMod, Int.reduceAdd, Int.reduceSub, Int.reduceMul, Int.reducePow, Int.reduceNeg, Int.reduceToNat, Int.reduceLT, Int.reduceLE, Nat.reduceEqDiff, sidsB, Nat.reduceBEq, keyKD, isIntK]
end Go.Proofs.YtkppgdialedoeaaDoor
