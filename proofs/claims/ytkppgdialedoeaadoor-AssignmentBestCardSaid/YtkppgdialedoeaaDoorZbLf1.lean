/-
  Contracts of the functions, one after another.
-/
import Derived.Test.YtkppgdialedoeaaDoorMb3
set_option linter.all false
namespace Go.Proofs.YtkppgdialedoeaaDoor
open Go Go.Proofs Go.Abs
/-! The best assignment is one, has the best weight, and none is heavier. -/
def tot : List (List Rat) → List Int → Rat
  | r :: rs, k :: l => (if 0 ≤ k then r.getD k.toNat 0 else 0) + tot rs l
  | _, _ => 0
def feas : List (List Rat) → Nat → List Int → Prop
  | [], _, [] => True
  | r :: rs, u, k :: l => (k = -1 ∧ feas rs u l) ∨ ∃ c : Nat, k = (c : Int) ∧ c < r.length ∧ ¬ u.testBit c = true ∧ feas rs (u ||| 2 ^ c) l
  | _, _, _ => False
def Nonneg (w : List (List Rat)) : Prop := ∀ r ∈ w, ∀ x ∈ r, 0 ≤ x
theorem rle_add {a b c : Rat} (h : a ≤ b) : c + a ≤ c + b := Rat.add_le_add_left.2 h
theorem rnot {a b : Rat} (h : ¬ a < b) : b ≤ a := Rat.not_lt.1 h
theorem bit_or {u k j : Nat} : (u ||| 2 ^ k).testBit j = (u.testBit j || decide (k = j)) := by
  rw [Nat.testBit_or, Nat.testBit_two_pow]
abbrev blocked (r : List Rat) (u k : Nat) : Prop := u.testBit k = true ∨ r.getD k 0 = 0
theorem bstep_le {f : Nat → Rat} {r : List Rat} {u k : Nat} {b : Rat} : b ≤ bstep f r u k b := by
  unfold bstep
  split
  · exact Rat.le_refl
  · split
    · rename_i h; exact Rat.le_of_lt h
    · exact Rat.le_refl
theorem bloop_le {f : Nat → Rat} {r : List Rat} {u : Nat} {b : Rat} : ∀ n, b ≤ bloop f r u b n
  | 0 => Rat.le_refl
  | n + 1 => Rat.le_trans (bloop_le n) bstep_le
theorem bloop_mono {f : Nat → Rat} {r : List Rat} {u : Nat} {b : Rat} {k : Nat} : ∀ {n}, k ≤ n → bloop f r u b k ≤ bloop f r u b n
  | 0, h => by have : k = 0 := by omega
               subst this; exact Rat.le_refl
  | n + 1, h => by
    by_cases e : k = n + 1
    · subst e; exact Rat.le_refl
    · exact Rat.le_trans (bloop_mono (by omega)) bstep_le
theorem bstep_ge {f : Nat → Rat} {r : List Rat} {u k : Nat} {b : Rat} (h : ¬ blocked r u k) : r.getD k 0 + f (u ||| 2 ^ k) ≤ bstep f r u k b := by
  unfold bstep
  rw [if_neg h]
  split
  · exact Rat.le_refl
  · rename_i h2; exact rnot h2
theorem bloop_ge {f : Nat → Rat} {r : List Rat} {u : Nat} {b : Rat} {k n : Nat} (hk : k < n) (h : ¬ blocked r u k) : r.getD k 0 + f (u ||| 2 ^ k) ≤ bloop f r u b n :=
  Rat.le_trans (bstep_ge (b := bloop f r u b k) h) (bloop_mono (k := k + 1) hk)
theorem bloop_hit {f : Nat → Rat} {r : List Rat} {u : Nat} {b : Rat} : ∀ n, bloop f r u b n = b ∨ ∃ k, k < n ∧ ¬ blocked r u k ∧ bloop f r u b n = r.getD k 0 + f (u ||| 2 ^ k)
  | 0 => .inl rfl
  | n + 1 => by
    have ih := bloop_hit (f := f) (r := r) (u := u) (b := b) n
    have up : (bloop f r u b n = b ∨ ∃ k, k < n ∧ ¬ blocked r u k ∧ bloop f r u b n = r.getD k 0 + f (u ||| 2 ^ k)) → bloop f r u b n = b ∨ ∃ k, k < n + 1 ∧ ¬ blocked r u k ∧ bloop f r u b n = r.getD k 0 + f (u ||| 2 ^ k) := by
      rintro (h | ⟨k, a, c, d⟩)
      · exact .inl h
      · exact .inr ⟨k, by omega, c, d⟩
    simp only [bloop, bstep]
    split
    · exact up ih
    · rename_i h
      split
      · exact .inr ⟨n, Nat.lt_succ_self _, h, rfl⟩
      · exact up ih
theorem bst_anti : ∀ (rs : List (List Rat)) (u u' : Nat), (∀ j, u.testBit j = true → u'.testBit j = true) → bst rs u' ≤ bst rs u
  | [], _, _, _ => Rat.le_refl
  | r :: rs, u, u', h => by
    have ih := bst_anti rs
    simp only [bst]
    rcases bloop_hit (f := bst rs) (r := r) (u := u') (b := bst rs u') r.length with e | ⟨k, hk, hb, e⟩
    · rw [e]; exact Rat.le_trans (ih u u' h) (bloop_le _)
    · rw [e]
      have hb2 : ¬ blocked r u k := fun h2 => hb (h2.elim (fun h3 => .inl (h k h3)) .inr)
      refine Rat.le_trans (rle_add (ih (u ||| 2 ^ k) (u' ||| 2 ^ k) fun j hj => ?_)) (bloop_ge hk hb2)
      rw [bit_or] at hj ⊢
      rcases (Bool.or_eq_true _ _).mp hj with h1 | h1
      · rw [h j h1, Bool.true_or]
      · rw [h1, Bool.or_true]
theorem bst_take (rs : List (List Rat)) (u c : Nat) : bst rs (u ||| 2 ^ c) ≤ bst rs u := bst_anti rs u _ fun j hj => by rw [bit_or, hj, Bool.true_or]
theorem tot_le : ∀ (w : List (List Rat)) (u : Nat) (l : List Int), feas w u l → tot w l ≤ bst w u
  | [], _, [], _ => Rat.le_refl
  | [], _, _ :: _, h => h.elim
  | _ :: _, _, [], h => h.elim
  | r :: rs, u, k :: l, h => by
    simp only [feas] at h
    simp only [tot, bst]
    rcases h with ⟨rfl, h⟩ | ⟨c, rfl, hc, hu, h⟩
    · rw [if_neg (by decide), Rat.zero_add]
      exact Rat.le_trans (tot_le rs u l h) (bloop_le _)
    · rw [if_pos (by omega), Int.toNat_natCast]
      have ih := tot_le rs _ l h
      by_cases h0 : r.getD c 0 = 0
      · rw [h0, Rat.zero_add]
        exact Rat.le_trans ih (Rat.le_trans (bst_take rs u c) (bloop_le _))
      · exact Rat.le_trans (rle_add ih) (bloop_ge hc (fun hb => hb.elim hu h0))
theorem firstK_none {f : Nat → Rat} {r : List Rat} {u : Nat} {b : Rat} : ∀ {n k : Nat}, firstK f r u b k n = none → ∀ j, k ≤ j → j < k + n → ¬ okK f r u j b
  | 0, k, _, j, h1, h2 => by omega
  | n + 1, k, h, j, h1, h2 => by
    simp only [firstK] at h
    split at h
    · cases h
    · rename_i hno
      by_cases e : j = k
      · subst e; exact hno
      · exact firstK_none h j (by omega) (by omega)
/-- No weight that is taken is 0. -/
def taken : List (List Rat) → List Int → Prop
  | r :: rs, k :: l => (0 ≤ k → ¬ r.getD k.toNat 0 = 0) ∧ taken rs l
  | _, _ => True
theorem bestL_ok : ∀ (w : List (List Rat)) (u : Nat), feas w u (bestL w u) ∧ tot w (bestL w u) = bst w u ∧ taken w (bestL w u)
  | [], _ => ⟨trivial, rfl, trivial⟩
  | r :: rs, u => by
    simp only [bestL]
    cases h : firstK (bst rs) r u (bst (r :: rs) u) 0 r.length with
    | some k =>
      obtain ⟨_, h2, h3, h4, h5⟩ := firstK_lt h
      obtain ⟨i1, i2, i3⟩ := bestL_ok rs (u ||| 2 ^ k)
      refine ⟨.inr ⟨k, rfl, by omega, h3, i1⟩, ?_, fun _ => by rw [Int.toNat_natCast]; exact h4, i3⟩
      simp only [tot]
      rw [if_pos (by omega), Int.toNat_natCast, i2, h5]
    | none =>
      obtain ⟨i1, i2, i3⟩ := bestL_ok rs u
      refine ⟨.inl ⟨rfl, i1⟩, ?_, fun h => by omega, i3⟩
      simp only [tot]
      rw [if_neg (by decide), Rat.zero_add, i2]
      have hn := firstK_none h
      simp only [bst] at hn ⊢
      rcases bloop_hit (f := bst rs) (r := r) (u := u) (b := bst rs u) r.length with e | ⟨k, hk, hb, e⟩
      · exact e.symm
      · exact absurd ⟨fun h => hb (.inl h), fun h => hb (.inr h), e.symm⟩ (hn k (Nat.zero_le _) (by omega))
/-- The places of a list of columns, as a whole. -/
def plain (w : List (List Rat)) (u : Nat) (l : List Int) : Prop :=
  l.length = w.length ∧ (∀ i, i < l.length → -1 ≤ l.getD i 0 ∧ l.getD i 0 < ((w.getD i []).length : Nat)) ∧ (∀ i, i < l.length → 0 ≤ l.getD i 0 → ¬ u.testBit (l.getD i 0).toNat = true) ∧
    ∀ j, j < l.length → 0 ≤ l.getD j 0 → ∀ i, i < j → l.getD i 0 ≠ l.getD j 0
theorem feas_plain : ∀ (w : List (List Rat)) (u : Nat) (l : List Int), feas w u l ↔ plain w u l
  | [], u, [] => ⟨fun _ => ⟨rfl, by simp, by simp, by simp⟩, fun _ => trivial⟩
  | [], u, _ :: _ => ⟨fun h => h.elim, fun h => by have := h.1; simp at this⟩
  | _ :: _, u, [] => ⟨fun h => h.elim, fun h => by have := h.1; simp at this⟩
  | r :: rs, u, k :: l => by
    constructor
    · intro h
      simp only [feas] at h
      rcases h with ⟨rfl, h⟩ | ⟨c, rfl, hc, hu, h⟩
      · obtain ⟨p1, p2, p3, p4⟩ := (feas_plain rs u l).1 h
        refine ⟨by simp [p1], fun i hi => ?_, fun i hi h0 => ?_, fun j hj h0 i hij => ?_⟩
        · rcases i with _ | i
          · simp; omega
          · simpa using p2 i (by simpa using hi)
        · rcases i with _ | i
          · simp at h0
          · exact p3 i (by simpa using hi) (by simpa using h0)
        · rcases j with _ | j
          · omega
          · rcases i with _ | i
            · simp at h0 ⊢; omega
            · simpa using p4 j (by simpa using hj) (by simpa using h0) i (by omega)
      · obtain ⟨p1, p2, p3, p4⟩ := (feas_plain rs _ l).1 h
        refine ⟨by simp [p1], fun i hi => ?_, fun i hi h0 => ?_, fun j hj h0 i hij => ?_⟩
        · rcases i with _ | i
          · simp; omega
          · simpa using p2 i (by simpa using hi)
        · rcases i with _ | i
          · simp only [List.getD_cons_zero, Int.toNat_natCast]; exact hu
          · have := p3 i (by simpa using hi) (by simpa using h0)
            rw [bit_or] at this
            simp only [Bool.or_eq_true, not_or] at this
            exact this.1
        · rcases j with _ | j
          · omega
          · rcases i with _ | i
            · have := p3 j (by simpa using hj) (by simpa using h0)
              rw [bit_or] at this
              simp only [Bool.or_eq_true, not_or, decide_eq_true_eq] at this
              simp only [List.getD_cons_zero, List.getD_cons_succ] at h0 ⊢
              intro e
              exact this.2 (by omega)
            · simpa using p4 j (by simpa using hj) (by simpa using h0) i (by omega)
    · rintro ⟨p1, p2, p3, p4⟩
      have hk := p2 0 (by simp)
      simp only [List.getD_cons_zero] at hk
      simp only [feas]
      have rest : ∀ v, (∀ i, i < l.length → 0 ≤ l.getD i 0 → ¬ v.testBit (l.getD i 0).toNat = true) → feas rs v l := fun v hv =>
        (feas_plain rs v l).2 ⟨by simpa using p1, fun i hi => by simpa using p2 (i + 1) (by simpa using hi), hv,
          fun j hj h0 i hij => by simpa using p4 (j + 1) (by simpa using hj) (by simpa using h0) (i + 1) (by omega)⟩
      by_cases h0 : 0 ≤ k
      · obtain ⟨c, rfl⟩ : ∃ c : Nat, k = c := ⟨k.toNat, by omega⟩
        have hu := p3 0 (by simp) (by simpa using h0)
        simp only [List.getD_cons_zero, Int.toNat_natCast] at hu
        refine .inr ⟨c, rfl, by omega, hu, rest _ fun i hi h1 => ?_⟩
        have q1 := p3 (i + 1) (by simpa using hi) (by simpa using h1)
        have q2 := p4 (i + 1) (by simpa using hi) (by simpa using h1) 0 (by omega)
        simp only [List.getD_cons_zero, List.getD_cons_succ] at q1 q2
        rw [bit_or]
        simp only [Bool.or_eq_true, not_or, decide_eq_true_eq]
        exact ⟨q1, fun e => q2 (by omega)⟩
      · exact .inl ⟨by omega, rest u fun i hi h1 => by simpa using p3 (i + 1) (by simpa using hi) (by simpa using h1)⟩
theorem sumW_cons {r : List Rat} {rs : List (List Rat)} {k : Int} {l : List Int} : ∀ n, sumW (r :: rs) (k :: l) (n + 1) = lEnt (r :: rs) (k :: l) 0 + sumW rs l n
  | 0 => by simp only [sumW]; rw [Rat.zero_add, Rat.add_zero]
  | n + 1 => by
    rw [sumW, sumW_cons n, sumW, Rat.add_assoc]
    rfl
theorem sumW_tot : ∀ (w : List (List Rat)) (l : List Int), l.length = w.length → sumW w l l.length = tot w l
  | [], [], _ => rfl
  | [], _ :: _, h => by simp at h
  | _ :: _, [], h => by simp at h
  | r :: rs, k :: l, h => by
    rw [List.length_cons, sumW_cons, sumW_tot rs l (by simpa using h)]
    rfl
theorem not_zero (w : List (List Rat)) : ∀ (l : List Int) (i : Nat), l.length = w.length → taken w l → i < l.length → 0 ≤ l.getD i 0 → ¬ (w.getD i []).getD (l.getD i 0).toNat 0 = 0 := by
  induction w with
  | nil => intro l i hl _ hi; rw [hl] at hi; simp at hi
  | cons r rs ih =>
    intro l i hl ht hi h0
    cases l with
    | nil => simp at hl
    | cons k l =>
      simp only [taken] at ht
      rcases i with _ | i
      · exact ht.1 h0
      · exact ih l i (by simpa using hl) ht.2 (by simpa using hi) h0
/-- What is said of the best assignment: its weight is told, and no other is heavier. -/
theorem best_weight {w : List (List Rat)} (hv : validE w = 0) : weightR w (bestL w 0) = .tup [Frac (bst w 0), .int .i64 0] := by
  obtain ⟨f, t, _⟩ := bestL_ok w 0
  obtain ⟨p1, p2, p3, p4⟩ := (feas_plain w 0 _).1 f
  rw [wr_e hv p1 (not_bad p2) (no_dup p4), sumW_tot w _ p1, t]
theorem best_most {w : List (List Rat)} {l : List Int} : (∃ d : Int × Int, weightR w l = .tup [FracI d.1 d.2, .int .i64 0] ∧ ∃ s, FracI d.1 d.2 = Frac s ∧ s = sumW w l l.length ∧ s ≤ bst w 0) ∨ ∃ e, e ≠ 0 ∧ ∃ n d, weightR w l = .tup [FracI n d, .int .i64 e] ∧ n = 0 ∧ d = 0 := by
  by_cases hv : validE w = 0
  · by_cases h1 : l.length = w.length
    · by_cases h2 : badE w l
      · exact .inr ⟨2, by decide, 0, 0, by rw [wr_c hv h1 h2, Zf_I], rfl, rfl⟩
      · by_cases h3 : dupE l
        · exact .inr ⟨6, by decide, 0, 0, by rw [wr_d hv h1 h2 h3, Zf_I], rfl, rfl⟩
        · left
          have hp : plain w 0 l := by
            refine ⟨h1, fun i hi => ?_, fun i hi h0 => by simp, fun j hj h0 i hij he => h3 ⟨j, hj, i, hij, h0, he⟩⟩
            by_cases h4 : l.getD i 0 < -1 ∨ (((w.getD i []).length : Nat) : Int) ≤ l.getD i 0
            · exact absurd ⟨i, hi, h4⟩ h2
            · omega
          refine ⟨((sumW w l l.length).num, (sumW w l l.length).den), by rw [wr_e hv h1 h2 h3, Frac_I], _, (Frac_I _).symm, rfl, ?_⟩
          rw [sumW_tot w l h1]
          exact tot_le w 0 l ((feas_plain w 0 l).2 hp)
    · exact .inr ⟨1, by decide, 0, 0, by rw [wr_b hv h1, Zf_I], rfl, rfl⟩
  · exact .inr ⟨validE w, hv, 0, 0, by rw [wr_a hv, Zf_I], rfl, rfl⟩
end Go.Proofs.YtkppgdialedoeaaDoor

namespace Go.Proofs.YtkppgdialedoeaaDoor
open Go Go.Proofs Go.Abs
variable {G : Globals}
/-! The reference's best weight: the columns that are left are told, and weights of 0 are tried. -/
theorem bitsL : ∀ u : Fin 256, ∀ k : Fin 8, ((255 - u.val) / 2 ^ k.val % 2 = 1 ↔ ¬ u.val.testBit k.val = true) ∧ bitsI .andNot .i64 (((255 - u.val : Nat) : Int)) ((2 ^ k.val : Nat) : Int) = ((255 - (u.val ||| 2 ^ k.val) : Nat) : Int) := by decide +kernel
theorem left_t {u k : Nat} (hu : u < 256) (hk : k < 8) (h : ¬ u.testBit k = true) : (255 - u) / 2 ^ k % 2 = 1 := ((bitsL ⟨u, hu⟩ ⟨k, hk⟩).1).2 h
theorem left_f {u k : Nat} (hu : u < 256) (hk : k < 8) (h : u.testBit k = true) : (255 - u) / 2 ^ k % 2 = 0 := by
  rcases Nat.mod_two_eq_zero_or_one ((255 - u) / 2 ^ k) with e | e
  · exact e
  · exact absurd h (((bitsL ⟨u, hu⟩ ⟨k, hk⟩).1).1 e)
theorem left_clr {u k : Nat} (hu : u < 256) (hk : k < 8) : bitsI .andNot .i64 (((255 - u : Nat) : Int)) ((2 ^ k : Nat) : Int) = ((255 - (u ||| 2 ^ k) : Nat) : Int) := (bitsL ⟨u, hu⟩ ⟨k, hk⟩).2
def rstepF (f : FM) (r : List Rat) (u k : Nat) (s : Rat × Memo) : Rat × Memo :=
  if u.testBit k = true then s else (if s.1 < r.getD k 0 + (f (u ||| 2 ^ k) s.2).1 then r.getD k 0 + (f (u ||| 2 ^ k) s.2).1 else s.1, (f (u ||| 2 ^ k) s.2).2)
def rloopF (f : FM) (r : List Rat) (u : Nat) (s : Rat × Memo) : Nat → Rat × Memo
  | 0 => s
  | k + 1 => rstepF f r u k (rloopF f r u s k)
def rF (w : List (List Rat)) : Nat → Nat → FM
  | 0, _ => fun _ m => (0, m)
  | n + 1, i => fun u m => match lookM i (255 - u) m with
    | some x => (x.2, m)
    | none => ((rloopF (rF w n (i + 1)) (w.getD i []) u (rF w n (i + 1) u m) (w.getD i []).length).1, updM (rloopF (rF w n (i + 1)) (w.getD i []) u (rF w n (i + 1) u m) (w.getD i []).length).2 i (255 - u)
        (rloopF (rF w n (i + 1)) (w.getD i []) u (rF w n (i + 1) u m) (w.getD i []).length).1)
def InvR (w : List (List Rat)) (m : Memo) : Prop := ∀ i u x, ((i, 255 - u), x) ∈ m → u < 256 → x = bst (w.drop i) u
theorem InvR.nil {w : List (List Rat)} : InvR w [] := fun _ _ _ h => by cases h
theorem rloopF_ok {w : List (List Rat)} {f : FM} {g : Nat → Rat} {r : List Rat} {u : Nat} (hu : u < 256) (hr8 : r.length ≤ 8) (hg : ∀ k, g (u ||| 2 ^ k) ≤ g u) (hf : ∀ u m, u < 256 → InvR w m → (f u m).1 = g u ∧ InvR w (f u m).2)
    {s : Rat × Memo} (h1 : s.1 = g u) (h2 : InvR w s.2) : ∀ k, k ≤ r.length → (rloopF f r u s k).1 = bloop g r u (g u) k ∧ InvR w (rloopF f r u s k).2
  | 0, _ => ⟨h1, h2⟩
  | k + 1, hk => by
    obtain ⟨i1, i2⟩ := rloopF_ok hu hr8 hg hf (r := r) h1 h2 k (by omega)
    simp only [rloopF, bloop, rstepF, bstep]
    by_cases hb : u.testBit k = true
    · rw [if_pos hb, if_pos (.inl hb)]; exact ⟨i1, i2⟩
    · obtain ⟨j1, j2⟩ := hf (u ||| 2 ^ k) _ (bit_lt hu (by omega)) i2
      rw [if_neg hb, i1, j1]
      refine ⟨?_, j2⟩
      simp only
      by_cases hz : r.getD k 0 = 0
      · rw [if_pos (show u.testBit k = true ∨ r.getD k 0 = 0 from Or.inr hz), hz, Rat.zero_add, if_neg (Rat.not_lt.2 (Rat.le_trans (hg k) (bloop_le k)))]
      · rw [if_neg (show ¬ (u.testBit k = true ∨ r.getD k 0 = 0) from fun h => h.elim hb hz)]
theorem rF_ok {w : List (List Rat)} (hr8 : ∀ i, (w.getD i []).length ≤ 8) : ∀ (n i u : Nat) (m : Memo), i + n = w.length → u < 256 → InvR w m → (rF w n i u m).1 = bst (w.drop i) u ∧ InvR w (rF w n i u m).2
  | 0, i, u, m, hi, hu, hm => by
    rw [List.drop_of_length_le (by omega)]
    exact ⟨rfl, hm⟩
  | n + 1, i, u, m, hi, hu, hm => by
    have ih := fun u m hu (hm : InvR w m) => rF_ok hr8 n (i + 1) u m (by omega) hu hm
    rw [drop_getD (by omega)]
    simp only [rF]
    cases hl : lookM i (255 - u) m with
    | some x =>
      have := hm i u x.2 (lookM_mem hl) hu
      rw [drop_getD (by omega)] at this
      exact ⟨this, hm⟩
    | none =>
      obtain ⟨k1, k2⟩ := rloopF_ok hu (hr8 i) (fun k => bst_take (w.drop (i + 1)) u k) ih (r := w.getD i []) (ih u m hu hm).1 (ih u m hu hm).2 (w.getD i []).length (Nat.le_refl _)
      refine ⟨k1, fun i' u' x' h hu' => ?_⟩
      rcases updM_mem h with h | h
      · exact k2 i' u' x' h hu'
      · simp only [Prod.mk.injEq] at h
        obtain ⟨⟨rfl, he⟩, rfl⟩ := h
        have : u' = u := by omega
        subst this
        rw [k1, drop_getD (w := w) (i := i') (by omega)]; rfl
set_option maxHeartbeats 4000000 in
set_option maxRecDepth 100000 in
theorem rbest_spec (hG : HG G) (w : List (List Rat)) (hw : Wok w) (h8 : w.length ≤ 8) (hr8 : ∀ i, (w.getD i []).length ≤ 8) : ∀ (n i u : Nat) (m : Memo), i + n = w.length → u < 256 → InvR w m →
    Ctr Tryd.prog G 49 [.d (Mx w), .d (.int .i64 i), .d (.int .i64 (255 - u : Nat)), .mp 0] [.map (enc m)] (.d (Frac (rF w n i u m).1)) [.map (enc (rF w n i u m).2)]
  | 0, i, u, m, hi, hu, hm => by
    have ei : i = w.length := by omega
    have ml := @MxL_length w
    refine Ctr.body (M := M0) hmix Tryd.func49 rfl go49 ?_
    simp (config := { maxSteps := 1000000 }) (disch := ((try simp only [awL]); omega)) only [Tryd.f49, ↓awU, awV, awF, ofVal, ofVal0, isShift, aggK, forall_const, ↓reduceIte, ↓reduceDIte, ↓purePost, combine, idsA, cellsA, srcA, calleeA, refsA, isScalar, scalarD, scalar0, AV.one, putL, unfA, implies_true, IntKind.signed, Nat.reduceAdd, Nat.reduceSub, Nat.reduceMul, Nat.reducePow, Nat.reduceDiv, Nat.reduceMod, Int.reduceAdd, Int.reduceSub, Int.reduceMul, Int.reducePow, Int.reduceNeg, Int.reduceToNat, Int.reduceLT, Int.reduceLE, Nat.reduceEqDiff, sidsB, Nat.reduceBEq, keyKD, isIntK]
    refine CallC.pure rzero_spec ?_
    simp (config := { maxSteps := 1000000 }) (disch := ((try simp only [awL]); omega)) only [rF, ↓awU, awV, awF, ofVal, ofVal0, isShift, aggK, forall_const, ↓reduceIte, ↓reduceDIte, ↓purePost, combine, idsA, cellsA, srcA, calleeA, refsA, isScalar, scalarD, scalar0, AV.one, putL, unfA, implies_true, IntKind.signed, Nat.reduceAdd, Nat.reduceSub, Nat.reduceMul, Nat.reducePow, Nat.reduceDiv, Nat.reduceMod, Int.reduceAdd, Int.reduceSub, Int.reduceMul, Int.reducePow, Int.reduceNeg, Int.reduceToNat, Int.reduceLT, Int.reduceLE, Nat.reduceEqDiff, sidsB, Nat.reduceBEq, keyKD, isIntK]
    refine ⟨[some 0], rfl, by simp, by simp [HWeak, BWeak, SWeak, AWeak], .inr ⟨_, rfl, ?_, rfl⟩⟩
    simp (config := { maxSteps := 1000000 }) (disch := ((try simp only [awL]); omega)) only [↓awU, awV, awF, ofVal, ofVal0, isShift, aggK, forall_const, ↓reduceIte, ↓reduceDIte, ↓purePost, combine, idsA, cellsA, srcA, calleeA, refsA, isScalar, scalarD, scalar0, AV.one, putL, unfA, implies_true, IntKind.signed, Nat.reduceAdd, Nat.reduceSub, Nat.reduceMul, Nat.reducePow, Nat.reduceDiv, Nat.reduceMod, Int.reduceAdd, Int.reduceSub, Int.reduceMul, Int.reducePow, Int.reduceNeg, Int.reduceToNat, Int.reduceLT, Int.reduceLE, Nat.reduceEqDiff, sidsB, Nat.reduceBEq, keyKD, isIntK]
  | n + 1, i, u, m, hi, hu, hm => by
    have ih := fun (u' : Nat) (m' : Memo) (hu' : u' < 256) (hm' : InvR w m') => rbest_spec hG w hw h8 hr8 n (i + 1) u' m' (by omega) hu' hm'
    have iv := fun (u' : Nat) (m' : Memo) hu' (hm' : InvR w m') => rF_ok hr8 n (i + 1) u' m' (by omega) hu' hm'
    have bs := fun u' => bst_Sm (w.drop (i + 1)) (fun r hr => hw.sm r (List.mem_of_mem_drop hr)) u'
    have hil : i < w.length := by omega
    have h8i := hr8 i
    have ml := @MxL_length w
    have smf : ∀ (u' : Nat) (m' : Memo), u' < 256 → InvR w m' → Sm 8000 (rF w n (i + 1) u' m').1 := fun u' m' hu' hm' => by
      rw [(iv u' m' hu' hm').1]; exact (bs u').mono (by rw [List.length_drop]; omega)
    refine Ctr.body (M := M0) hmix Tryd.func49 rfl go49 ?_
    generalize hL : 255 - u = L at *
    cases hl : lookM i L m with
    | some x =>
      have hf : findE (mkey i L) (enc m) = some (x.1, Frac x.2) := by rw [findE_enc, hl]; rfl
      have e1 : rF w (n + 1) i u m = (x.2, m) := by simp only [rF, hL, hl]
      rw [e1]
      simp (config := { maxSteps := 1000000 }) (disch := ((try simp only [awL]); omega)) only [Tryd.f49, enc_ok, lookV, hf, Option.getD_some, ↓awU, awV, awF, ofVal, ofVal0, isShift, aggK, forall_const, ↓reduceIte, ↓reduceDIte, ↓purePost, combine, idsA, cellsA, srcA, calleeA, refsA, isScalar, scalarD, scalar0, AV.one, putL, unfA, implies_true, IntKind.signed, Nat.reduceAdd, Nat.reduceSub, Nat.reduceMul, Nat.reducePow, Nat.reduceDiv, Nat.reduceMod, Int.reduceAdd, Int.reduceSub, Int.reduceMul, Int.reducePow, Int.reduceNeg, Int.reduceToNat, Int.reduceLT, Int.reduceLE, Nat.reduceEqDiff, sidsB, Nat.reduceBEq, keyKD, isIntK]
      refine ⟨[some 0], rfl, by simp, by simp [HWeak, BWeak, SWeak, AWeak], .inr ⟨_, rfl, ?_, rfl⟩⟩
      simp (config := { maxSteps := 1000000 }) (disch := ((try simp only [awL]); omega)) only [↓awU, awV, awF, ofVal, ofVal0, isShift, aggK, forall_const, ↓reduceIte, ↓reduceDIte, ↓purePost, combine, idsA, cellsA, srcA, calleeA, refsA, isScalar, scalarD, scalar0, AV.one, putL, unfA, implies_true, IntKind.signed, Nat.reduceAdd, Nat.reduceSub, Nat.reduceMul, Nat.reducePow, Nat.reduceDiv, Nat.reduceMod, Int.reduceAdd, Int.reduceSub, Int.reduceMul, Int.reducePow, Int.reduceNeg, Int.reduceToNat, Int.reduceLT, Int.reduceLE, Nat.reduceEqDiff, sidsB, Nat.reduceBEq, keyKD, isIntK]
    | none =>
      have hf : findE (mkey i L) (enc m) = none := by rw [findE_enc, hl]; rfl
      generalize hr : w.getD i [] = r at *
      have hS : ∀ k, k ≤ r.length → (rloopF (rF w n (i + 1)) r u (rF w n (i + 1) u m) k).1 = bloop (bst (w.drop (i + 1))) r u (bst (w.drop (i + 1)) u) k ∧ InvR w (rloopF (rF w n (i + 1)) r u (rF w n (i + 1) u m) k).2 :=
        rloopF_ok hu h8i (fun k => bst_take (w.drop (i + 1)) u k) iv (iv u m hu hm).1 (iv u m hu hm).2
      have hrm : ∀ k, k < r.length → Sm 1000 (r.getD k 0) := fun k hk => hw.sm r (hr ▸ mem_getD hil) _ (mem_getD hk)
      have hSm : ∀ k, k ≤ r.length → Sm 9000 (rloopF (rF w n (i + 1)) r u (rF w n (i + 1) u m) k).1 := fun k hk => by
        rw [(hS k hk).1]
        refine (bloop_Sm (n := 8000) (fun u' => (bs u').mono (by rw [List.length_drop]; omega)) (fun j => ?_) ((bs u).mono (by rw [List.length_drop]; omega)) k)
        rcases Nat.lt_or_ge j r.length with hj | hj
        · exact hrm j hj
        · rw [List.getD_eq_getElem?_getD, List.getElem?_eq_none hj]; exact Sm.zero.mono (by decide)
      have e1 : rF w (n + 1) i u m = ((rloopF (rF w n (i + 1)) r u (rF w n (i + 1) u m) r.length).1, updM (rloopF (rF w n (i + 1)) r u (rF w n (i + 1) u m) r.length).2 i L (rloopF (rF w n (i + 1)) r u (rF w n (i + 1) u m) r.length).1) := by
        simp only [rF, hL, hl, hr]
      rw [e1]
      have hstep : ∀ k, rloopF (rF w n (i + 1)) r u (rF w n (i + 1) u m) (k + 1) = rstepF (rF w n (i + 1)) r u k (rloopF (rF w n (i + 1)) r u (rF w n (i + 1) u m) k) := fun k => rfl
      have hS0 : rloopF (rF w n (i + 1)) r u (rF w n (i + 1) u m) 0 = rF w n (i + 1) u m := rfl
      simp (config := { maxSteps := 1000000 }) (disch := ((try simp only [awL]); omega)) only [Tryd.f49, enc_ok, lookV, hf, Option.getD_some, ↓awU, awV, awF, ofVal, ofVal0, isShift, aggK, forall_const, ↓reduceIte, ↓reduceDIte, ↓purePost, combine, idsA, cellsA, srcA, calleeA, refsA, isScalar, scalarD, scalar0, AV.one, putL, unfA, implies_true, IntKind.signed, Nat.reduceAdd, Nat.reduceSub, Nat.reduceMul, Nat.reducePow, Nat.reduceDiv, Nat.reduceMod, Int.reduceAdd, Int.reduceSub, Int.reduceMul, Int.reducePow, Int.reduceNeg, Int.reduceToNat, Int.reduceLT, Int.reduceLE, Nat.reduceEqDiff, sidsB, Nat.reduceBEq, keyKD, isIntK]
      refine CallC.by (ih u m hu hm) (by rw [hL]) rfl (Nat.le_refl _) ?_
      simp (config := { maxSteps := 1000000 }) (disch := ((try simp only [awL]); omega)) only [ml, MxL_get, hr, ↓awU, awV, awF, ofVal, ofVal0, isShift, aggK, forall_const, ↓reduceIte, ↓reduceDIte, ↓purePost, combine, idsA, cellsA, srcA, calleeA, refsA, isScalar, scalarD, scalar0, AV.one, putL, unfA, implies_true, IntKind.signed, Nat.reduceAdd, Nat.reduceSub, Nat.reduceMul, Nat.reducePow, Nat.reduceDiv, Nat.reduceMod, Int.reduceAdd, Int.reduceSub, Int.reduceMul, Int.reducePow, Int.reduceNeg, Int.reduceToNat, Int.reduceLT, Int.reduceLE, Nat.reduceEqDiff, sidsB, Nat.reduceBEq, keyKD, isIntK]
      generalize hSg : rloopF (rF w n (i + 1)) r u (rF w n (i + 1) u m) = S at *
      rw [← hS0]
      refine LoopC.fr 6597069771535 (α := Nat) (fun k => r.length - k) (fun k => [(43, .d (.int .i64 k))])
        (fun k => [.map (enc (S k).2), .box [.d (.bool false), .d (.sl 0 true []), .d (.bool false), .d (.sl 0 true [])], .box [.d (.int .i64 i), .d (.int .i64 L)], .dead,
          .box [.d (.bool (decide ((S k).1.num < 0))), .d (W (toW (S k).1.num.natAbs)), .d (.bool false), .d (W (toW (S k).1.den))]])
        (fun k => k ≤ r.length) 0 (Nat.zero_le _) ?_ ?_
      · exact ⟨[some 0, some 1, some 2, some 3, some 4], rfl, by simp, by simp [setsA, keepA, SWeak, AWeak], by simp [HWeak, BWeak, SWeak, AWeak]⟩
      · intro k hk
        simp only [keepA_z8, keepA_z, keepA_cons, keepA_nil, setsA_nil, setsA_cons, List.set_cons_zero, List.set_cons_succ, set_8, Nat.reduceMod, Nat.reduceDiv, Nat.zero_mod, Nat.zero_ne_one, if_true, if_false, reduceIte]
        have fl := @Fr_length r
        rcases Nat.lt_or_ge k r.length with h1 | h1
        · have hk8 : k < 8 := by omega
          have hm2 : (2 : Int) ^ k = ((2 ^ k : Nat) : Int) := by simp
          have hmin : min k 64 = k := by omega
          have hle := Nat.div_le_self L (2 ^ k)
          have hp8 : 2 ^ k < 2 ^ 62 := Nat.pow_lt_pow_right (by decide) (by omega)
          have ha1 := and1_i64 (a := L / 2 ^ k) (by omega)
          have hwr : IntKind.i64.wrap ((2 ^ k : Nat) : Int) = ((2 ^ k : Nat) : Int) := by generalize 2 ^ k = q at hp8 ⊢; exact wr_i64 (by omega) (by omega)
          have hclr := left_clr hu hk8
          rw [hL] at hclr
          by_cases hb : u.testBit k = true
          · have hb2 := left_f hu hk8 hb
            rw [hL] at hb2
            have e3 : S (k + 1) = S k := by rw [hstep, rstepF, if_pos hb]
            simp (config := { maxSteps := 1000000 }) (disch := ((try simp only [awL]); omega)) only [fl, Fr_get, hm2, hmin, fdiv_nat, ha1, hb2, ↓awU, awV, awF, ofVal, ofVal0, isShift, aggK, forall_const, ↓reduceIte, ↓reduceDIte, ↓purePost, combine, idsA, cellsA, srcA, calleeA, refsA, isScalar, scalarD, scalar0, AV.one, putL, unfA, implies_true, IntKind.signed, Nat.reduceAdd, Nat.reduceSub, Nat.reduceMul, Nat.reducePow, Nat.reduceDiv, Nat.reduceMod, Int.reduceAdd, Int.reduceSub, Int.reduceMul, Int.reducePow, Int.reduceNeg, Int.reduceToNat, Int.reduceLT, Int.reduceLE, Nat.reduceEqDiff, sidsB, Nat.reduceBEq, keyKD, isIntK]
            refine ⟨k + 1, h1, by simp only; omega, [some 0, some 1, some 2, some 3, some 4], rfl, by simp, by simp [setsA, keepA, SWeak, AWeak], ?_⟩
            simp only [e3]
            simp [HWeak, BWeak, SWeak, AWeak]
          · have hb2 := left_t hu hk8 hb
            rw [hL] at hb2
            have hlt := bit_lt hu hk8
            simp (config := { maxSteps := 1000000 }) (disch := ((try simp only [awL]); omega)) only [fl, Fr_get, hm2, hmin, fdiv_nat, ha1, hb2, hwr, hclr, Int.one_mul, ↓awU, awV, awF, ofVal, ofVal0, isShift, aggK, forall_const, ↓reduceIte, ↓reduceDIte, ↓purePost, combine, idsA, cellsA, srcA, calleeA, refsA, isScalar, scalarD, scalar0, AV.one, putL, unfA, implies_true, IntKind.signed, Nat.reduceAdd, Nat.reduceSub, Nat.reduceMul, Nat.reducePow, Nat.reduceDiv, Nat.reduceMod, Int.reduceAdd, Int.reduceSub, Int.reduceMul, Int.reducePow, Int.reduceNeg, Int.reduceToNat, Int.reduceLT, Int.reduceLE, Nat.reduceEqDiff, sidsB, Nat.reduceBEq, keyKD, isIntK]
            refine CallC.by (ih (u ||| 2 ^ k) (S k).2 hlt (hS k hk).2) rfl rfl (Nat.le_refl _) ?_
            have hy := smf (u ||| 2 ^ k) (S k).2 hlt (hS k hk).2
            have hx := hrm k h1
            simp (config := { maxSteps := 1000000 }) (disch := ((try simp only [awL]); omega)) only [fl, Fr_get, ↓awU, awV, awF, ofVal, ofVal0, isShift, aggK, forall_const, ↓reduceIte, ↓reduceDIte, ↓purePost, combine, idsA, cellsA, srcA, calleeA, refsA, isScalar, scalarD, scalar0, AV.one, putL, unfA, implies_true, IntKind.signed, Nat.reduceAdd, Nat.reduceSub, Nat.reduceMul, Nat.reducePow, Nat.reduceDiv, Nat.reduceMod, Int.reduceAdd, Int.reduceSub, Int.reduceMul, Int.reducePow, Int.reduceNeg, Int.reduceToNat, Int.reduceLT, Int.reduceLE, Nat.reduceEqDiff, sidsB, Nat.reduceBEq, keyKD, isIntK]
            refine CallC.pure (radd23_spec _ _ (hx.FV (by decide)) (hy.FV (by decide)) ((hx.add hy).FV (by decide))) ?_
            simp (config := { maxSteps := 1000000 }) (disch := ((try simp only [awL]); omega)) only [↓awU, awV, awF, ofVal, ofVal0, isShift, aggK, forall_const, ↓reduceIte, ↓reduceDIte, ↓purePost, combine, idsA, cellsA, srcA, calleeA, refsA, isScalar, scalarD, scalar0, AV.one, putL, unfA, implies_true, IntKind.signed, Nat.reduceAdd, Nat.reduceSub, Nat.reduceMul, Nat.reducePow, Nat.reduceDiv, Nat.reduceMod, Int.reduceAdd, Int.reduceSub, Int.reduceMul, Int.reducePow, Int.reduceNeg, Int.reduceToNat, Int.reduceLT, Int.reduceLE, Nat.reduceEqDiff, sidsB, Nat.reduceBEq, keyKD, isIntK]
            refine ⟨by rfl, ?_⟩
            refine CallC.pure (less_spec _ _ ((hSm k hk).FV (by decide)) ((hx.add hy).FV (by decide))) ?_
            by_cases hlt2 : (S k).1 < r.getD k 0 + (rF w n (i + 1) (u ||| 2 ^ k) (S k).2).1
            · have e3 : S (k + 1) = (r.getD k 0 + (rF w n (i + 1) (u ||| 2 ^ k) (S k).2).1, (rF w n (i + 1) (u ||| 2 ^ k) (S k).2).2) := by rw [hstep, rstepF, if_neg hb, if_pos hlt2]
              rw [decide_eq_true hlt2]
              simp (config := { maxSteps := 1000000 }) (disch := ((try simp only [awL]); omega)) only [↓awU, awV, awF, ofVal, ofVal0, isShift, aggK, forall_const, ↓reduceIte, ↓reduceDIte, ↓purePost, combine, idsA, cellsA, srcA, calleeA, refsA, isScalar, scalarD, scalar0, AV.one, putL, unfA, implies_true, IntKind.signed, Nat.reduceAdd, Nat.reduceSub, Nat.reduceMul, Nat.reducePow, Nat.reduceDiv, Nat.reduceMod, Int.reduceAdd, Int.reduceSub, Int.reduceMul, Int.reducePow, Int.reduceNeg, Int.reduceToNat, Int.reduceLT, Int.reduceLE, Nat.reduceEqDiff, sidsB, Nat.reduceBEq, keyKD, isIntK]
              refine ⟨k + 1, h1, by simp only; omega, [some 0, some 1, some 2, some 3, some 4], rfl, by simp, by simp [setsA, keepA, SWeak, AWeak], ?_⟩
              simp only [e3]
              simp [HWeak, BWeak, SWeak, AWeak]
            · have e3 : S (k + 1) = ((S k).1, (rF w n (i + 1) (u ||| 2 ^ k) (S k).2).2) := by rw [hstep, rstepF, if_neg hb, if_neg hlt2]
              rw [decide_eq_false hlt2]
              simp (config := { maxSteps := 1000000 }) (disch := ((try simp only [awL]); omega)) only [↓awU, awV, awF, ofVal, ofVal0, isShift, aggK, forall_const, ↓reduceIte, ↓reduceDIte, ↓purePost, combine, idsA, cellsA, srcA, calleeA, refsA, isScalar, scalarD, scalar0, AV.one, putL, unfA, implies_true, IntKind.signed, Nat.reduceAdd, Nat.reduceSub, Nat.reduceMul, Nat.reducePow, Nat.reduceDiv, Nat.reduceMod, Int.reduceAdd, Int.reduceSub, Int.reduceMul, Int.reducePow, Int.reduceNeg, Int.reduceToNat, Int.reduceLT, Int.reduceLE, Nat.reduceEqDiff, sidsB, Nat.reduceBEq, keyKD, isIntK]
              refine ⟨k + 1, h1, by simp only; omega, [some 0, some 1, some 2, some 3, some 4], rfl, by simp, by simp [setsA, keepA, SWeak, AWeak], ?_⟩
              simp only [e3]
              simp [HWeak, BWeak, SWeak, AWeak]
        · have ek : k = r.length := by omega
          subst ek
          have hue : updE (enc (S r.length).2) (.agg [.int .i64 i, .int .i64 L]) (.agg [.bool (decide ((S r.length).1.num < 0)), W (toW (S r.length).1.num.natAbs), .bool false, W (toW (S r.length).1.den)]) = enc (updM (S r.length).2 i L (S r.length).1) := updE_enc
          simp (config := { maxSteps := 1000000 }) (disch := ((try simp only [awL]); omega)) only [enc_ok, hue, Option.getD_some, ↓awU, awV, awF, ofVal, ofVal0, isShift, aggK, forall_const, ↓reduceIte, ↓reduceDIte, ↓purePost, combine, idsA, cellsA, srcA, calleeA, refsA, isScalar, scalarD, scalar0, AV.one, putL, unfA, implies_true, IntKind.signed, Nat.reduceAdd, Nat.reduceSub, Nat.reduceMul, Nat.reducePow, Nat.reduceDiv, Nat.reduceMod, Int.reduceAdd, Int.reduceSub, Int.reduceMul, Int.reducePow, Int.reduceNeg, Int.reduceToNat, Int.reduceLT, Int.reduceLE, Nat.reduceEqDiff, sidsB, Nat.reduceBEq, keyKD, isIntK]
          refine ⟨[some 0], rfl, by simp, by simp [HWeak, BWeak, SWeak, AWeak], .inr ⟨_, rfl, ?_, rfl⟩⟩
          simp (config := { maxSteps := 1000000 }) (disch := ((try simp only [awL]); omega)) only [↓awU, awV, awF, ofVal, ofVal0, isShift, aggK, forall_const, ↓reduceIte, ↓reduceDIte, ↓purePost, combine, idsA, cellsA, srcA, calleeA, refsA, isScalar, scalarD, scalar0, AV.one, putL, unfA, implies_true, IntKind.signed, Nat.reduceAdd, Nat.reduceSub, Nat.reduceMul, Nat.reducePow, Nat.reduceDiv, Nat.reduceMod, Int.reduceAdd, Int.reduceSub, Int.reduceMul, Int.reducePow, Int.reduceNeg, Int.reduceToNat, Int.reduceLT, Int.reduceLE, Nat.reduceEqDiff, sidsB, Nat.reduceBEq, keyKD, isIntK]
end Go.Proofs.YtkppgdialedoeaaDoor

namespace Go.Proofs.YtkppgdialedoeaaDoor
open Go Go.Proofs Go.Abs
variable {G : Globals}
/-- The column that a row takes, and what is used then. -/
def takeK (w : List (List Rat)) (i u : Nat) : Int := match firstK (bst (w.drop (i + 1))) (w.getD i []) u (bst (w.drop i) u) 0 (w.getD i []).length with | some k => k | none => -1
def useK (u : Nat) (k : Int) : Nat := if 0 ≤ k then u ||| 2 ^ k.toNat else u
theorem bestL_takeK {w : List (List Rat)} {i u : Nat} (h : i < w.length) : bestL (w.drop i) u = takeK w i u :: bestL (w.drop (i + 1)) (useK u (takeK w i u)) := by
  rw [drop_getD h]
  simp only [bestL, takeK, ← drop_getD h]
  cases firstK (bst (w.drop (i + 1))) (w.getD i []) u (bst (w.drop i) u) 0 (w.getD i []).length with
  | none => simp [useK]
  | some k => simp [useK]
theorem bst_takeK {w : List (List Rat)} {i u : Nat} (h : i < w.length) : bst (w.drop (i + 1)) (useK u (takeK w i u)) = if 0 ≤ takeK w i u then bst (w.drop i) u - (w.getD i []).getD (takeK w i u).toNat 0 else bst (w.drop i) u := by
  unfold takeK
  cases hf : firstK (bst (w.drop (i + 1))) (w.getD i []) u (bst (w.drop i) u) 0 (w.getD i []).length with
  | none =>
    simp only [useK]
    rw [if_neg (by decide), if_neg (by decide)]
    have hn := firstK_none hf
    rw [drop_getD h]
    rcases bloop_hit (f := bst (w.drop (i + 1))) (r := w.getD i []) (u := u) (b := bst (w.drop (i + 1)) u) (w.getD i []).length with e | ⟨k, hk, hb, e⟩
    · exact e.symm
    · refine absurd ⟨fun h => hb (.inl h), fun h => hb (.inr h), ?_⟩ (hn k (Nat.zero_le _) (by omega))
      rw [drop_getD h]
      exact e.symm
  | some k =>
    obtain ⟨_, _, _, _, e⟩ := firstK_lt hf
    simp only [useK]
    rw [if_pos (by omega), if_pos (by omega), ← e, Int.toNat_natCast, Rat.add_comm, Rat.add_sub_cancel]
theorem takeK_range {w : List (List Rat)} {i u : Nat} (hu : u < 256) (h8 : (w.getD i []).length ≤ 8) : -1 ≤ takeK w i u ∧ takeK w i u < (w.getD i []).length ∧ useK u (takeK w i u) < 256 := by
  unfold takeK
  cases hf : firstK (bst (w.drop (i + 1))) (w.getD i []) u (bst (w.drop i) u) 0 (w.getD i []).length with
  | none => simp only [useK]; rw [if_neg (by decide)]; exact ⟨by omega, by omega, hu⟩
  | some k =>
    obtain ⟨_, hk, _⟩ := firstK_lt hf
    simp only [useK]; rw [if_pos (by omega), Int.toNat_natCast]
    exact ⟨by omega, by omega, bit_lt hu (by omega)⟩
set_option maxHeartbeats 4000000 in
set_option maxRecDepth 100000 in
theorem rBest_spec (hG : HG G) (w : List (List Rat)) (hw : Wok w) : Ctr Tryd.prog G 19 [.d (Mx w)] [] (.d (bestR w)) [] := by
  refine Ctr.pure (M := M0) hmix Tryd.func19 rfl go19 ?_
  have ml := @MxL_length w
  simp (config := { maxSteps := 1000000 }) (disch := ((try simp only [awL]); omega)) only [Tryd.f19, ↓awU, awV, awF, ofVal, ofVal0, isShift, aggK, forall_const, ↓reduceIte, ↓reduceDIte, ↓purePost, combine, idsA, cellsA, srcA, calleeA, refsA, isScalar, scalarD, scalar0, AV.one, putL, unfA, implies_true, IntKind.signed, Nat.reduceAdd, Nat.reduceSub, Nat.reduceMul, Nat.reducePow, Nat.reduceDiv, Nat.reduceMod, Int.reduceAdd, Int.reduceSub, Int.reduceMul, Int.reducePow, Int.reduceNeg, Int.reduceToNat, Int.reduceLT, Int.reduceLE, Nat.reduceEqDiff, sidsB, Nat.reduceBEq, keyKD, isIntK]
  refine CallC.pure (rvalid27_spec w hw.fvs hw.len hw.row) ?_
  by_cases hv : validE w = 0
  · obtain ⟨h8, hr8⟩ := valid_sides hv
    have e0 : bestR w = .tup [.sl (bestL w 0).length false (ints .i64 (bestL w 0)), Frac (bst w 0), .int .i64 0] := by rw [bestR, if_neg (by simp [hv])]
    rw [e0]
    simp (config := { maxSteps := 1000000 }) (disch := ((try simp only [awL]); omega)) only [hv, ↓awU, awV, awF, ofVal, ofVal0, isShift, aggK, forall_const, ↓reduceIte, ↓reduceDIte, ↓purePost, combine, idsA, cellsA, srcA, calleeA, refsA, isScalar, scalarD, scalar0, AV.one, putL, unfA, implies_true, IntKind.signed, Nat.reduceAdd, Nat.reduceSub, Nat.reduceMul, Nat.reducePow, Nat.reduceDiv, Nat.reduceMod, Int.reduceAdd, Int.reduceSub, Int.reduceMul, Int.reducePow, Int.reduceNeg, Int.reduceToNat, Int.reduceLT, Int.reduceLE, Nat.reduceEqDiff, sidsB, Nat.reduceBEq, keyKD, isIntK]
    have ff0 := rF_ok hr8 w.length 0 0 [] (by omega) (by decide) InvR.nil
    have sp0 := rbest_spec hG w hw h8 hr8 w.length 0 0 [] (by omega) (by decide) InvR.nil
    rw [ff0.1, List.drop_zero] at sp0
    have iv0 := ff0.2
    generalize (rF w w.length 0 0 []).2 = m0 at *
    refine CallC.by sp0 rfl rfl (Nat.le_refl _) ?_
    have bsm0 := (bst_Sm w (fun r hr => hw.sm r hr) 0).mono (show _ ≤ 8000 by omega)
    simp (config := { maxSteps := 1000000 }) (disch := ((try simp only [awL]); omega)) only [↓awU, awV, awF, ofVal, ofVal0, isShift, aggK, forall_const, ↓reduceIte, ↓reduceDIte, ↓purePost, combine, idsA, cellsA, srcA, calleeA, refsA, isScalar, scalarD, scalar0, AV.one, putL, unfA, implies_true, IntKind.signed, Nat.reduceAdd, Nat.reduceSub, Nat.reduceMul, Nat.reducePow, Nat.reduceDiv, Nat.reduceMod, Int.reduceAdd, Int.reduceSub, Int.reduceMul, Int.reducePow, Int.reduceNeg, Int.reduceToNat, Int.reduceLT, Int.reduceLE, Nat.reduceEqDiff, sidsB, Nat.reduceBEq, keyKD, isIntK]
    refine LoopC.fr 1610613577 (α := Nat × Nat × List Int × Memo) (fun x => w.length - x.1) (fun x => [(7, .d (.int .i64 (255 - x.2.1 : Nat))), (10, .lsl 4 1 0 x.1), (31, .d (.int .i64 x.1)), (50, .undef), (51, .undef), (52, .undef), (53, .undef)])
      (fun x => [.box [.d (.bool false), .d (.sl 0 true []), .d (.bool false), .d (.sl 0 true [])], .map (enc x.2.2.2), .box [.d (.bool (decide ((bst w 0).num < 0))), .d (W (toW (bst w 0).num.natAbs)), .d (.bool false), .d (W (toW (bst w 0).den))], .box [.d (.bool (decide ((bst (w.drop x.1) x.2.1).num < 0))), .d (W (toW (bst (w.drop x.1) x.2.1).num.natAbs)), .d (.bool false), .d (W (toW (bst (w.drop x.1) x.2.1).den))], .row false (ints .i64 x.2.2.1)])
      (fun x => x.1 ≤ w.length ∧ x.2.1 < 256 ∧ x.2.2.1.length = x.1 ∧ x.2.2.1 ++ bestL (w.drop x.1) x.2.1 = bestL w 0 ∧ InvR w x.2.2.2) (0, 0, [], m0) ⟨Nat.zero_le _, (by decide : 0 < 256), rfl, rfl, iv0⟩ ?_ ?_
    · refine ⟨[some 0, some 1, some 2, some 3, none], rfl, by simp, by simp [setsA, keepA, SWeak, AWeak], by simp [HWeak, BWeak, SWeak, AWeak, enc, ints]⟩
    · rintro ⟨i, u, out, m⟩ ⟨hi, hu, hol, hob, hm⟩
      simp only at hi hu hol hob hm
      simp only [keepA_z8, keepA_z, keepA_cons, keepA_nil, setsA_nil, setsA_cons, List.set_cons_zero, List.set_cons_succ, set_8, Nat.reduceMod, Nat.reduceDiv, Nat.zero_mod, Nat.zero_ne_one, if_true, if_false, reduceIte]
      replace hob := Hid.mk hob
      rcases Nat.lt_or_ge i w.length with h1 | h1
      · have h8i := hr8 i
        obtain ⟨t1, t2, t3⟩ := takeK_range (w := w) (i := i) hu h8i
        have hbt := Hid.mk (bestL_takeK (w := w) (i := i) (u := u) h1)
        have hst := Hid.mk (bst_takeK (w := w) (i := i) (u := u) h1)
        have hrm : ∀ k, k < (w.getD i []).length → Sm 1000 ((w.getD i []).getD k 0) := fun k hk => hw.sm _ (mem_getD h1) _ (mem_getD hk)
        have bsm := (bst_Sm (w.drop i) (fun r hr => hw.sm r (List.mem_of_mem_drop hr)) u).mono (show _ ≤ 9000 by rw [List.length_drop]; omega)
        have bsr := fun u' => (bst_Sm (w.drop (i + 1)) (fun r hr => hw.sm r (List.mem_of_mem_drop hr)) u').mono (show _ ≤ 8000 by rw [List.length_drop]; omega)
        have iv := fun (u' : Nat) (m' : Memo) (hu' : u' < 256) (hm' : InvR w m') => rF_ok hr8 (w.length - (i + 1)) (i + 1) u' m' (by omega) hu' hm'
        have sp := fun (u' : Nat) (m' : Memo) (hu' : u' < 256) (hm' : InvR w m') => rbest_spec hG w hw h8 hr8 (w.length - (i + 1)) (i + 1) u' m' (by omega) hu' hm'
        have fl := @Fr_length (w.getD i [])
        simp (config := { maxSteps := 1000000 }) (disch := ((try simp only [awL]); omega)) only [ml, MxL_get, ↓awU, awV, awF, ofVal, ofVal0, isShift, aggK, forall_const, ↓reduceIte, ↓reduceDIte, ↓purePost, combine, idsA, cellsA, srcA, calleeA, refsA, isScalar, scalarD, scalar0, AV.one, putL, unfA, implies_true, IntKind.signed, Nat.reduceAdd, Nat.reduceSub, Nat.reduceMul, Nat.reducePow, Nat.reduceDiv, Nat.reduceMod, Int.reduceAdd, Int.reduceSub, Int.reduceMul, Int.reducePow, Int.reduceNeg, Int.reduceToNat, Int.reduceLT, Int.reduceLE, Nat.reduceEqDiff, sidsB, Nat.reduceBEq, keyKD, isIntK]
        refine LoopC.fx 209916534729 (α := Nat × Memo) (β := Memo) (fun x => (w.getD i []).length - x.1) (fun x => [(13, .d (.int .i64 (-1))), (38, .d (.int .i64 x.1)), (50, .undef), (51, .undef), (52, .undef), (53, .undef)])
          (fun x => [.box [.d (.bool false), .d (.sl 0 true []), .d (.bool false), .d (.sl 0 true [])], .map (enc x.2), .box [.d (.bool (decide ((bst w 0).num < 0))), .d (W (toW (bst w 0).num.natAbs)), .d (.bool false), .d (W (toW (bst w 0).den))], .box [.d (.bool (decide ((bst (w.drop i) u).num < 0))), .d (W (toW (bst (w.drop i) u).num.natAbs)), .d (.bool false), .d (W (toW (bst (w.drop i) u).den))], .row false (ints .i64 out)])
          (fun x => x.1 ≤ (w.getD i []).length ∧ InvR w x.2 ∧ firstK (bst (w.drop (i + 1))) (w.getD i []) u (bst (w.drop i) u) 0 (w.getD i []).length = firstK (bst (w.drop (i + 1))) (w.getD i []) u (bst (w.drop i) u) x.1 ((w.getD i []).length - x.1))
          3758102473 (fun _ => [(13, .d (.int .i64 (takeK w i u))), (50, .undef), (51, .undef), (52, .undef), (53, .undef)]) (fun x => [.box [.d (.bool false), .d (.sl 0 true []), .d (.bool false), .d (.sl 0 true [])], .map (enc x), .box [.d (.bool (decide ((bst w 0).num < 0))), .d (W (toW (bst w 0).num.natAbs)), .d (.bool false), .d (W (toW (bst w 0).den))], .box [.d (.bool (decide ((bst (w.drop i) u).num < 0))), .d (W (toW (bst (w.drop i) u).num.natAbs)), .d (.bool false), .d (W (toW (bst (w.drop i) u).den))], .row false (ints .i64 out)])
          (fun x => InvR w x) (0, m) ⟨Nat.zero_le _, hm, rfl⟩ ?_ ?_ ?_
        · exact ⟨[some 0, some 1, some 2, some 3, some 4], rfl, by simp, by simp [setsA, keepA, SWeak, AWeak], by simp [HWeak, BWeak, SWeak, AWeak]⟩
        · rintro ⟨k, m2⟩ ⟨hk, hm2, hfk⟩
          simp only at hk hm2 hfk
          simp only [keepA_z8, keepA_z, keepA_cons, keepA_nil, setsA_nil, setsA_cons, List.set_cons_zero, List.set_cons_succ, set_8, Nat.reduceMod, Nat.reduceDiv, Nat.zero_mod, Nat.zero_ne_one, if_true, if_false, reduceIte]
          replace hfk := Hid.mk hfk
          rcases Nat.lt_or_ge k (w.getD i []).length with h2 | h2
          · have hk8 : k < 8 := by omega
            have hp2 : (2 : Int) ^ k = ((2 ^ k : Nat) : Int) := by simp
            have hmin : min k 64 = k := by omega
            have hle := Nat.div_le_self (255 - u) (2 ^ k)
            have hp8 : 2 ^ k < 2 ^ 62 := Nat.pow_lt_pow_right (by decide) (by omega)
            have ha1 := and1_i64 (a := (255 - u) / 2 ^ k) (by omega)
            have hwr : IntKind.i64.wrap ((2 ^ k : Nat) : Int) = ((2 ^ k : Nat) : Int) := by generalize 2 ^ k = q at hp8 ⊢; exact wr_i64 (by omega) (by omega)
            have hclr := left_clr hu hk8
            have hlt := bit_lt hu hk8
            have hfn : firstK (bst (w.drop (i + 1))) (w.getD i []) u (bst (w.drop i) u) k ((w.getD i []).length - k) = if okK (bst (w.drop (i + 1))) (w.getD i []) u k (bst (w.drop i) u) then some k else firstK (bst (w.drop (i + 1))) (w.getD i []) u (bst (w.drop i) u) (k + 1) ((w.getD i []).length - (k + 1)) := by
              rw [show (w.getD i []).length - k = ((w.getD i []).length - (k + 1)) + 1 by omega]; rfl
            replace hfn := Hid.mk hfn
            have hx := hrm k h2
            by_cases hb : u.testBit k = true
            · have hb2 := left_f hu hk8 hb
              have hno : ¬ okK (bst (w.drop (i + 1))) (w.getD i []) u k (bst (w.drop i) u) := fun h => h.1 hb
              simp (config := { maxSteps := 1000000 }) (disch := ((try simp only [awL]); omega)) only [fl, Fr_get, hp2, hmin, fdiv_nat, ha1, hb2, ↓awU, awV, awF, ofVal, ofVal0, isShift, aggK, forall_const, ↓reduceIte, ↓reduceDIte, ↓purePost, combine, idsA, cellsA, srcA, calleeA, refsA, isScalar, scalarD, scalar0, AV.one, putL, unfA, implies_true, IntKind.signed, Nat.reduceAdd, Nat.reduceSub, Nat.reduceMul, Nat.reducePow, Nat.reduceDiv, Nat.reduceMod, Int.reduceAdd, Int.reduceSub, Int.reduceMul, Int.reducePow, Int.reduceNeg, Int.reduceToNat, Int.reduceLT, Int.reduceLE, Nat.reduceEqDiff, sidsB, Nat.reduceBEq, keyKD, isIntK]
              exact ⟨by rfl, (k + 1, m2), ⟨h2, hm2, by simp only; rw [hfk.out, hfn.out, if_neg hno]⟩, by simp only; omega, ⟨[some 0, some 1, some 2, some 3, some 4], rfl, by simp, by simp [setsA, keepA, SWeak, AWeak], by simp [HWeak, BWeak, SWeak, AWeak]⟩⟩
            · have hb2 := left_t hu hk8 hb
              simp (config := { maxSteps := 1000000 }) (disch := ((try simp only [awL]); omega)) only [fl, Fr_get, hp2, hmin, fdiv_nat, ha1, hb2, ↓awU, awV, awF, ofVal, ofVal0, isShift, aggK, forall_const, ↓reduceIte, ↓reduceDIte, ↓purePost, combine, idsA, cellsA, srcA, calleeA, refsA, isScalar, scalarD, scalar0, AV.one, putL, unfA, implies_true, IntKind.signed, Nat.reduceAdd, Nat.reduceSub, Nat.reduceMul, Nat.reducePow, Nat.reduceDiv, Nat.reduceMod, Int.reduceAdd, Int.reduceSub, Int.reduceMul, Int.reducePow, Int.reduceNeg, Int.reduceToNat, Int.reduceLT, Int.reduceLE, Nat.reduceEqDiff, sidsB, Nat.reduceBEq, keyKD, isIntK]
              refine CallC.pure rzero_spec ?_
              simp (config := { maxSteps := 1000000 }) (disch := ((try simp only [awL]); omega)) only [↓awU, awV, awF, ofVal, ofVal0, isShift, aggK, forall_const, ↓reduceIte, ↓reduceDIte, ↓purePost, combine, idsA, cellsA, srcA, calleeA, refsA, isScalar, scalarD, scalar0, AV.one, putL, unfA, implies_true, IntKind.signed, Nat.reduceAdd, Nat.reduceSub, Nat.reduceMul, Nat.reducePow, Nat.reduceDiv, Nat.reduceMod, Int.reduceAdd, Int.reduceSub, Int.reduceMul, Int.reducePow, Int.reduceNeg, Int.reduceToNat, Int.reduceLT, Int.reduceLE, Nat.reduceEqDiff, sidsB, Nat.reduceBEq, keyKD, isIntK]
              refine CallC.pure (rcmpF_spec _ _ (hx.FV (by decide)) FV0) ?_
              by_cases hz : (w.getD i []).getD k 0 = 0
              · have hc := cmpQ_zero.2 hz
                have hno : ¬ okK (bst (w.drop (i + 1))) (w.getD i []) u k (bst (w.drop i) u) := fun h => h.2.1 hz
                simp (config := { maxSteps := 1000000 }) (disch := ((try simp only [awL]); omega)) only [hc, ↓awU, awV, awF, ofVal, ofVal0, isShift, aggK, forall_const, ↓reduceIte, ↓reduceDIte, ↓purePost, combine, idsA, cellsA, srcA, calleeA, refsA, isScalar, scalarD, scalar0, AV.one, putL, unfA, implies_true, IntKind.signed, Nat.reduceAdd, Nat.reduceSub, Nat.reduceMul, Nat.reducePow, Nat.reduceDiv, Nat.reduceMod, Int.reduceAdd, Int.reduceSub, Int.reduceMul, Int.reducePow, Int.reduceNeg, Int.reduceToNat, Int.reduceLT, Int.reduceLE, Nat.reduceEqDiff, sidsB, Nat.reduceBEq, keyKD, isIntK]
                exact ⟨by rfl, (k + 1, m2), ⟨h2, hm2, by simp only; rw [hfk.out, hfn.out, if_neg hno]⟩, by simp only; omega, ⟨[some 0, some 1, some 2, some 3, some 4], rfl, by simp, by simp [setsA, keepA, SWeak, AWeak], by simp [HWeak, BWeak, SWeak, AWeak]⟩⟩
              · have hc : ¬ cmpQ ((w.getD i []).getD k 0) 0 = 0 := fun h => hz (cmpQ_zero.1 h)
                simp (config := { maxSteps := 1000000 }) (disch := ((try simp only [awL]); omega)) only [hc, hp2, hmin, hwr, hclr, Int.one_mul, ↓awU, awV, awF, ofVal, ofVal0, isShift, aggK, forall_const, ↓reduceIte, ↓reduceDIte, ↓purePost, combine, idsA, cellsA, srcA, calleeA, refsA, isScalar, scalarD, scalar0, AV.one, putL, unfA, implies_true, IntKind.signed, Nat.reduceAdd, Nat.reduceSub, Nat.reduceMul, Nat.reducePow, Nat.reduceDiv, Nat.reduceMod, Int.reduceAdd, Int.reduceSub, Int.reduceMul, Int.reducePow, Int.reduceNeg, Int.reduceToNat, Int.reduceLT, Int.reduceLE, Nat.reduceEqDiff, sidsB, Nat.reduceBEq, keyKD, isIntK]
                refine ⟨by rfl, ?_⟩
                obtain ⟨j1, j2⟩ := iv (u ||| 2 ^ k) m2 hlt hm2
                have sp1 := sp (u ||| 2 ^ k) m2 hlt hm2
                rw [j1] at sp1
                generalize (rF w (w.length - (i + 1)) (i + 1) (u ||| 2 ^ k) m2).2 = m3 at *
                refine CallC.by sp1 rfl rfl (Nat.le_refl _) ?_
                have hy := bsr (u ||| 2 ^ k)
                simp (config := { maxSteps := 1000000 }) (disch := ((try simp only [awL]); omega)) only [↓awU, awV, awF, ofVal, ofVal0, isShift, aggK, forall_const, ↓reduceIte, ↓reduceDIte, ↓purePost, combine, idsA, cellsA, srcA, calleeA, refsA, isScalar, scalarD, scalar0, AV.one, putL, unfA, implies_true, IntKind.signed, Nat.reduceAdd, Nat.reduceSub, Nat.reduceMul, Nat.reducePow, Nat.reduceDiv, Nat.reduceMod, Int.reduceAdd, Int.reduceSub, Int.reduceMul, Int.reducePow, Int.reduceNeg, Int.reduceToNat, Int.reduceLT, Int.reduceLE, Nat.reduceEqDiff, sidsB, Nat.reduceBEq, keyKD, isIntK]
                refine CallC.pure (radd23_spec _ _ (hx.FV (by decide)) (hy.FV (by decide)) ((hx.add hy).FV (by decide))) ?_
                simp (config := { maxSteps := 1000000 }) (disch := ((try simp only [awL]); omega)) only [↓awU, awV, awF, ofVal, ofVal0, isShift, aggK, forall_const, ↓reduceIte, ↓reduceDIte, ↓purePost, combine, idsA, cellsA, srcA, calleeA, refsA, isScalar, scalarD, scalar0, AV.one, putL, unfA, implies_true, IntKind.signed, Nat.reduceAdd, Nat.reduceSub, Nat.reduceMul, Nat.reducePow, Nat.reduceDiv, Nat.reduceMod, Int.reduceAdd, Int.reduceSub, Int.reduceMul, Int.reducePow, Int.reduceNeg, Int.reduceToNat, Int.reduceLT, Int.reduceLE, Nat.reduceEqDiff, sidsB, Nat.reduceBEq, keyKD, isIntK]
                refine ⟨by rfl, ?_⟩
                refine CallC.pure (sameF_spec _ _ ((hx.add hy).FV (by decide)) (bsm.FV (by decide))) ?_
                by_cases he : (w.getD i []).getD k 0 + bst (w.drop (i + 1)) (u ||| 2 ^ k) = bst (w.drop i) u
                · have hyes : okK (bst (w.drop (i + 1))) (w.getD i []) u k (bst (w.drop i) u) := ⟨hb, hz, he⟩
                  have htk : takeK w i u = k := by unfold takeK; rw [hfk.out, hfn.out, if_pos hyes]
                  rw [decide_eq_true he]
                  simp (config := { maxSteps := 1000000 }) (disch := ((try simp only [awL]); omega)) only [↓awU, awV, awF, ofVal, ofVal0, isShift, aggK, forall_const, ↓reduceIte, ↓reduceDIte, ↓purePost, combine, idsA, cellsA, srcA, calleeA, refsA, isScalar, scalarD, scalar0, AV.one, putL, unfA, implies_true, IntKind.signed, Nat.reduceAdd, Nat.reduceSub, Nat.reduceMul, Nat.reducePow, Nat.reduceDiv, Nat.reduceMod, Int.reduceAdd, Int.reduceSub, Int.reduceMul, Int.reducePow, Int.reduceNeg, Int.reduceToNat, Int.reduceLT, Int.reduceLE, Nat.reduceEqDiff, sidsB, Nat.reduceBEq, keyKD, isIntK]
                  rw [← htk]
                  exact ⟨m3, j2, ⟨[some 0, some 1, some 2, some 3, some 4], rfl, by simp, by simp [setsA, keepA, SWeak, AWeak], by simp [HWeak, BWeak, SWeak, AWeak]⟩⟩
                · have hno : ¬ okK (bst (w.drop (i + 1))) (w.getD i []) u k (bst (w.drop i) u) := fun h => he h.2.2
                  rw [decide_eq_false he]
                  simp (config := { maxSteps := 1000000 }) (disch := ((try simp only [awL]); omega)) only [↓awU, awV, awF, ofVal, ofVal0, isShift, aggK, forall_const, ↓reduceIte, ↓reduceDIte, ↓purePost, combine, idsA, cellsA, srcA, calleeA, refsA, isScalar, scalarD, scalar0, AV.one, putL, unfA, implies_true, IntKind.signed, Nat.reduceAdd, Nat.reduceSub, Nat.reduceMul, Nat.reducePow, Nat.reduceDiv, Nat.reduceMod, Int.reduceAdd, Int.reduceSub, Int.reduceMul, Int.reducePow, Int.reduceNeg, Int.reduceToNat, Int.reduceLT, Int.reduceLE, Nat.reduceEqDiff, sidsB, Nat.reduceBEq, keyKD, isIntK]
                  exact ⟨(k + 1, m3), ⟨h2, j2, by simp only; rw [hfk.out, hfn.out, if_neg hno]⟩, by simp only; omega, ⟨[some 0, some 1, some 2, some 3, some 4], rfl, by simp, by simp [setsA, keepA, SWeak, AWeak], by simp [HWeak, BWeak, SWeak, AWeak]⟩⟩
          · have htk : takeK w i u = -1 := by
              unfold takeK; rw [hfk.out, show (w.getD i []).length - k = 0 by omega]; rfl
            simp (config := { maxSteps := 1000000 }) (disch := ((try simp only [awL]); omega)) only [↓awU, awV, awF, ofVal, ofVal0, isShift, aggK, forall_const, ↓reduceIte, ↓reduceDIte, ↓purePost, combine, idsA, cellsA, srcA, calleeA, refsA, isScalar, scalarD, scalar0, AV.one, putL, unfA, implies_true, IntKind.signed, Nat.reduceAdd, Nat.reduceSub, Nat.reduceMul, Nat.reducePow, Nat.reduceDiv, Nat.reduceMod, Int.reduceAdd, Int.reduceSub, Int.reduceMul, Int.reducePow, Int.reduceNeg, Int.reduceToNat, Int.reduceLT, Int.reduceLE, Nat.reduceEqDiff, sidsB, Nat.reduceBEq, keyKD, isIntK]
            exact ⟨m2, hm2, by rw [htk]; exact ⟨[some 0, some 1, some 2, some 3, some 4], rfl, by simp, by simp [setsA, keepA, SWeak, AWeak], by simp [HWeak, BWeak, SWeak, AWeak]⟩⟩
        · rintro m' hm'
          simp only [keepA_z8, keepA_z, keepA_cons, keepA_nil, setsA_nil, setsA_cons, List.set_cons_zero, List.set_cons_succ, set_8, Nat.reduceMod, Nat.reduceDiv, Nat.zero_mod, Nat.zero_ne_one, if_true, if_false, reduceIte]
          generalize takeK w i u = tk at *
          by_cases h0 : 0 ≤ tk
          · obtain ⟨j, rfl⟩ : ∃ j : Nat, tk = j := ⟨tk.toNat, by omega⟩
            have hj8 : j < 8 := by omega
            have hjr : j < (w.getD i []).length := by omega
            have hp2 : (2 : Int) ^ j = ((2 ^ j : Nat) : Int) := by simp
            have hmin : min j 64 = j := by omega
            have hp8 : 2 ^ j < 2 ^ 62 := Nat.pow_lt_pow_right (by decide) (by omega)
            have hwr : IntKind.i64.wrap ((2 ^ j : Nat) : Int) = ((2 ^ j : Nat) : Int) := by generalize 2 ^ j = q at hp8 ⊢; exact wr_i64 (by omega) (by omega)
            have hclr := left_clr hu hj8
            have hlt := bit_lt hu hj8
            have hst' := hst.out
            have hbt' := hbt.out
            rw [if_pos h0, Int.toNat_natCast] at hst'
            have huse : useK u (j : Int) = u ||| 2 ^ j := by rw [useK, if_pos h0, Int.toNat_natCast]
            rw [huse] at hst' hbt'
            have fvd := (bsr (u ||| 2 ^ j)).FV (by decide)
            rw [hst'] at fvd
            replace hst' := Hid.mk hst'
            replace hbt' := Hid.mk hbt'
            simp (config := { maxSteps := 1000000 }) (disch := ((try simp only [awL]); omega)) only [fl, Fr_get, hp2, hmin, hwr, hclr, Int.one_mul, ↓awU, awV, awF, ofVal, ofVal0, isShift, aggK, forall_const, ↓reduceIte, ↓reduceDIte, ↓purePost, combine, idsA, cellsA, srcA, calleeA, refsA, isScalar, scalarD, scalar0, AV.one, putL, unfA, implies_true, IntKind.signed, Nat.reduceAdd, Nat.reduceSub, Nat.reduceMul, Nat.reducePow, Nat.reduceDiv, Nat.reduceMod, Int.reduceAdd, Int.reduceSub, Int.reduceMul, Int.reducePow, Int.reduceNeg, Int.reduceToNat, Int.reduceLT, Int.reduceLE, Nat.reduceEqDiff, sidsB, Nat.reduceBEq, keyKD, isIntK]
            refine CallC.pure (rsub23_spec _ _ (bsm.FV (by decide)) ((hrm j hjr).FV (by decide)) fvd) ?_
            rw [← hst'.out]
            simp (config := { maxSteps := 1000000 }) (disch := ((try simp only [awL]); omega)) only [ints_length, ↓awU, awV, awF, ofVal, ofVal0, isShift, aggK, forall_const, ↓reduceIte, ↓reduceDIte, ↓purePost, combine, idsA, cellsA, srcA, calleeA, refsA, isScalar, scalarD, scalar0, AV.one, putL, unfA, implies_true, IntKind.signed, Nat.reduceAdd, Nat.reduceSub, Nat.reduceMul, Nat.reducePow, Nat.reduceDiv, Nat.reduceMod, Int.reduceAdd, Int.reduceSub, Int.reduceMul, Int.reducePow, Int.reduceNeg, Int.reduceToNat, Int.reduceLT, Int.reduceLE, Nat.reduceEqDiff, sidsB, Nat.reduceBEq, keyKD, isIntK]
            refine ⟨by rfl, ?_⟩
            rw [ints_one, ints_append]
            refine ⟨(i + 1, u ||| 2 ^ j, out ++ [(j : Int)], m'), ⟨h1, hlt, by simp [hol], ?_, hm'⟩, by simp only; omega, ⟨[some 0, some 1, some 2, some 3, some 6], rfl, by simp, by simp [setsA, keepA, SWeak, AWeak], by simp [HWeak, BWeak, SWeak, AWeak]⟩⟩
            simp only
            rw [List.append_assoc, ← hob.out, hbt'.out]; rfl
          · have hst' := hst.out
            have hbt' := hbt.out
            have e1 : tk = -1 := by omega
            rw [if_neg h0] at hst'
            have huse : useK u tk = u := by rw [useK, if_neg h0]
            rw [huse] at hst' hbt'
            subst e1
            replace hbt' := Hid.mk hbt'
            rw [← hst']
            replace hst' := Hid.mk hst'
            simp (config := { maxSteps := 1000000 }) (disch := ((try simp only [awL]); omega)) only [ints_length, ↓awU, awV, awF, ofVal, ofVal0, isShift, aggK, forall_const, ↓reduceIte, ↓reduceDIte, ↓purePost, combine, idsA, cellsA, srcA, calleeA, refsA, isScalar, scalarD, scalar0, AV.one, putL, unfA, implies_true, IntKind.signed, Nat.reduceAdd, Nat.reduceSub, Nat.reduceMul, Nat.reducePow, Nat.reduceDiv, Nat.reduceMod, Int.reduceAdd, Int.reduceSub, Int.reduceMul, Int.reducePow, Int.reduceNeg, Int.reduceToNat, Int.reduceLT, Int.reduceLE, Nat.reduceEqDiff, sidsB, Nat.reduceBEq, keyKD, isIntK]
            rw [ints_one, ints_append]
            refine ⟨(i + 1, u, out ++ [-1], m'), ⟨h1, hu, by simp [hol], ?_, hm'⟩, by simp only; omega, ⟨[some 0, some 1, some 2, some 3, some 6], rfl, by simp, by simp [setsA, keepA, SWeak, AWeak], by simp [HWeak, BWeak, SWeak, AWeak]⟩⟩
            simp only
            rw [List.append_assoc, ← hob.out, hbt'.out]; rfl
      · have ei : i = w.length := by omega
        subst ei
        have hob' := hob.out
        rw [List.drop_of_length_le (Nat.le_refl _), show bestL [] u = [] from rfl, List.append_nil] at hob'
        subst hob'
        simp (config := { maxSteps := 1000000 }) (disch := ((try simp only [awL]); omega)) only [ints_length, ↓awU, awV, awF, ofVal, ofVal0, isShift, aggK, forall_const, ↓reduceIte, ↓reduceDIte, ↓purePost, combine, idsA, cellsA, srcA, calleeA, refsA, isScalar, scalarD, scalar0, AV.one, putL, unfA, implies_true, IntKind.signed, Nat.reduceAdd, Nat.reduceSub, Nat.reduceMul, Nat.reducePow, Nat.reduceDiv, Nat.reduceMod, Int.reduceAdd, Int.reduceSub, Int.reduceMul, Int.reducePow, Int.reduceNeg, Int.reduceToNat, Int.reduceLT, Int.reduceLE, Nat.reduceEqDiff, sidsB, Nat.reduceBEq, keyKD, isIntK]
        exact ⟨by rfl, by rw [hol]⟩
  · have e0 : bestR w = .tup [.sl 0 false [], Zf, .int .i64 (validE w)] := by rw [bestR, if_pos hv]
    rw [e0]
    simp (config := { maxSteps := 1000000 }) (disch := ((try simp only [awL]); omega)) only [hv, ↓awU, awV, awF, ofVal, ofVal0, isShift, aggK, forall_const, ↓reduceIte, ↓reduceDIte, ↓purePost, combine, idsA, cellsA, srcA, calleeA, refsA, isScalar, scalarD, scalar0, AV.one, putL, unfA, implies_true, IntKind.signed, Nat.reduceAdd, Nat.reduceSub, Nat.reduceMul, Nat.reducePow, Nat.reduceDiv, Nat.reduceMod, Int.reduceAdd, Int.reduceSub, Int.reduceMul, Int.reducePow, Int.reduceNeg, Int.reduceToNat, Int.reduceLT, Int.reduceLE, Nat.reduceEqDiff, sidsB, Nat.reduceBEq, keyKD, isIntK]
end Go.Proofs.YtkppgdialedoeaaDoor

namespace Go.Proofs.YtkppgdialedoeaaDoor
open Go Go.Proofs Go.Abs
variable {G : Globals}
/-! Weights that the caller may write into. -/
set_option maxHeartbeats 4000000 in
set_option maxRecDepth 100000 in
theorem weightsR_spec (t : List Int) (k r c : Nat) (ht : OkT t) (hr : r ≤ 500) (hc : c ≤ 500) :
    Ctr Tryd.prog G 14 [.ptr 0 0, .d (.int .i64 r), .d (.int .i64 c)] [DiceB t k] (.lsl 1 1 0 r) [DiceB t (k + 2 * c * r), .row false (MxL (matW t k r c))] := by
  refine Ctr.body (M := M0) hmix Tryd.func14 rfl go14 ?_
  simp (config := { maxSteps := 1000000 }) (disch := ((try simp only [awL]); omega)) only [Tryd.f14, ↓awU, awV, awF, ofVal, ofVal0, isShift, aggK, forall_const, ↓reduceIte, ↓reduceDIte, ↓purePost, combine, idsA, cellsA, srcA, calleeA, refsA, isScalar, scalarD, scalar0, AV.one, putL, unfA, implies_true, IntKind.signed, Nat.reduceAdd, Nat.reduceSub, Nat.reduceMul, Nat.reducePow, Nat.reduceDiv, Nat.reduceMod, Int.reduceAdd, Int.reduceSub, Int.reduceMul, Int.reducePow, Int.reduceNeg, Int.reduceToNat, Int.reduceLT, Int.reduceLE, Nat.reduceEqDiff, sidsB, Nat.reduceBEq, keyKD, isIntK]
  refine LoopC.fr 517 (α := Nat) (fun i => r - i) (fun i => [(7, .lsl 1 1 0 i), (10, .d (.int .i64 i))])
    (fun i => [DiceB t (k + 2 * c * i), .row false (MxL (matW t k i c))]) (fun i => i ≤ r) 0 (Nat.zero_le _) ?_ ?_
  · refine ⟨[some 0, none], rfl, by simp, by simp [setsA, keepA, SWeak, AWeak], by simp [HWeak, BWeak, SWeak, AWeak, matW, MxL]⟩
  · intro i hi
    simp only [keepA_z8, keepA_z, keepA_cons, keepA_nil, setsA_nil, setsA_cons, List.set_cons_zero, List.set_cons_succ, set_8, Nat.reduceMod, Nat.reduceDiv, Nat.zero_mod, Nat.zero_ne_one, if_true, if_false, reduceIte]
    rcases Nat.lt_or_ge i r with h1 | h1
    · simp (config := { maxSteps := 1000000 }) (disch := ((try simp only [awL]); omega)) only [↓awU, awV, awF, ofVal, ofVal0, isShift, aggK, forall_const, ↓reduceIte, ↓reduceDIte, ↓purePost, combine, idsA, cellsA, srcA, calleeA, refsA, isScalar, scalarD, scalar0, AV.one, putL, unfA, implies_true, IntKind.signed, Nat.reduceAdd, Nat.reduceSub, Nat.reduceMul, Nat.reducePow, Nat.reduceDiv, Nat.reduceMod, Int.reduceAdd, Int.reduceSub, Int.reduceMul, Int.reducePow, Int.reduceNeg, Int.reduceToNat, Int.reduceLT, Int.reduceLE, Nat.reduceEqDiff, sidsB, Nat.reduceBEq, keyKD, isIntK]
      refine LoopC.fr 5765 (α := Nat) (fun j => c - j) (fun j => [(8, .lsl 2 4 0 j), (13, .d (.int .i64 j))])
        (fun j => [DiceB t (k + 2 * c * i + 2 * j), .row false (MxL (matW t k i c)), .row false (Fr (rowW t (k + 2 * c * i) j))]) (fun j => j ≤ c) 0 (Nat.zero_le _) ?_ ?_
      · refine ⟨[some 0, some 1, none], rfl, by simp, by simp [setsA, keepA, SWeak, AWeak], by simp [HWeak, BWeak, SWeak, AWeak, rowW, Fr]⟩
      · intro j hj
        simp only [keepA_z8, keepA_z, keepA_cons, keepA_nil, setsA_nil, setsA_cons, List.set_cons_zero, List.set_cons_succ, set_8, Nat.reduceMod, Nat.reduceDiv, Nat.zero_mod, Nat.zero_ne_one, if_true, if_false, reduceIte]
        rcases Nat.lt_or_ge j c with h2 | h2
        · have n1 := @nx_range t (k + 2 * c * i + 2 * j) 7 (by decide)
          have n2 := @nx_range t (k + 2 * c * i + 2 * j + 1) 2 (by decide)
          have n3 := @tab7_range (nx t (k + 2 * c * i + 2 * j) 7).toNat
          simp (config := { maxSteps := 1000000 }) (disch := ((try simp only [awL]); omega)) only [↓awU, awV, awF, ofVal, ofVal0, isShift, aggK, forall_const, ↓reduceIte, ↓reduceDIte, ↓purePost, combine, idsA, cellsA, srcA, calleeA, refsA, isScalar, scalarD, scalar0, AV.one, putL, unfA, implies_true, IntKind.signed, Nat.reduceAdd, Nat.reduceSub, Nat.reduceMul, Nat.reducePow, Nat.reduceDiv, Nat.reduceMod, Int.reduceAdd, Int.reduceSub, Int.reduceMul, Int.reducePow, Int.reduceNeg, Int.reduceToNat, Int.reduceLT, Int.reduceLE, Nat.reduceEqDiff, sidsB, Nat.reduceBEq, keyKD, isIntK]
          refine CallC.by (next_spec t _ 7 ht (by decide) (by decide)) rfl rfl (Nat.le_refl _) ?_
          simp (config := { maxSteps := 1000000 }) (disch := ((try simp only [awL]); omega)) only [↓awU, awV, awF, ofVal, ofVal0, isShift, aggK, forall_const, ↓reduceIte, ↓reduceDIte, ↓purePost, combine, idsA, cellsA, srcA, calleeA, refsA, isScalar, scalarD, scalar0, AV.one, putL, unfA, implies_true, IntKind.signed, Nat.reduceAdd, Nat.reduceSub, Nat.reduceMul, Nat.reducePow, Nat.reduceDiv, Nat.reduceMod, Int.reduceAdd, Int.reduceSub, Int.reduceMul, Int.reducePow, Int.reduceNeg, Int.reduceToNat, Int.reduceLT, Int.reduceLE, Nat.reduceEqDiff, sidsB, Nat.reduceBEq, keyKD, isIntK]
          rw [tab7_get (by omega)]
          refine CallC.by (next_spec t (k + 2 * c * i + 2 * j + 1) 2 ht (by decide) (by decide)) rfl rfl (Nat.le_refl _) ?_
          simp (config := { maxSteps := 1000000 }) (disch := ((try simp only [awL]); omega)) only [↓awU, awV, awF, ofVal, ofVal0, isShift, aggK, forall_const, ↓reduceIte, ↓reduceDIte, ↓purePost, combine, idsA, cellsA, srcA, calleeA, refsA, isScalar, scalarD, scalar0, AV.one, putL, unfA, implies_true, IntKind.signed, Nat.reduceAdd, Nat.reduceSub, Nat.reduceMul, Nat.reducePow, Nat.reduceDiv, Nat.reduceMod, Int.reduceAdd, Int.reduceSub, Int.reduceMul, Int.reducePow, Int.reduceNeg, Int.reduceToNat, Int.reduceLT, Int.reduceLE, Nat.reduceEqDiff, sidsB, Nat.reduceBEq, keyKD, isIntK]
          refine CallC.pure (part_spec _ _ (by omega) (by omega) (by omega) (by omega)) ?_
          rw [← ent]
          have q1 : (rowW t (k + 2 * c * i) j).length = j := rowW_length
          have q2 : k + 2 * c * i + 2 * j + 1 + 1 = k + 2 * c * i + 2 * (j + 1) := by omega
          simp (config := { maxSteps := 1000000 }) (disch := ((try simp only [awL]); omega)) only [Fr_length, cut_4, Fr_push, rowW_push, q2, ↓awU, awV, awF, ofVal, ofVal0, isShift, aggK, forall_const, ↓reduceIte, ↓reduceDIte, ↓purePost, combine, idsA, cellsA, srcA, calleeA, refsA, isScalar, scalarD, scalar0, AV.one, putL, unfA, implies_true, IntKind.signed, Nat.reduceAdd, Nat.reduceSub, Nat.reduceMul, Nat.reducePow, Nat.reduceDiv, Nat.reduceMod, Int.reduceAdd, Int.reduceSub, Int.reduceMul, Int.reducePow, Int.reduceNeg, Int.reduceToNat, Int.reduceLT, Int.reduceLE, Nat.reduceEqDiff, sidsB, Nat.reduceBEq, keyKD, isIntK]
          refine ⟨by rfl, j + 1, h2, by simp only; omega, [some 0, some 1, some 5], rfl, by simp, by simp [SWeak, AWeak], by simp [HWeak, BWeak, SWeak, AWeak]⟩
        · have ej : j = c := by omega
          subst ej
          have q1 : (rowW t (k + 2 * j * i) j).length = j := rowW_length
          have q2 : (matW t k i j).length = i := matW_length
          simp (config := { maxSteps := 1000000 }) (disch := ((try simp only [awL]); omega)) only [MxL_length, cut_Fr, ↓awU, awV, awF, ofVal, ofVal0, isShift, aggK, forall_const, ↓reduceIte, ↓reduceDIte, ↓purePost, combine, idsA, cellsA, srcA, calleeA, refsA, isScalar, scalarD, scalar0, AV.one, putL, unfA, implies_true, IntKind.signed, Nat.reduceAdd, Nat.reduceSub, Nat.reduceMul, Nat.reducePow, Nat.reduceDiv, Nat.reduceMod, Int.reduceAdd, Int.reduceSub, Int.reduceMul, Int.reducePow, Int.reduceNeg, Int.reduceToNat, Int.reduceLT, Int.reduceLE, Nat.reduceEqDiff, sidsB, Nat.reduceBEq, keyKD, isIntK]
          have em : MxL (matW t k i j) ++ [D.sl j false (Fr (rowW t (k + 2 * j * i) j))] = MxL (matW t k (i + 1) j) := by
            rw [← matW_push]; simp [MxL, rowW_length]
          rw [em]
          refine ⟨i + 1, h1, by simp only; omega, [some 0, some 4], rfl, by simp, by simp [SWeak, AWeak], ?_⟩
          have ek : k + 2 * j * i + 2 * j = k + 2 * j * (i + 1) := by rw [Nat.mul_add]; omega
          simp [HWeak, BWeak, SWeak, AWeak, ek]
    · have ei : i = r := by omega
      subst ei
      have q2 : (matW t k i c).length = i := matW_length
      simp (config := { maxSteps := 1000000 }) (disch := ((try simp only [awL]); omega)) only [↓awU, awV, awF, ofVal, ofVal0, isShift, aggK, forall_const, ↓reduceIte, ↓reduceDIte, ↓purePost, combine, idsA, cellsA, srcA, calleeA, refsA, isScalar, scalarD, scalar0, AV.one, putL, unfA, implies_true, IntKind.signed, Nat.reduceAdd, Nat.reduceSub, Nat.reduceMul, Nat.reducePow, Nat.reduceDiv, Nat.reduceMod, Int.reduceAdd, Int.reduceSub, Int.reduceMul, Int.reducePow, Int.reduceNeg, Int.reduceToNat, Int.reduceLT, Int.reduceLE, Nat.reduceEqDiff, sidsB, Nat.reduceBEq, keyKD, isIntK]
      exact ⟨[some 0, some 1], rfl, by simp, by simp [HWeak, BWeak, SWeak, AWeak], .inl (by simp [AWeak])⟩
/-- The rows of the weights stay the call's own: a box of them. -/
abbrev MB : Muts := fun n => Nat.beq n 2000030
def boxB (t : List Int) (k c : Nat) : Nat → List ABlk
  | 0 => [.row false []]
  | 1 => [.box [.lsl 2 4 0 c], .row false (Fr (rowW t (k + 2 * c * 0) c))]
  | 2 => [.box [.lsl 2 4 0 c, .lsl 3 4 0 c], .row false (Fr (rowW t (k + 2 * c * 0) c)), .row false (Fr (rowW t (k + 2 * c) c))]
  | 3 => [.box [.lsl 2 4 0 c, .lsl 3 4 0 c, .lsl 4 4 0 c], .row false (Fr (rowW t (k + 2 * c * 0) c)), .row false (Fr (rowW t (k + 2 * c) c)), .row false (Fr (rowW t (k + 2 * c * 2) c))]
  | 4 => [.box [.lsl 2 4 0 c, .lsl 3 4 0 c, .lsl 4 4 0 c, .lsl 5 4 0 c], .row false (Fr (rowW t (k + 2 * c * 0) c)), .row false (Fr (rowW t (k + 2 * c) c)), .row false (Fr (rowW t (k + 2 * c * 2) c)), .row false (Fr (rowW t (k + 2 * c * 3) c))]
  | _ => []
set_option maxHeartbeats 8000000 in
set_option maxRecDepth 100000 in
theorem weightsB_spec (t : List Int) (k r c : Nat) (ht : OkT t) (hr : r ≤ 4) (hc : c ≤ 500) :
    Ctr Tryd.prog G 14 [.ptr 0 0, .d (.int .i64 r), .d (.int .i64 c)] [DiceB t k] (.lsl 1 1 0 r) (DiceB t (k + 2 * c * r) :: boxB t k c r) := by
  refine Ctr.body (M := MB) hmix Tryd.func14 rfl go14 ?_
  simp (config := { maxSteps := 1000000 }) (disch := ((try simp only [awL]); omega)) only [MB, Nat.beq_eq, Tryd.f14, ↓awU, awV, awF, ofVal, ofVal0, isShift, aggK, forall_const, ↓reduceIte, ↓reduceDIte, ↓purePost, combine, idsA, cellsA, srcA, calleeA, refsA, isScalar, scalarD, scalar0, AV.one, putL, unfA, implies_true, IntKind.signed, Nat.reduceAdd, Nat.reduceSub, Nat.reduceMul, Nat.reducePow, Nat.reduceDiv, Nat.reduceMod, Int.reduceAdd, Int.reduceSub, Int.reduceMul, Int.reducePow, Int.reduceNeg, Int.reduceToNat, Int.reduceLT, Int.reduceLE, Nat.reduceEqDiff, sidsB, Nat.reduceBEq, keyKD, isIntK]
  refine LoopC.fr 517 (α := Nat) (fun i => r - i) (fun i => [(7, .lsl 1 1 0 i), (10, .d (.int .i64 i))])
    (fun i => DiceB t (k + 2 * c * i) :: boxB t k c i) (fun i => i ≤ r) 0 (Nat.zero_le _) ?_ ?_
  · refine ⟨[some 0, none], rfl, by simp, by simp [setsA, keepA, SWeak, AWeak], by simp [HWeak, BWeak, SWeak, AWeak, boxB]⟩
  · intro i hi
    simp only [keepA_z8, keepA_z, keepA_cons, keepA_nil, setsA_nil, setsA_cons, List.set_cons_zero, List.set_cons_succ, set_8, Nat.reduceMod, Nat.reduceDiv, Nat.zero_mod, Nat.zero_ne_one, if_true, if_false, reduceIte]
    rcases Nat.lt_or_ge i r with h1 | h1
    · obtain rfl | rfl | rfl | rfl : i = 0 ∨ i = 1 ∨ i = 2 ∨ i = 3 := by omega
      · simp only [boxB]
        simp (config := { maxSteps := 1000000 }) (disch := ((try simp only [awL]); omega)) only [MB, Nat.beq_eq, ↓awU, awV, awF, ofVal, ofVal0, isShift, aggK, forall_const, ↓reduceIte, ↓reduceDIte, ↓purePost, combine, idsA, cellsA, srcA, calleeA, refsA, isScalar, scalarD, scalar0, AV.one, putL, unfA, implies_true, IntKind.signed, Nat.reduceAdd, Nat.reduceSub, Nat.reduceMul, Nat.reducePow, Nat.reduceDiv, Nat.reduceMod, Int.reduceAdd, Int.reduceSub, Int.reduceMul, Int.reducePow, Int.reduceNeg, Int.reduceToNat, Int.reduceLT, Int.reduceLE, Nat.reduceEqDiff, sidsB, Nat.reduceBEq, keyKD, isIntK]
        refine LoopC.fr 5765 (α := Nat) (fun j => c - j) (fun j => [(8, .lsl 2 4 0 j), (13, .d (.int .i64 j))])
          (fun j => [DiceB t (k + 2 * c * 0 + 2 * j), .row false [], .row false (Fr (rowW t (k + 2 * c * 0) j))]) (fun j => j ≤ c) 0 (Nat.zero_le _) ?_ ?_
        · refine ⟨[some 0, some 1, none], rfl, by simp, by simp [setsA, keepA, SWeak, AWeak], by simp [HWeak, BWeak, SWeak, AWeak, rowW, Fr]⟩
        · intro j hj
          simp only [keepA_z8, keepA_z, keepA_cons, keepA_nil, setsA_nil, setsA_cons, List.set_cons_zero, List.set_cons_succ, set_8, Nat.reduceMod, Nat.reduceDiv, Nat.zero_mod, Nat.zero_ne_one, if_true, if_false, reduceIte]
          rcases Nat.lt_or_ge j c with h2 | h2
          · have n1 := @nx_range t (k + 2 * c * 0 + 2 * j) 7 (by decide)
            have n2 := @nx_range t (k + 2 * c * 0 + 2 * j + 1) 2 (by decide)
            have n3 := @tab7_range (nx t (k + 2 * c * 0 + 2 * j) 7).toNat
            simp (config := { maxSteps := 1000000 }) (disch := ((try simp only [awL]); omega)) only [MB, Nat.beq_eq, ↓awU, awV, awF, ofVal, ofVal0, isShift, aggK, forall_const, ↓reduceIte, ↓reduceDIte, ↓purePost, combine, idsA, cellsA, srcA, calleeA, refsA, isScalar, scalarD, scalar0, AV.one, putL, unfA, implies_true, IntKind.signed, Nat.reduceAdd, Nat.reduceSub, Nat.reduceMul, Nat.reducePow, Nat.reduceDiv, Nat.reduceMod, Int.reduceAdd, Int.reduceSub, Int.reduceMul, Int.reducePow, Int.reduceNeg, Int.reduceToNat, Int.reduceLT, Int.reduceLE, Nat.reduceEqDiff, sidsB, Nat.reduceBEq, keyKD, isIntK]
            refine CallC.by (next_spec t _ 7 ht (by decide) (by decide)) rfl rfl (Nat.le_refl _) ?_
            simp (config := { maxSteps := 1000000 }) (disch := ((try simp only [awL]); omega)) only [MB, Nat.beq_eq, ↓awU, awV, awF, ofVal, ofVal0, isShift, aggK, forall_const, ↓reduceIte, ↓reduceDIte, ↓purePost, combine, idsA, cellsA, srcA, calleeA, refsA, isScalar, scalarD, scalar0, AV.one, putL, unfA, implies_true, IntKind.signed, Nat.reduceAdd, Nat.reduceSub, Nat.reduceMul, Nat.reducePow, Nat.reduceDiv, Nat.reduceMod, Int.reduceAdd, Int.reduceSub, Int.reduceMul, Int.reducePow, Int.reduceNeg, Int.reduceToNat, Int.reduceLT, Int.reduceLE, Nat.reduceEqDiff, sidsB, Nat.reduceBEq, keyKD, isIntK]
            rw [tab7_get (by omega)]
            refine CallC.by (next_spec t (k + 2 * c * 0 + 2 * j + 1) 2 ht (by decide) (by decide)) rfl rfl (Nat.le_refl _) ?_
            simp (config := { maxSteps := 1000000 }) (disch := ((try simp only [awL]); omega)) only [MB, Nat.beq_eq, ↓awU, awV, awF, ofVal, ofVal0, isShift, aggK, forall_const, ↓reduceIte, ↓reduceDIte, ↓purePost, combine, idsA, cellsA, srcA, calleeA, refsA, isScalar, scalarD, scalar0, AV.one, putL, unfA, implies_true, IntKind.signed, Nat.reduceAdd, Nat.reduceSub, Nat.reduceMul, Nat.reducePow, Nat.reduceDiv, Nat.reduceMod, Int.reduceAdd, Int.reduceSub, Int.reduceMul, Int.reducePow, Int.reduceNeg, Int.reduceToNat, Int.reduceLT, Int.reduceLE, Nat.reduceEqDiff, sidsB, Nat.reduceBEq, keyKD, isIntK]
            refine CallC.pure (part_spec _ _ (by omega) (by omega) (by omega) (by omega)) ?_
            rw [← ent]
            have q1 : (rowW t (k + 2 * c * 0) j).length = j := rowW_length
            have q2 : k + 2 * c * 0 + 2 * j + 1 + 1 = k + 2 * c * 0 + 2 * (j + 1) := by omega
            simp (config := { maxSteps := 1000000 }) (disch := ((try simp only [awL]); omega)) only [MB, Nat.beq_eq, Fr_length, cut_4, Fr_push, rowW_push, q2, ↓awU, awV, awF, ofVal, ofVal0, isShift, aggK, forall_const, ↓reduceIte, ↓reduceDIte, ↓purePost, combine, idsA, cellsA, srcA, calleeA, refsA, isScalar, scalarD, scalar0, AV.one, putL, unfA, implies_true, IntKind.signed, Nat.reduceAdd, Nat.reduceSub, Nat.reduceMul, Nat.reducePow, Nat.reduceDiv, Nat.reduceMod, Int.reduceAdd, Int.reduceSub, Int.reduceMul, Int.reducePow, Int.reduceNeg, Int.reduceToNat, Int.reduceLT, Int.reduceLE, Nat.reduceEqDiff, sidsB, Nat.reduceBEq, keyKD, isIntK]
            refine ⟨by rfl, j + 1, h2, by simp only; omega, [some 0, some 1, some 5], rfl, by simp, by simp [SWeak, AWeak], by simp [HWeak, BWeak, SWeak, AWeak]⟩
          · have ej : j = c := by omega
            subst ej
            have q1 : (rowW t (k + 2 * j * 0) j).length = j := rowW_length
            simp (config := { maxSteps := 1000000 }) (disch := ((try simp only [awL]); omega)) only [MB, Nat.beq_eq, ↓awU, awV, awF, ofVal, ofVal0, isShift, aggK, forall_const, ↓reduceIte, ↓reduceDIte, ↓purePost, combine, idsA, cellsA, srcA, calleeA, refsA, isScalar, scalarD, scalar0, AV.one, putL, unfA, implies_true, IntKind.signed, Nat.reduceAdd, Nat.reduceSub, Nat.reduceMul, Nat.reducePow, Nat.reduceDiv, Nat.reduceMod, Int.reduceAdd, Int.reduceSub, Int.reduceMul, Int.reducePow, Int.reduceNeg, Int.reduceToNat, Int.reduceLT, Int.reduceLE, Nat.reduceEqDiff, sidsB, Nat.reduceBEq, keyKD, isIntK]
            have ek : k + 2 * j * 0 + 2 * j = k + 2 * j := by omega
            refine ⟨1, h1, by simp only; omega, [some 0, some 4, some 2], rfl, by simp, by simp [SWeak, AWeak], ?_⟩
            simp [HWeak, BWeak, SWeak, AWeak, boxB, ek]
      · simp only [boxB]
        simp (config := { maxSteps := 1000000 }) (disch := ((try simp only [awL]); omega)) only [MB, Nat.beq_eq, ↓awU, awV, awF, ofVal, ofVal0, isShift, aggK, forall_const, ↓reduceIte, ↓reduceDIte, ↓purePost, combine, idsA, cellsA, srcA, calleeA, refsA, isScalar, scalarD, scalar0, AV.one, putL, unfA, implies_true, IntKind.signed, Nat.reduceAdd, Nat.reduceSub, Nat.reduceMul, Nat.reducePow, Nat.reduceDiv, Nat.reduceMod, Int.reduceAdd, Int.reduceSub, Int.reduceMul, Int.reducePow, Int.reduceNeg, Int.reduceToNat, Int.reduceLT, Int.reduceLE, Nat.reduceEqDiff, sidsB, Nat.reduceBEq, keyKD, isIntK]
        refine LoopC.fr 5765 (α := Nat) (fun j => c - j) (fun j => [(8, .lsl 3 4 0 j), (13, .d (.int .i64 j))])
          (fun j => [DiceB t (k + 2 * c + 2 * j), .box [.lsl 2 4 0 c], .row false (Fr (rowW t (k + 2 * c * 0) c)), .row false (Fr (rowW t (k + 2 * c) j))]) (fun j => j ≤ c) 0 (Nat.zero_le _) ?_ ?_
        · refine ⟨[some 0, some 1, some 2, none], rfl, by simp, by simp [setsA, keepA, SWeak, AWeak], by simp [HWeak, BWeak, SWeak, AWeak, rowW, Fr]⟩
        · intro j hj
          simp only [keepA_z8, keepA_z, keepA_cons, keepA_nil, setsA_nil, setsA_cons, List.set_cons_zero, List.set_cons_succ, set_8, Nat.reduceMod, Nat.reduceDiv, Nat.zero_mod, Nat.zero_ne_one, if_true, if_false, reduceIte]
          rcases Nat.lt_or_ge j c with h2 | h2
          · have n1 := @nx_range t (k + 2 * c + 2 * j) 7 (by decide)
            have n2 := @nx_range t (k + 2 * c + 2 * j + 1) 2 (by decide)
            have n3 := @tab7_range (nx t (k + 2 * c + 2 * j) 7).toNat
            simp (config := { maxSteps := 1000000 }) (disch := ((try simp only [awL]); omega)) only [MB, Nat.beq_eq, ↓awU, awV, awF, ofVal, ofVal0, isShift, aggK, forall_const, ↓reduceIte, ↓reduceDIte, ↓purePost, combine, idsA, cellsA, srcA, calleeA, refsA, isScalar, scalarD, scalar0, AV.one, putL, unfA, implies_true, IntKind.signed, Nat.reduceAdd, Nat.reduceSub, Nat.reduceMul, Nat.reducePow, Nat.reduceDiv, Nat.reduceMod, Int.reduceAdd, Int.reduceSub, Int.reduceMul, Int.reducePow, Int.reduceNeg, Int.reduceToNat, Int.reduceLT, Int.reduceLE, Nat.reduceEqDiff, sidsB, Nat.reduceBEq, keyKD, isIntK]
            refine CallC.by (next_spec t _ 7 ht (by decide) (by decide)) rfl rfl (Nat.le_refl _) ?_
            simp (config := { maxSteps := 1000000 }) (disch := ((try simp only [awL]); omega)) only [MB, Nat.beq_eq, ↓awU, awV, awF, ofVal, ofVal0, isShift, aggK, forall_const, ↓reduceIte, ↓reduceDIte, ↓purePost, combine, idsA, cellsA, srcA, calleeA, refsA, isScalar, scalarD, scalar0, AV.one, putL, unfA, implies_true, IntKind.signed, Nat.reduceAdd, Nat.reduceSub, Nat.reduceMul, Nat.reducePow, Nat.reduceDiv, Nat.reduceMod, Int.reduceAdd, Int.reduceSub, Int.reduceMul, Int.reducePow, Int.reduceNeg, Int.reduceToNat, Int.reduceLT, Int.reduceLE, Nat.reduceEqDiff, sidsB, Nat.reduceBEq, keyKD, isIntK]
            rw [tab7_get (by omega)]
            refine CallC.by (next_spec t (k + 2 * c + 2 * j + 1) 2 ht (by decide) (by decide)) rfl rfl (Nat.le_refl _) ?_
            simp (config := { maxSteps := 1000000 }) (disch := ((try simp only [awL]); omega)) only [MB, Nat.beq_eq, ↓awU, awV, awF, ofVal, ofVal0, isShift, aggK, forall_const, ↓reduceIte, ↓reduceDIte, ↓purePost, combine, idsA, cellsA, srcA, calleeA, refsA, isScalar, scalarD, scalar0, AV.one, putL, unfA, implies_true, IntKind.signed, Nat.reduceAdd, Nat.reduceSub, Nat.reduceMul, Nat.reducePow, Nat.reduceDiv, Nat.reduceMod, Int.reduceAdd, Int.reduceSub, Int.reduceMul, Int.reducePow, Int.reduceNeg, Int.reduceToNat, Int.reduceLT, Int.reduceLE, Nat.reduceEqDiff, sidsB, Nat.reduceBEq, keyKD, isIntK]
            refine CallC.pure (part_spec _ _ (by omega) (by omega) (by omega) (by omega)) ?_
            rw [← ent]
            have q1 : (rowW t (k + 2 * c) j).length = j := rowW_length
            have q2 : k + 2 * c + 2 * j + 1 + 1 = k + 2 * c + 2 * (j + 1) := by omega
            simp (config := { maxSteps := 1000000 }) (disch := ((try simp only [awL]); omega)) only [MB, Nat.beq_eq, Fr_length, cut_4, Fr_push, rowW_push, q2, ↓awU, awV, awF, ofVal, ofVal0, isShift, aggK, forall_const, ↓reduceIte, ↓reduceDIte, ↓purePost, combine, idsA, cellsA, srcA, calleeA, refsA, isScalar, scalarD, scalar0, AV.one, putL, unfA, implies_true, IntKind.signed, Nat.reduceAdd, Nat.reduceSub, Nat.reduceMul, Nat.reducePow, Nat.reduceDiv, Nat.reduceMod, Int.reduceAdd, Int.reduceSub, Int.reduceMul, Int.reducePow, Int.reduceNeg, Int.reduceToNat, Int.reduceLT, Int.reduceLE, Nat.reduceEqDiff, sidsB, Nat.reduceBEq, keyKD, isIntK]
            refine ⟨by rfl, j + 1, h2, by simp only; omega, [some 0, some 1, some 2, some 6], rfl, by simp, by simp [SWeak, AWeak], by simp [HWeak, BWeak, SWeak, AWeak]⟩
          · have ej : j = c := by omega
            subst ej
            have q1 : (rowW t (k + 2 * j) j).length = j := rowW_length
            simp (config := { maxSteps := 1000000 }) (disch := ((try simp only [awL]); omega)) only [MB, Nat.beq_eq, ↓awU, awV, awF, ofVal, ofVal0, isShift, aggK, forall_const, ↓reduceIte, ↓reduceDIte, ↓purePost, combine, idsA, cellsA, srcA, calleeA, refsA, isScalar, scalarD, scalar0, AV.one, putL, unfA, implies_true, IntKind.signed, Nat.reduceAdd, Nat.reduceSub, Nat.reduceMul, Nat.reducePow, Nat.reduceDiv, Nat.reduceMod, Int.reduceAdd, Int.reduceSub, Int.reduceMul, Int.reducePow, Int.reduceNeg, Int.reduceToNat, Int.reduceLT, Int.reduceLE, Nat.reduceEqDiff, sidsB, Nat.reduceBEq, keyKD, isIntK]
            have ek : k + 2 * j + 2 * j = k + 2 * j * 2 := by omega
            refine ⟨2, h1, by simp only; omega, [some 0, some 5, some 2, some 3], rfl, by simp, by simp [SWeak, AWeak], ?_⟩
            simp [HWeak, BWeak, SWeak, AWeak, boxB, ek]
      · simp only [boxB]
        simp (config := { maxSteps := 1000000 }) (disch := ((try simp only [awL]); omega)) only [MB, Nat.beq_eq, ↓awU, awV, awF, ofVal, ofVal0, isShift, aggK, forall_const, ↓reduceIte, ↓reduceDIte, ↓purePost, combine, idsA, cellsA, srcA, calleeA, refsA, isScalar, scalarD, scalar0, AV.one, putL, unfA, implies_true, IntKind.signed, Nat.reduceAdd, Nat.reduceSub, Nat.reduceMul, Nat.reducePow, Nat.reduceDiv, Nat.reduceMod, Int.reduceAdd, Int.reduceSub, Int.reduceMul, Int.reducePow, Int.reduceNeg, Int.reduceToNat, Int.reduceLT, Int.reduceLE, Nat.reduceEqDiff, sidsB, Nat.reduceBEq, keyKD, isIntK]
        refine LoopC.fr 5765 (α := Nat) (fun j => c - j) (fun j => [(8, .lsl 4 4 0 j), (13, .d (.int .i64 j))])
          (fun j => [DiceB t (k + 2 * c * 2 + 2 * j), .box [.lsl 2 4 0 c, .lsl 3 4 0 c], .row false (Fr (rowW t (k + 2 * c * 0) c)), .row false (Fr (rowW t (k + 2 * c) c)), .row false (Fr (rowW t (k + 2 * c * 2) j))]) (fun j => j ≤ c) 0 (Nat.zero_le _) ?_ ?_
        · refine ⟨[some 0, some 1, some 2, some 3, none], rfl, by simp, by simp [setsA, keepA, SWeak, AWeak], by simp [HWeak, BWeak, SWeak, AWeak, rowW, Fr]⟩
        · intro j hj
          simp only [keepA_z8, keepA_z, keepA_cons, keepA_nil, setsA_nil, setsA_cons, List.set_cons_zero, List.set_cons_succ, set_8, Nat.reduceMod, Nat.reduceDiv, Nat.zero_mod, Nat.zero_ne_one, if_true, if_false, reduceIte]
          rcases Nat.lt_or_ge j c with h2 | h2
          · have n1 := @nx_range t (k + 2 * c * 2 + 2 * j) 7 (by decide)
            have n2 := @nx_range t (k + 2 * c * 2 + 2 * j + 1) 2 (by decide)
            have n3 := @tab7_range (nx t (k + 2 * c * 2 + 2 * j) 7).toNat
            simp (config := { maxSteps := 1000000 }) (disch := ((try simp only [awL]); omega)) only [MB, Nat.beq_eq, ↓awU, awV, awF, ofVal, ofVal0, isShift, aggK, forall_const, ↓reduceIte, ↓reduceDIte, ↓purePost, combine, idsA, cellsA, srcA, calleeA, refsA, isScalar, scalarD, scalar0, AV.one, putL, unfA, implies_true, IntKind.signed, Nat.reduceAdd, Nat.reduceSub, Nat.reduceMul, Nat.reducePow, Nat.reduceDiv, Nat.reduceMod, Int.reduceAdd, Int.reduceSub, Int.reduceMul, Int.reducePow, Int.reduceNeg, Int.reduceToNat, Int.reduceLT, Int.reduceLE, Nat.reduceEqDiff, sidsB, Nat.reduceBEq, keyKD, isIntK]
            refine CallC.by (next_spec t _ 7 ht (by decide) (by decide)) rfl rfl (Nat.le_refl _) ?_
            simp (config := { maxSteps := 1000000 }) (disch := ((try simp only [awL]); omega)) only [MB, Nat.beq_eq, ↓awU, awV, awF, ofVal, ofVal0, isShift, aggK, forall_const, ↓reduceIte, ↓reduceDIte, ↓purePost, combine, idsA, cellsA, srcA, calleeA, refsA, isScalar, scalarD, scalar0, AV.one, putL, unfA, implies_true, IntKind.signed, Nat.reduceAdd, Nat.reduceSub, Nat.reduceMul, Nat.reducePow, Nat.reduceDiv, Nat.reduceMod, Int.reduceAdd, Int.reduceSub, Int.reduceMul, Int.reducePow, Int.reduceNeg, Int.reduceToNat, Int.reduceLT, Int.reduceLE, Nat.reduceEqDiff, sidsB, Nat.reduceBEq, keyKD, isIntK]
            rw [tab7_get (by omega)]
            refine CallC.by (next_spec t (k + 2 * c * 2 + 2 * j + 1) 2 ht (by decide) (by decide)) rfl rfl (Nat.le_refl _) ?_
            simp (config := { maxSteps := 1000000 }) (disch := ((try simp only [awL]); omega)) only [MB, Nat.beq_eq, ↓awU, awV, awF, ofVal, ofVal0, isShift, aggK, forall_const, ↓reduceIte, ↓reduceDIte, ↓purePost, combine, idsA, cellsA, srcA, calleeA, refsA, isScalar, scalarD, scalar0, AV.one, putL, unfA, implies_true, IntKind.signed, Nat.reduceAdd, Nat.reduceSub, Nat.reduceMul, Nat.reducePow, Nat.reduceDiv, Nat.reduceMod, Int.reduceAdd, Int.reduceSub, Int.reduceMul, Int.reducePow, Int.reduceNeg, Int.reduceToNat, Int.reduceLT, Int.reduceLE, Nat.reduceEqDiff, sidsB, Nat.reduceBEq, keyKD, isIntK]
            refine CallC.pure (part_spec _ _ (by omega) (by omega) (by omega) (by omega)) ?_
            rw [← ent]
            have q1 : (rowW t (k + 2 * c * 2) j).length = j := rowW_length
            have q2 : k + 2 * c * 2 + 2 * j + 1 + 1 = k + 2 * c * 2 + 2 * (j + 1) := by omega
            simp (config := { maxSteps := 1000000 }) (disch := ((try simp only [awL]); omega)) only [MB, Nat.beq_eq, Fr_length, cut_4, Fr_push, rowW_push, q2, ↓awU, awV, awF, ofVal, ofVal0, isShift, aggK, forall_const, ↓reduceIte, ↓reduceDIte, ↓purePost, combine, idsA, cellsA, srcA, calleeA, refsA, isScalar, scalarD, scalar0, AV.one, putL, unfA, implies_true, IntKind.signed, Nat.reduceAdd, Nat.reduceSub, Nat.reduceMul, Nat.reducePow, Nat.reduceDiv, Nat.reduceMod, Int.reduceAdd, Int.reduceSub, Int.reduceMul, Int.reducePow, Int.reduceNeg, Int.reduceToNat, Int.reduceLT, Int.reduceLE, Nat.reduceEqDiff, sidsB, Nat.reduceBEq, keyKD, isIntK]
            refine ⟨by rfl, j + 1, h2, by simp only; omega, [some 0, some 1, some 2, some 3, some 7], rfl, by simp, by simp [SWeak, AWeak], by simp [HWeak, BWeak, SWeak, AWeak]⟩
          · have ej : j = c := by omega
            subst ej
            have q1 : (rowW t (k + 2 * j * 2) j).length = j := rowW_length
            simp (config := { maxSteps := 1000000 }) (disch := ((try simp only [awL]); omega)) only [MB, Nat.beq_eq, ↓awU, awV, awF, ofVal, ofVal0, isShift, aggK, forall_const, ↓reduceIte, ↓reduceDIte, ↓purePost, combine, idsA, cellsA, srcA, calleeA, refsA, isScalar, scalarD, scalar0, AV.one, putL, unfA, implies_true, IntKind.signed, Nat.reduceAdd, Nat.reduceSub, Nat.reduceMul, Nat.reducePow, Nat.reduceDiv, Nat.reduceMod, Int.reduceAdd, Int.reduceSub, Int.reduceMul, Int.reducePow, Int.reduceNeg, Int.reduceToNat, Int.reduceLT, Int.reduceLE, Nat.reduceEqDiff, sidsB, Nat.reduceBEq, keyKD, isIntK]
            have ek : k + 2 * j * 2 + 2 * j = k + 2 * j * 3 := by omega
            refine ⟨3, h1, by simp only; omega, [some 0, some 6, some 2, some 3, some 4], rfl, by simp, by simp [SWeak, AWeak], ?_⟩
            simp [HWeak, BWeak, SWeak, AWeak, boxB, ek]
      · simp only [boxB]
        simp (config := { maxSteps := 1000000 }) (disch := ((try simp only [awL]); omega)) only [MB, Nat.beq_eq, ↓awU, awV, awF, ofVal, ofVal0, isShift, aggK, forall_const, ↓reduceIte, ↓reduceDIte, ↓purePost, combine, idsA, cellsA, srcA, calleeA, refsA, isScalar, scalarD, scalar0, AV.one, putL, unfA, implies_true, IntKind.signed, Nat.reduceAdd, Nat.reduceSub, Nat.reduceMul, Nat.reducePow, Nat.reduceDiv, Nat.reduceMod, Int.reduceAdd, Int.reduceSub, Int.reduceMul, Int.reducePow, Int.reduceNeg, Int.reduceToNat, Int.reduceLT, Int.reduceLE, Nat.reduceEqDiff, sidsB, Nat.reduceBEq, keyKD, isIntK]
        refine LoopC.fr 5765 (α := Nat) (fun j => c - j) (fun j => [(8, .lsl 5 4 0 j), (13, .d (.int .i64 j))])
          (fun j => [DiceB t (k + 2 * c * 3 + 2 * j), .box [.lsl 2 4 0 c, .lsl 3 4 0 c, .lsl 4 4 0 c], .row false (Fr (rowW t (k + 2 * c * 0) c)), .row false (Fr (rowW t (k + 2 * c) c)), .row false (Fr (rowW t (k + 2 * c * 2) c)), .row false (Fr (rowW t (k + 2 * c * 3) j))]) (fun j => j ≤ c) 0 (Nat.zero_le _) ?_ ?_
        · refine ⟨[some 0, some 1, some 2, some 3, some 4, none], rfl, by simp, by simp [setsA, keepA, SWeak, AWeak], by simp [HWeak, BWeak, SWeak, AWeak, rowW, Fr]⟩
        · intro j hj
          simp only [keepA_z8, keepA_z, keepA_cons, keepA_nil, setsA_nil, setsA_cons, List.set_cons_zero, List.set_cons_succ, set_8, Nat.reduceMod, Nat.reduceDiv, Nat.zero_mod, Nat.zero_ne_one, if_true, if_false, reduceIte]
          rcases Nat.lt_or_ge j c with h2 | h2
          · have n1 := @nx_range t (k + 2 * c * 3 + 2 * j) 7 (by decide)
            have n2 := @nx_range t (k + 2 * c * 3 + 2 * j + 1) 2 (by decide)
            have n3 := @tab7_range (nx t (k + 2 * c * 3 + 2 * j) 7).toNat
            simp (config := { maxSteps := 1000000 }) (disch := ((try simp only [awL]); omega)) only [MB, Nat.beq_eq, ↓awU, awV, awF, ofVal, ofVal0, isShift, aggK, forall_const, ↓reduceIte, ↓reduceDIte, ↓purePost, combine, idsA, cellsA, srcA, calleeA, refsA, isScalar, scalarD, scalar0, AV.one, putL, unfA, implies_true, IntKind.signed, Nat.reduceAdd, Nat.reduceSub, Nat.reduceMul, Nat.reducePow, Nat.reduceDiv, Nat.reduceMod, Int.reduceAdd, Int.reduceSub, Int.reduceMul, Int.reducePow, Int.reduceNeg, Int.reduceToNat, Int.reduceLT, Int.reduceLE, Nat.reduceEqDiff, sidsB, Nat.reduceBEq, keyKD, isIntK]
            refine CallC.by (next_spec t _ 7 ht (by decide) (by decide)) rfl rfl (Nat.le_refl _) ?_
            simp (config := { maxSteps := 1000000 }) (disch := ((try simp only [awL]); omega)) only [MB, Nat.beq_eq, ↓awU, awV, awF, ofVal, ofVal0, isShift, aggK, forall_const, ↓reduceIte, ↓reduceDIte, ↓purePost, combine, idsA, cellsA, srcA, calleeA, refsA, isScalar, scalarD, scalar0, AV.one, putL, unfA, implies_true, IntKind.signed, Nat.reduceAdd, Nat.reduceSub, Nat.reduceMul, Nat.reducePow, Nat.reduceDiv, Nat.reduceMod, Int.reduceAdd, Int.reduceSub, Int.reduceMul, Int.reducePow, Int.reduceNeg, Int.reduceToNat, Int.reduceLT, Int.reduceLE, Nat.reduceEqDiff, sidsB, Nat.reduceBEq, keyKD, isIntK]
            rw [tab7_get (by omega)]
            refine CallC.by (next_spec t (k + 2 * c * 3 + 2 * j + 1) 2 ht (by decide) (by decide)) rfl rfl (Nat.le_refl _) ?_
            simp (config := { maxSteps := 1000000 }) (disch := ((try simp only [awL]); omega)) only [MB, Nat.beq_eq, ↓awU, awV, awF, ofVal, ofVal0, isShift, aggK, forall_const, ↓reduceIte, ↓reduceDIte, ↓purePost, combine, idsA, cellsA, srcA, calleeA, refsA, isScalar, scalarD, scalar0, AV.one, putL, unfA, implies_true, IntKind.signed, Nat.reduceAdd, Nat.reduceSub, Nat.reduceMul, Nat.reducePow, Nat.reduceDiv, Nat.reduceMod, Int.reduceAdd, Int.reduceSub, Int.reduceMul, Int.reducePow, Int.reduceNeg, Int.reduceToNat, Int.reduceLT, Int.reduceLE, Nat.reduceEqDiff, sidsB, Nat.reduceBEq, keyKD, isIntK]
            refine CallC.pure (part_spec _ _ (by omega) (by omega) (by omega) (by omega)) ?_
            rw [← ent]
            have q1 : (rowW t (k + 2 * c * 3) j).length = j := rowW_length
            have q2 : k + 2 * c * 3 + 2 * j + 1 + 1 = k + 2 * c * 3 + 2 * (j + 1) := by omega
            simp (config := { maxSteps := 1000000 }) (disch := ((try simp only [awL]); omega)) only [MB, Nat.beq_eq, Fr_length, cut_4, Fr_push, rowW_push, q2, ↓awU, awV, awF, ofVal, ofVal0, isShift, aggK, forall_const, ↓reduceIte, ↓reduceDIte, ↓purePost, combine, idsA, cellsA, srcA, calleeA, refsA, isScalar, scalarD, scalar0, AV.one, putL, unfA, implies_true, IntKind.signed, Nat.reduceAdd, Nat.reduceSub, Nat.reduceMul, Nat.reducePow, Nat.reduceDiv, Nat.reduceMod, Int.reduceAdd, Int.reduceSub, Int.reduceMul, Int.reducePow, Int.reduceNeg, Int.reduceToNat, Int.reduceLT, Int.reduceLE, Nat.reduceEqDiff, sidsB, Nat.reduceBEq, keyKD, isIntK]
            refine ⟨by rfl, j + 1, h2, by simp only; omega, [some 0, some 1, some 2, some 3, some 4, some 8], rfl, by simp, by simp [SWeak, AWeak], by simp [HWeak, BWeak, SWeak, AWeak]⟩
          · have ej : j = c := by omega
            subst ej
            have q1 : (rowW t (k + 2 * j * 3) j).length = j := rowW_length
            simp (config := { maxSteps := 1000000 }) (disch := ((try simp only [awL]); omega)) only [MB, Nat.beq_eq, ↓awU, awV, awF, ofVal, ofVal0, isShift, aggK, forall_const, ↓reduceIte, ↓reduceDIte, ↓purePost, combine, idsA, cellsA, srcA, calleeA, refsA, isScalar, scalarD, scalar0, AV.one, putL, unfA, implies_true, IntKind.signed, Nat.reduceAdd, Nat.reduceSub, Nat.reduceMul, Nat.reducePow, Nat.reduceDiv, Nat.reduceMod, Int.reduceAdd, Int.reduceSub, Int.reduceMul, Int.reducePow, Int.reduceNeg, Int.reduceToNat, Int.reduceLT, Int.reduceLE, Nat.reduceEqDiff, sidsB, Nat.reduceBEq, keyKD, isIntK]
            have ek : k + 2 * j * 3 + 2 * j = k + 2 * j * 4 := by omega
            refine ⟨4, h1, by simp only; omega, [some 0, some 7, some 2, some 3, some 4, some 5], rfl, by simp, by simp [SWeak, AWeak], ?_⟩
            simp [HWeak, BWeak, SWeak, AWeak, boxB, ek]
    · have ei : i = r := by omega
      subst ei
      obtain rfl | rfl | rfl | rfl | rfl : i = 0 ∨ i = 1 ∨ i = 2 ∨ i = 3 ∨ i = 4 := by omega
      · simp only [boxB]
        simp (config := { maxSteps := 1000000 }) (disch := ((try simp only [awL]); omega)) only [MB, Nat.beq_eq, ↓awU, awV, awF, ofVal, ofVal0, isShift, aggK, forall_const, ↓reduceIte, ↓reduceDIte, ↓purePost, combine, idsA, cellsA, srcA, calleeA, refsA, isScalar, scalarD, scalar0, AV.one, putL, unfA, implies_true, IntKind.signed, Nat.reduceAdd, Nat.reduceSub, Nat.reduceMul, Nat.reducePow, Nat.reduceDiv, Nat.reduceMod, Int.reduceAdd, Int.reduceSub, Int.reduceMul, Int.reducePow, Int.reduceNeg, Int.reduceToNat, Int.reduceLT, Int.reduceLE, Nat.reduceEqDiff, sidsB, Nat.reduceBEq, keyKD, isIntK]
        exact ⟨[some 0, some 1], rfl, by simp, by simp [HWeak, BWeak, SWeak, AWeak], .inl (by simp [AWeak])⟩
      · simp only [boxB]
        simp (config := { maxSteps := 1000000 }) (disch := ((try simp only [awL]); omega)) only [MB, Nat.beq_eq, ↓awU, awV, awF, ofVal, ofVal0, isShift, aggK, forall_const, ↓reduceIte, ↓reduceDIte, ↓purePost, combine, idsA, cellsA, srcA, calleeA, refsA, isScalar, scalarD, scalar0, AV.one, putL, unfA, implies_true, IntKind.signed, Nat.reduceAdd, Nat.reduceSub, Nat.reduceMul, Nat.reducePow, Nat.reduceDiv, Nat.reduceMod, Int.reduceAdd, Int.reduceSub, Int.reduceMul, Int.reducePow, Int.reduceNeg, Int.reduceToNat, Int.reduceLT, Int.reduceLE, Nat.reduceEqDiff, sidsB, Nat.reduceBEq, keyKD, isIntK]
        exact ⟨[some 0, some 1, some 2], rfl, by simp, by simp [HWeak, BWeak, SWeak, AWeak], .inl (by simp [AWeak])⟩
      · simp only [boxB]
        simp (config := { maxSteps := 1000000 }) (disch := ((try simp only [awL]); omega)) only [MB, Nat.beq_eq, ↓awU, awV, awF, ofVal, ofVal0, isShift, aggK, forall_const, ↓reduceIte, ↓reduceDIte, ↓purePost, combine, idsA, cellsA, srcA, calleeA, refsA, isScalar, scalarD, scalar0, AV.one, putL, unfA, implies_true, IntKind.signed, Nat.reduceAdd, Nat.reduceSub, Nat.reduceMul, Nat.reducePow, Nat.reduceDiv, Nat.reduceMod, Int.reduceAdd, Int.reduceSub, Int.reduceMul, Int.reducePow, Int.reduceNeg, Int.reduceToNat, Int.reduceLT, Int.reduceLE, Nat.reduceEqDiff, sidsB, Nat.reduceBEq, keyKD, isIntK]
        exact ⟨[some 0, some 1, some 2, some 3], rfl, by simp, by simp [HWeak, BWeak, SWeak, AWeak], .inl (by simp [AWeak])⟩
      · simp only [boxB]
        simp (config := { maxSteps := 1000000 }) (disch := ((try simp only [awL]); omega)) only [MB, Nat.beq_eq, ↓awU, awV, awF, ofVal, ofVal0, isShift, aggK, forall_const, ↓reduceIte, ↓reduceDIte, ↓purePost, combine, idsA, cellsA, srcA, calleeA, refsA, isScalar, scalarD, scalar0, AV.one, putL, unfA, implies_true, IntKind.signed, Nat.reduceAdd, Nat.reduceSub, Nat.reduceMul, Nat.reducePow, Nat.reduceDiv, Nat.reduceMod, Int.reduceAdd, Int.reduceSub, Int.reduceMul, Int.reducePow, Int.reduceNeg, Int.reduceToNat, Int.reduceLT, Int.reduceLE, Nat.reduceEqDiff, sidsB, Nat.reduceBEq, keyKD, isIntK]
        exact ⟨[some 0, some 1, some 2, some 3, some 4], rfl, by simp, by simp [HWeak, BWeak, SWeak, AWeak], .inl (by simp [AWeak])⟩
      · simp only [boxB]
        simp (config := { maxSteps := 1000000 }) (disch := ((try simp only [awL]); omega)) only [MB, Nat.beq_eq, ↓awU, awV, awF, ofVal, ofVal0, isShift, aggK, forall_const, ↓reduceIte, ↓reduceDIte, ↓purePost, combine, idsA, cellsA, srcA, calleeA, refsA, isScalar, scalarD, scalar0, AV.one, putL, unfA, implies_true, IntKind.signed, Nat.reduceAdd, Nat.reduceSub, Nat.reduceMul, Nat.reducePow, Nat.reduceDiv, Nat.reduceMod, Int.reduceAdd, Int.reduceSub, Int.reduceMul, Int.reducePow, Int.reduceNeg, Int.reduceToNat, Int.reduceLT, Int.reduceLE, Nat.reduceEqDiff, sidsB, Nat.reduceBEq, keyKD, isIntK]
        exact ⟨[some 0, some 1, some 2, some 3, some 4, some 5], rfl, by simp, by simp [HWeak, BWeak, SWeak, AWeak], .inl (by simp [AWeak])⟩
end Go.Proofs.YtkppgdialedoeaaDoor

namespace Go.Proofs.YtkppgdialedoeaaDoor
open Go Go.Proofs Go.Abs
variable {G : Globals}
/-! AssignmentBest: both answers are bestR. -/
theorem bestR_shape {w : List (List Rat)} (hw : Wok w) : ∃ l x d e, bestR w = .tup [.sl l.length false (ints .i64 l), FracI x d, .int .i64 e] ∧ l.length < 2 ^ 40 ∧ sz x < 2 ^ 40 ∧ sz d < 2 ^ 40 := by
  have z : sz 0 < 2 ^ 40 := by have := bigz; omega
  unfold bestR
  split
  · exact ⟨[], 0, 0, _, by rw [Zf_I]; rfl, by decide, z, z⟩
  · rename_i hv
    have hv0 : validE w = 0 := Decidable.byContradiction hv
    have h8 := (valid_sides hv0).1
    have fv := (bst_Sm w (fun r hr => hw.sm r hr) 0).FV (by omega)
    have hbl : (bestL w 0).length = w.length := ((feas_plain w 0 _).1 (bestL_ok w 0).1).1
    refine ⟨bestL w 0, (bst w 0).num, (bst w 0).den, 0, by rw [Frac_I], by omega, by have := fv.1; omega, ?_⟩
    have := fv.2
    simp only [sz, Int.natAbs_natCast]; omega
theorem addNil_ok {w : List (List Rat)} (hw : Wok w) (hl : w.length ≤ 500) : Wok (w ++ [[]]) := by
  refine ⟨by rw [List.length_append]; simp only [List.length_cons, List.length_nil]; omega, fun i => ?_, fun row hrow x hx => ?_⟩
  · rw [List.getD_eq_getElem?_getD, List.getElem?_append]
    split
    · have := hw.row i; rwa [List.getD_eq_getElem?_getD] at this
    · rcases h : i - w.length with _ | n <;> simp
  · rcases List.mem_append.1 hrow with h | h
    · exact hw.sm _ h _ hx
    · obtain rfl : row = [] := by simpa using h
      cases hx
theorem cut_none {α : Type} {l : List α} : cut l 0 0 = [] := by simp [cut]
theorem MxL_nil {w : List (List Rat)} : MxL w ++ [.sl 0 false []] = MxL (w ++ [[]]) := by simp [MxL, Fr]
set_option maxHeartbeats 8000000 in
set_option maxRecDepth 100000 in
theorem best_law0 (hG : HG G) (t : List Int) (hT : OkT t) (what pos by' : Int) (hw1 : -9223372036854775808 ≤ what) (hw2 : what ≤ 9223372036854775807) (hb1 : -9223372036854775808 ≤ by') (hb2 : by' ≤ 9223372036854775807)
    (r c : Nat) (hr : nx t 0 5 = r) (hc : nx t 1 5 = c) (n2 : what % 8 ≠ 2) (n3 : what % 8 ≠ 3) : Ctr Tryd.prog G 3 [.d (.sl t.length false (ints .i64 t)), .d (.int .i64 what), .d (.int .i64 pos), .d (.int .i64 by')] [] (.d (.bool true)) [] := by
  have n1 := @nx_range t 0 5 (by decide)
  have n2 := @nx_range t 1 5 (by decide)
  refine Ctr.pure (M := M0) hmix Tryd.func3 rfl go3 ?_
  simp (config := { maxSteps := 1000000 }) (disch := ((try simp only [awL]); omega)) only [Tryd.f3, ↓awU, awV, awF, ofVal, ofVal0, isShift, aggK, forall_const, ↓reduceIte, ↓reduceDIte, ↓purePost, combine, idsA, cellsA, srcA, calleeA, refsA, isScalar, scalarD, scalar0, AV.one, putL, unfA, implies_true, IntKind.signed, Nat.reduceAdd, Nat.reduceSub, Nat.reduceMul, Nat.reducePow, Nat.reduceDiv, Nat.reduceMod, Int.reduceAdd, Int.reduceSub, Int.reduceMul, Int.reducePow, Int.reduceNeg, Int.reduceToNat, Int.reduceLT, Int.reduceLE, Nat.reduceEqDiff, sidsB, Nat.reduceBEq, keyKD, isIntK]
  refine CallC.pure (light_spec t) ?_
  rw [decide_eq_true hT.1]
  simp (config := { maxSteps := 1000000 }) (disch := ((try simp only [awL]); omega)) only [↓awU, awV, awF, ofVal, ofVal0, isShift, aggK, forall_const, ↓reduceIte, ↓reduceDIte, ↓purePost, combine, idsA, cellsA, srcA, calleeA, refsA, isScalar, scalarD, scalar0, AV.one, putL, unfA, implies_true, IntKind.signed, Nat.reduceAdd, Nat.reduceSub, Nat.reduceMul, Nat.reducePow, Nat.reduceDiv, Nat.reduceMod, Int.reduceAdd, Int.reduceSub, Int.reduceMul, Int.reducePow, Int.reduceNeg, Int.reduceToNat, Int.reduceLT, Int.reduceLE, Nat.reduceEqDiff, sidsB, Nat.reduceBEq, keyKD, isIntK]
  refine CallC.by (roll_spec t hT.1) rfl rfl (Nat.zero_le _) ?_
  simp (config := { maxSteps := 1000000 }) (disch := ((try simp only [awL]); omega)) only [↓awU, awV, awF, ofVal, ofVal0, isShift, aggK, forall_const, ↓reduceIte, ↓reduceDIte, ↓purePost, combine, idsA, cellsA, srcA, calleeA, refsA, isScalar, scalarD, scalar0, AV.one, putL, unfA, implies_true, IntKind.signed, Nat.reduceAdd, Nat.reduceSub, Nat.reduceMul, Nat.reducePow, Nat.reduceDiv, Nat.reduceMod, Int.reduceAdd, Int.reduceSub, Int.reduceMul, Int.reducePow, Int.reduceNeg, Int.reduceToNat, Int.reduceLT, Int.reduceLE, Nat.reduceEqDiff, sidsB, Nat.reduceBEq, keyKD, isIntK]
  refine CallC.by (next_spec t 0 5 hT (by decide) (by decide)) (by rfl) (by rfl) (Nat.le_refl _) ?_
  simp (config := { maxSteps := 1000000 }) (disch := ((try simp only [awL]); omega)) only [↓awU, awV, awF, ofVal, ofVal0, isShift, aggK, forall_const, ↓reduceIte, ↓reduceDIte, ↓purePost, combine, idsA, cellsA, srcA, calleeA, refsA, isScalar, scalarD, scalar0, AV.one, putL, unfA, implies_true, IntKind.signed, Nat.reduceAdd, Nat.reduceSub, Nat.reduceMul, Nat.reducePow, Nat.reduceDiv, Nat.reduceMod, Int.reduceAdd, Int.reduceSub, Int.reduceMul, Int.reducePow, Int.reduceNeg, Int.reduceToNat, Int.reduceLT, Int.reduceLE, Nat.reduceEqDiff, sidsB, Nat.reduceBEq, keyKD, isIntK]
  refine CallC.by (next_spec t 1 5 hT (by decide) (by decide)) (by rfl) (by rfl) (Nat.le_refl _) ?_
  simp (config := { maxSteps := 1000000 }) (disch := ((try simp only [awL]); omega)) only [↓awU, awV, awF, ofVal, ofVal0, isShift, aggK, forall_const, ↓reduceIte, ↓reduceDIte, ↓purePost, combine, idsA, cellsA, srcA, calleeA, refsA, isScalar, scalarD, scalar0, AV.one, putL, unfA, implies_true, IntKind.signed, Nat.reduceAdd, Nat.reduceSub, Nat.reduceMul, Nat.reducePow, Nat.reduceDiv, Nat.reduceMod, Int.reduceAdd, Int.reduceSub, Int.reduceMul, Int.reducePow, Int.reduceNeg, Int.reduceToNat, Int.reduceLT, Int.reduceLE, Nat.reduceEqDiff, sidsB, Nat.reduceBEq, keyKD, isIntK]
  rw [hr, hc]
  refine CallC.by (weights_spec t 2 r c hT (by omega) (by omega)) (by rfl) (by rfl) (Nat.le_refl _) ?_
  have hw := @matW_ok t 2 r c (by omega) (by omega)
  generalize matW t 2 r c = w at *
  generalize 2 + 2 * c * r = K at *
  simp (config := { maxSteps := 1000000 }) (disch := ((try simp only [awL]); omega)) only [↓awU, awV, awF, ofVal, ofVal0, isShift, aggK, forall_const, ↓reduceIte, ↓reduceDIte, ↓purePost, combine, idsA, cellsA, srcA, calleeA, refsA, isScalar, scalarD, scalar0, AV.one, putL, unfA, implies_true, IntKind.signed, Nat.reduceAdd, Nat.reduceSub, Nat.reduceMul, Nat.reducePow, Nat.reduceDiv, Nat.reduceMod, Int.reduceAdd, Int.reduceSub, Int.reduceMul, Int.reducePow, Int.reduceNeg, Int.reduceToNat, Int.reduceLT, Int.reduceLE, Nat.reduceEqDiff, sidsB, Nat.reduceBEq, keyKD, isIntK]
  refine CallC.pure (mod_spec what 8 hw1 hw2 (by decide) (by decide)) ?_
  have hz := Int.emod_nonneg what (show (8 : Int) ≠ 0 by decide)
  have hz2 := Int.emod_lt_of_pos what (show (0 : Int) < 8 by decide)
  generalize what % 8 = z at *
  by_cases e0 : z = 0
  · subst e0
    simp (config := { maxSteps := 1000000 }) (disch := ((try simp only [awL]); omega)) only [↓awU, awV, awF, ofVal, ofVal0, isShift, aggK, forall_const, ↓reduceIte, ↓reduceDIte, ↓purePost, combine, idsA, cellsA, srcA, calleeA, refsA, isScalar, scalarD, scalar0, AV.one, putL, unfA, implies_true, IntKind.signed, Nat.reduceAdd, Nat.reduceSub, Nat.reduceMul, Nat.reducePow, Nat.reduceDiv, Nat.reduceMod, Int.reduceAdd, Int.reduceSub, Int.reduceMul, Int.reducePow, Int.reduceNeg, Int.reduceToNat, Int.reduceLT, Int.reduceLE, Nat.reduceEqDiff, sidsB, Nat.reduceBEq, keyKD, isIntK]
    refine CallC.pure (mod_spec by' 2 hb1 hb2 (by decide) (by decide)) ?_
    have hy := Int.emod_nonneg by' (show (2 : Int) ≠ 0 by decide)
    have hy2 := Int.emod_lt_of_pos by' (show (0 : Int) < 2 by decide)
    generalize by' % 2 = y at *
    obtain ⟨q, rfl⟩ : ∃ q : Nat, y = q := ⟨y.toNat, by omega⟩
    simp (config := { maxSteps := 1000000 }) (disch := ((try simp only [awL]); omega)) only [↓awU, awV, awF, ofVal, ofVal0, isShift, aggK, forall_const, ↓reduceIte, ↓reduceDIte, ↓purePost, combine, idsA, cellsA, srcA, calleeA, refsA, isScalar, scalarD, scalar0, AV.one, putL, unfA, implies_true, IntKind.signed, Nat.reduceAdd, Nat.reduceSub, Nat.reduceMul, Nat.reducePow, Nat.reduceDiv, Nat.reduceMod, Int.reduceAdd, Int.reduceSub, Int.reduceMul, Int.reducePow, Int.reduceNeg, Int.reduceToNat, Int.reduceLT, Int.reduceLE, Nat.reduceEqDiff, sidsB, Nat.reduceBEq, keyKD, isIntK]
    refine CallC.by (weights_spec t K (8 + q) 2 hT (by omega) (by omega)) (by simp) (by rfl) (Nat.le_refl _) ?_
    have hw := @matW_ok t K (8 + q) 2 (by omega) (by omega)
    generalize matW t K (8 + q) 2 = w at *
    simp (config := { maxSteps := 1000000 }) (disch := ((try simp only [awL]); omega)) only [↓awU, awV, awF, ofVal, ofVal0, isShift, aggK, forall_const, ↓reduceIte, ↓reduceDIte, ↓purePost, combine, idsA, cellsA, srcA, calleeA, refsA, isScalar, scalarD, scalar0, AV.one, putL, unfA, implies_true, IntKind.signed, Nat.reduceAdd, Nat.reduceSub, Nat.reduceMul, Nat.reducePow, Nat.reduceDiv, Nat.reduceMod, Int.reduceAdd, Int.reduceSub, Int.reduceMul, Int.reducePow, Int.reduceNeg, Int.reduceToNat, Int.reduceLT, Int.reduceLE, Nat.reduceEqDiff, sidsB, Nat.reduceBEq, keyKD, isIntK]
    refine CallC.pure (best_spec hG w hw) ?_
    obtain ⟨l, x, d, e, hR, z0, z1, z2⟩ := bestR_shape hw
    rw [hR]
    simp (config := { maxSteps := 1000000 }) (disch := ((try simp only [awL]); omega)) only [↓awU, awV, awF, ofVal, ofVal0, isShift, aggK, forall_const, ↓reduceIte, ↓reduceDIte, ↓purePost, combine, idsA, cellsA, srcA, calleeA, refsA, isScalar, scalarD, scalar0, AV.one, putL, unfA, implies_true, IntKind.signed, Nat.reduceAdd, Nat.reduceSub, Nat.reduceMul, Nat.reducePow, Nat.reduceDiv, Nat.reduceMod, Int.reduceAdd, Int.reduceSub, Int.reduceMul, Int.reducePow, Int.reduceNeg, Int.reduceToNat, Int.reduceLT, Int.reduceLE, Nat.reduceEqDiff, sidsB, Nat.reduceBEq, keyKD, isIntK]
    refine CallC.pure (rBest_spec hG w hw) ?_
    rw [hR]
    simp (config := { maxSteps := 1000000 }) (disch := ((try simp only [awL]); omega)) only [↓awU, awV, awF, ofVal, ofVal0, isShift, aggK, forall_const, ↓reduceIte, ↓reduceDIte, ↓purePost, combine, idsA, cellsA, srcA, calleeA, refsA, isScalar, scalarD, scalar0, AV.one, putL, unfA, implies_true, IntKind.signed, Nat.reduceAdd, Nat.reduceSub, Nat.reduceMul, Nat.reducePow, Nat.reduceDiv, Nat.reduceMod, Int.reduceAdd, Int.reduceSub, Int.reduceMul, Int.reducePow, Int.reduceNeg, Int.reduceToNat, Int.reduceLT, Int.reduceLE, Nat.reduceEqDiff, sidsB, Nat.reduceBEq, keyKD, isIntK]
    refine CallC.pure (sameInts_spec l l z0 z0) ?_
    rw [decide_eq_true rfl]
    simp (config := { maxSteps := 1000000 }) (disch := ((try simp only [awL]); omega)) only [↓awU, awV, awF, ofVal, ofVal0, isShift, aggK, forall_const, ↓reduceIte, ↓reduceDIte, ↓purePost, combine, idsA, cellsA, srcA, calleeA, refsA, isScalar, scalarD, scalar0, AV.one, putL, unfA, implies_true, IntKind.signed, Nat.reduceAdd, Nat.reduceSub, Nat.reduceMul, Nat.reducePow, Nat.reduceDiv, Nat.reduceMod, Int.reduceAdd, Int.reduceSub, Int.reduceMul, Int.reducePow, Int.reduceNeg, Int.reduceToNat, Int.reduceLT, Int.reduceLE, Nat.reduceEqDiff, sidsB, Nat.reduceBEq, keyKD, isIntK]
    refine CallC.of (same_spec x d x d z1 z2 z1 z2) (by rfl) ?_
    have es : decide (x = x ∧ d = d) = true := decide_eq_true ⟨rfl, rfl⟩
    rw [es]
    simp (config := { maxSteps := 1000000 }) (disch := ((try simp only [awL]); omega)) only [↓awU, awV, awF, ofVal, ofVal0, isShift, aggK, forall_const, ↓reduceIte, ↓reduceDIte, ↓purePost, combine, idsA, cellsA, srcA, calleeA, refsA, isScalar, scalarD, scalar0, AV.one, putL, unfA, implies_true, IntKind.signed, Nat.reduceAdd, Nat.reduceSub, Nat.reduceMul, Nat.reducePow, Nat.reduceDiv, Nat.reduceMod, Int.reduceAdd, Int.reduceSub, Int.reduceMul, Int.reducePow, Int.reduceNeg, Int.reduceToNat, Int.reduceLT, Int.reduceLE, Nat.reduceEqDiff, sidsB, Nat.reduceBEq, keyKD, isIntK]
    refine CallC.pure (valid27_spec hG w hw.fvs hw.len hw.row) ?_
    simp (config := { maxSteps := 1000000 }) (disch := ((try simp only [awL]); omega)) only [↓awU, awV, awF, ofVal, ofVal0, isShift, aggK, forall_const, ↓reduceIte, ↓reduceDIte, ↓purePost, combine, idsA, cellsA, srcA, calleeA, refsA, isScalar, scalarD, scalar0, AV.one, putL, unfA, implies_true, IntKind.signed, Nat.reduceAdd, Nat.reduceSub, Nat.reduceMul, Nat.reducePow, Nat.reduceDiv, Nat.reduceMod, Int.reduceAdd, Int.reduceSub, Int.reduceMul, Int.reducePow, Int.reduceNeg, Int.reduceToNat, Int.reduceLT, Int.reduceLE, Nat.reduceEqDiff, sidsB, Nat.reduceBEq, keyKD, isIntK]
    refine CallC.pure (rvalid27_spec w hw.fvs hw.len hw.row) ?_
    simp (config := { maxSteps := 1000000 }) (disch := ((try simp only [awL]); omega)) only [↓awU, awV, awF, ofVal, ofVal0, isShift, aggK, forall_const, ↓reduceIte, ↓reduceDIte, ↓purePost, combine, idsA, cellsA, srcA, calleeA, refsA, isScalar, scalarD, scalar0, AV.one, putL, unfA, implies_true, IntKind.signed, Nat.reduceAdd, Nat.reduceSub, Nat.reduceMul, Nat.reducePow, Nat.reduceDiv, Nat.reduceMod, Int.reduceAdd, Int.reduceSub, Int.reduceMul, Int.reducePow, Int.reduceNeg, Int.reduceToNat, Int.reduceLT, Int.reduceLE, Nat.reduceEqDiff, sidsB, Nat.reduceBEq, keyKD, isIntK]
    refine CallC.pure (awake_spec hG) ?_
    simp (config := { maxSteps := 1000000 }) (disch := ((try simp only [awL]); omega)) only [↓awU, awV, awF, ofVal, ofVal0, isShift, aggK, forall_const, ↓reduceIte, ↓reduceDIte, ↓purePost, combine, idsA, cellsA, srcA, calleeA, refsA, isScalar, scalarD, scalar0, AV.one, putL, unfA, implies_true, IntKind.signed, Nat.reduceAdd, Nat.reduceSub, Nat.reduceMul, Nat.reducePow, Nat.reduceDiv, Nat.reduceMod, Int.reduceAdd, Int.reduceSub, Int.reduceMul, Int.reducePow, Int.reduceNeg, Int.reduceToNat, Int.reduceLT, Int.reduceLE, Nat.reduceEqDiff, sidsB, Nat.reduceBEq, keyKD, isIntK]
  · by_cases e1 : z = 1
    · subst e1
      simp (config := { maxSteps := 1000000 }) (disch := ((try simp only [awL]); omega)) only [↓awU, awV, awF, ofVal, ofVal0, isShift, aggK, forall_const, ↓reduceIte, ↓reduceDIte, ↓purePost, combine, idsA, cellsA, srcA, calleeA, refsA, isScalar, scalarD, scalar0, AV.one, putL, unfA, implies_true, IntKind.signed, Nat.reduceAdd, Nat.reduceSub, Nat.reduceMul, Nat.reducePow, Nat.reduceDiv, Nat.reduceMod, Int.reduceAdd, Int.reduceSub, Int.reduceMul, Int.reducePow, Int.reduceNeg, Int.reduceToNat, Int.reduceLT, Int.reduceLE, Nat.reduceEqDiff, sidsB, Nat.reduceBEq, keyKD, isIntK]
      refine CallC.pure (mod_spec by' 2 hb1 hb2 (by decide) (by decide)) ?_
      have hy := Int.emod_nonneg by' (show (2 : Int) ≠ 0 by decide)
      have hy2 := Int.emod_lt_of_pos by' (show (0 : Int) < 2 by decide)
      generalize by' % 2 = y at *
      obtain ⟨q, rfl⟩ : ∃ q : Nat, y = q := ⟨y.toNat, by omega⟩
      simp (config := { maxSteps := 1000000 }) (disch := ((try simp only [awL]); omega)) only [↓awU, awV, awF, ofVal, ofVal0, isShift, aggK, forall_const, ↓reduceIte, ↓reduceDIte, ↓purePost, combine, idsA, cellsA, srcA, calleeA, refsA, isScalar, scalarD, scalar0, AV.one, putL, unfA, implies_true, IntKind.signed, Nat.reduceAdd, Nat.reduceSub, Nat.reduceMul, Nat.reducePow, Nat.reduceDiv, Nat.reduceMod, Int.reduceAdd, Int.reduceSub, Int.reduceMul, Int.reducePow, Int.reduceNeg, Int.reduceToNat, Int.reduceLT, Int.reduceLE, Nat.reduceEqDiff, sidsB, Nat.reduceBEq, keyKD, isIntK]
      refine CallC.by (weights_spec t K 2 (8 + q) hT (by omega) (by omega)) (by simp) (by rfl) (Nat.le_refl _) ?_
      have hw := @matW_ok t K 2 (8 + q) (by omega) (by omega)
      generalize matW t K 2 (8 + q) = w at *
      simp (config := { maxSteps := 1000000 }) (disch := ((try simp only [awL]); omega)) only [↓awU, awV, awF, ofVal, ofVal0, isShift, aggK, forall_const, ↓reduceIte, ↓reduceDIte, ↓purePost, combine, idsA, cellsA, srcA, calleeA, refsA, isScalar, scalarD, scalar0, AV.one, putL, unfA, implies_true, IntKind.signed, Nat.reduceAdd, Nat.reduceSub, Nat.reduceMul, Nat.reducePow, Nat.reduceDiv, Nat.reduceMod, Int.reduceAdd, Int.reduceSub, Int.reduceMul, Int.reducePow, Int.reduceNeg, Int.reduceToNat, Int.reduceLT, Int.reduceLE, Nat.reduceEqDiff, sidsB, Nat.reduceBEq, keyKD, isIntK]
      refine CallC.pure (best_spec hG w hw) ?_
      obtain ⟨l, x, d, e, hR, z0, z1, z2⟩ := bestR_shape hw
      rw [hR]
      simp (config := { maxSteps := 1000000 }) (disch := ((try simp only [awL]); omega)) only [↓awU, awV, awF, ofVal, ofVal0, isShift, aggK, forall_const, ↓reduceIte, ↓reduceDIte, ↓purePost, combine, idsA, cellsA, srcA, calleeA, refsA, isScalar, scalarD, scalar0, AV.one, putL, unfA, implies_true, IntKind.signed, Nat.reduceAdd, Nat.reduceSub, Nat.reduceMul, Nat.reducePow, Nat.reduceDiv, Nat.reduceMod, Int.reduceAdd, Int.reduceSub, Int.reduceMul, Int.reducePow, Int.reduceNeg, Int.reduceToNat, Int.reduceLT, Int.reduceLE, Nat.reduceEqDiff, sidsB, Nat.reduceBEq, keyKD, isIntK]
      refine CallC.pure (rBest_spec hG w hw) ?_
      rw [hR]
      simp (config := { maxSteps := 1000000 }) (disch := ((try simp only [awL]); omega)) only [↓awU, awV, awF, ofVal, ofVal0, isShift, aggK, forall_const, ↓reduceIte, ↓reduceDIte, ↓purePost, combine, idsA, cellsA, srcA, calleeA, refsA, isScalar, scalarD, scalar0, AV.one, putL, unfA, implies_true, IntKind.signed, Nat.reduceAdd, Nat.reduceSub, Nat.reduceMul, Nat.reducePow, Nat.reduceDiv, Nat.reduceMod, Int.reduceAdd, Int.reduceSub, Int.reduceMul, Int.reducePow, Int.reduceNeg, Int.reduceToNat, Int.reduceLT, Int.reduceLE, Nat.reduceEqDiff, sidsB, Nat.reduceBEq, keyKD, isIntK]
      refine CallC.pure (sameInts_spec l l z0 z0) ?_
      rw [decide_eq_true rfl]
      simp (config := { maxSteps := 1000000 }) (disch := ((try simp only [awL]); omega)) only [↓awU, awV, awF, ofVal, ofVal0, isShift, aggK, forall_const, ↓reduceIte, ↓reduceDIte, ↓purePost, combine, idsA, cellsA, srcA, calleeA, refsA, isScalar, scalarD, scalar0, AV.one, putL, unfA, implies_true, IntKind.signed, Nat.reduceAdd, Nat.reduceSub, Nat.reduceMul, Nat.reducePow, Nat.reduceDiv, Nat.reduceMod, Int.reduceAdd, Int.reduceSub, Int.reduceMul, Int.reducePow, Int.reduceNeg, Int.reduceToNat, Int.reduceLT, Int.reduceLE, Nat.reduceEqDiff, sidsB, Nat.reduceBEq, keyKD, isIntK]
      refine CallC.of (same_spec x d x d z1 z2 z1 z2) (by rfl) ?_
      have es : decide (x = x ∧ d = d) = true := decide_eq_true ⟨rfl, rfl⟩
      rw [es]
      simp (config := { maxSteps := 1000000 }) (disch := ((try simp only [awL]); omega)) only [↓awU, awV, awF, ofVal, ofVal0, isShift, aggK, forall_const, ↓reduceIte, ↓reduceDIte, ↓purePost, combine, idsA, cellsA, srcA, calleeA, refsA, isScalar, scalarD, scalar0, AV.one, putL, unfA, implies_true, IntKind.signed, Nat.reduceAdd, Nat.reduceSub, Nat.reduceMul, Nat.reducePow, Nat.reduceDiv, Nat.reduceMod, Int.reduceAdd, Int.reduceSub, Int.reduceMul, Int.reducePow, Int.reduceNeg, Int.reduceToNat, Int.reduceLT, Int.reduceLE, Nat.reduceEqDiff, sidsB, Nat.reduceBEq, keyKD, isIntK]
      refine CallC.pure (valid27_spec hG w hw.fvs hw.len hw.row) ?_
      simp (config := { maxSteps := 1000000 }) (disch := ((try simp only [awL]); omega)) only [↓awU, awV, awF, ofVal, ofVal0, isShift, aggK, forall_const, ↓reduceIte, ↓reduceDIte, ↓purePost, combine, idsA, cellsA, srcA, calleeA, refsA, isScalar, scalarD, scalar0, AV.one, putL, unfA, implies_true, IntKind.signed, Nat.reduceAdd, Nat.reduceSub, Nat.reduceMul, Nat.reducePow, Nat.reduceDiv, Nat.reduceMod, Int.reduceAdd, Int.reduceSub, Int.reduceMul, Int.reducePow, Int.reduceNeg, Int.reduceToNat, Int.reduceLT, Int.reduceLE, Nat.reduceEqDiff, sidsB, Nat.reduceBEq, keyKD, isIntK]
      refine CallC.pure (rvalid27_spec w hw.fvs hw.len hw.row) ?_
      simp (config := { maxSteps := 1000000 }) (disch := ((try simp only [awL]); omega)) only [↓awU, awV, awF, ofVal, ofVal0, isShift, aggK, forall_const, ↓reduceIte, ↓reduceDIte, ↓purePost, combine, idsA, cellsA, srcA, calleeA, refsA, isScalar, scalarD, scalar0, AV.one, putL, unfA, implies_true, IntKind.signed, Nat.reduceAdd, Nat.reduceSub, Nat.reduceMul, Nat.reducePow, Nat.reduceDiv, Nat.reduceMod, Int.reduceAdd, Int.reduceSub, Int.reduceMul, Int.reducePow, Int.reduceNeg, Int.reduceToNat, Int.reduceLT, Int.reduceLE, Nat.reduceEqDiff, sidsB, Nat.reduceBEq, keyKD, isIntK]
      refine CallC.pure (awake_spec hG) ?_
      simp (config := { maxSteps := 1000000 }) (disch := ((try simp only [awL]); omega)) only [↓awU, awV, awF, ofVal, ofVal0, isShift, aggK, forall_const, ↓reduceIte, ↓reduceDIte, ↓purePost, combine, idsA, cellsA, srcA, calleeA, refsA, isScalar, scalarD, scalar0, AV.one, putL, unfA, implies_true, IntKind.signed, Nat.reduceAdd, Nat.reduceSub, Nat.reduceMul, Nat.reducePow, Nat.reduceDiv, Nat.reduceMod, Int.reduceAdd, Int.reduceSub, Int.reduceMul, Int.reducePow, Int.reduceNeg, Int.reduceToNat, Int.reduceLT, Int.reduceLE, Nat.reduceEqDiff, sidsB, Nat.reduceBEq, keyKD, isIntK]
    · by_cases e4 : z = 4
      · subst e4
        simp (config := { maxSteps := 1000000 }) (disch := ((try simp only [awL]); omega)) only [↓awU, awV, awF, ofVal, ofVal0, isShift, aggK, forall_const, ↓reduceIte, ↓reduceDIte, ↓purePost, combine, idsA, cellsA, srcA, calleeA, refsA, isScalar, scalarD, scalar0, AV.one, putL, unfA, implies_true, IntKind.signed, Nat.reduceAdd, Nat.reduceSub, Nat.reduceMul, Nat.reducePow, Nat.reduceDiv, Nat.reduceMod, Int.reduceAdd, Int.reduceSub, Int.reduceMul, Int.reducePow, Int.reduceNeg, Int.reduceToNat, Int.reduceLT, Int.reduceLE, Nat.reduceEqDiff, sidsB, Nat.reduceBEq, keyKD, isIntK]
        refine CallC.by (weights_spec t K 5 6 hT (by omega) (by omega)) (by rfl) (by rfl) (Nat.le_refl _) ?_
        have hw := @matW_ok t K 5 6 (by omega) (by omega)
        generalize matW t K 5 6 = w at *
        simp (config := { maxSteps := 1000000 }) (disch := ((try simp only [awL]); omega)) only [↓awU, awV, awF, ofVal, ofVal0, isShift, aggK, forall_const, ↓reduceIte, ↓reduceDIte, ↓purePost, combine, idsA, cellsA, srcA, calleeA, refsA, isScalar, scalarD, scalar0, AV.one, putL, unfA, implies_true, IntKind.signed, Nat.reduceAdd, Nat.reduceSub, Nat.reduceMul, Nat.reducePow, Nat.reduceDiv, Nat.reduceMod, Int.reduceAdd, Int.reduceSub, Int.reduceMul, Int.reducePow, Int.reduceNeg, Int.reduceToNat, Int.reduceLT, Int.reduceLE, Nat.reduceEqDiff, sidsB, Nat.reduceBEq, keyKD, isIntK]
        refine CallC.pure (best_spec hG w hw) ?_
        obtain ⟨l, x, d, e, hR, z0, z1, z2⟩ := bestR_shape hw
        rw [hR]
        simp (config := { maxSteps := 1000000 }) (disch := ((try simp only [awL]); omega)) only [↓awU, awV, awF, ofVal, ofVal0, isShift, aggK, forall_const, ↓reduceIte, ↓reduceDIte, ↓purePost, combine, idsA, cellsA, srcA, calleeA, refsA, isScalar, scalarD, scalar0, AV.one, putL, unfA, implies_true, IntKind.signed, Nat.reduceAdd, Nat.reduceSub, Nat.reduceMul, Nat.reducePow, Nat.reduceDiv, Nat.reduceMod, Int.reduceAdd, Int.reduceSub, Int.reduceMul, Int.reducePow, Int.reduceNeg, Int.reduceToNat, Int.reduceLT, Int.reduceLE, Nat.reduceEqDiff, sidsB, Nat.reduceBEq, keyKD, isIntK]
        refine CallC.pure (rBest_spec hG w hw) ?_
        rw [hR]
        simp (config := { maxSteps := 1000000 }) (disch := ((try simp only [awL]); omega)) only [↓awU, awV, awF, ofVal, ofVal0, isShift, aggK, forall_const, ↓reduceIte, ↓reduceDIte, ↓purePost, combine, idsA, cellsA, srcA, calleeA, refsA, isScalar, scalarD, scalar0, AV.one, putL, unfA, implies_true, IntKind.signed, Nat.reduceAdd, Nat.reduceSub, Nat.reduceMul, Nat.reducePow, Nat.reduceDiv, Nat.reduceMod, Int.reduceAdd, Int.reduceSub, Int.reduceMul, Int.reducePow, Int.reduceNeg, Int.reduceToNat, Int.reduceLT, Int.reduceLE, Nat.reduceEqDiff, sidsB, Nat.reduceBEq, keyKD, isIntK]
        refine CallC.pure (sameInts_spec l l z0 z0) ?_
        rw [decide_eq_true rfl]
        simp (config := { maxSteps := 1000000 }) (disch := ((try simp only [awL]); omega)) only [↓awU, awV, awF, ofVal, ofVal0, isShift, aggK, forall_const, ↓reduceIte, ↓reduceDIte, ↓purePost, combine, idsA, cellsA, srcA, calleeA, refsA, isScalar, scalarD, scalar0, AV.one, putL, unfA, implies_true, IntKind.signed, Nat.reduceAdd, Nat.reduceSub, Nat.reduceMul, Nat.reducePow, Nat.reduceDiv, Nat.reduceMod, Int.reduceAdd, Int.reduceSub, Int.reduceMul, Int.reducePow, Int.reduceNeg, Int.reduceToNat, Int.reduceLT, Int.reduceLE, Nat.reduceEqDiff, sidsB, Nat.reduceBEq, keyKD, isIntK]
        refine CallC.of (same_spec x d x d z1 z2 z1 z2) (by rfl) ?_
        have es : decide (x = x ∧ d = d) = true := decide_eq_true ⟨rfl, rfl⟩
        rw [es]
        simp (config := { maxSteps := 1000000 }) (disch := ((try simp only [awL]); omega)) only [↓awU, awV, awF, ofVal, ofVal0, isShift, aggK, forall_const, ↓reduceIte, ↓reduceDIte, ↓purePost, combine, idsA, cellsA, srcA, calleeA, refsA, isScalar, scalarD, scalar0, AV.one, putL, unfA, implies_true, IntKind.signed, Nat.reduceAdd, Nat.reduceSub, Nat.reduceMul, Nat.reducePow, Nat.reduceDiv, Nat.reduceMod, Int.reduceAdd, Int.reduceSub, Int.reduceMul, Int.reducePow, Int.reduceNeg, Int.reduceToNat, Int.reduceLT, Int.reduceLE, Nat.reduceEqDiff, sidsB, Nat.reduceBEq, keyKD, isIntK]
        refine CallC.pure (valid27_spec hG w hw.fvs hw.len hw.row) ?_
        simp (config := { maxSteps := 1000000 }) (disch := ((try simp only [awL]); omega)) only [↓awU, awV, awF, ofVal, ofVal0, isShift, aggK, forall_const, ↓reduceIte, ↓reduceDIte, ↓purePost, combine, idsA, cellsA, srcA, calleeA, refsA, isScalar, scalarD, scalar0, AV.one, putL, unfA, implies_true, IntKind.signed, Nat.reduceAdd, Nat.reduceSub, Nat.reduceMul, Nat.reducePow, Nat.reduceDiv, Nat.reduceMod, Int.reduceAdd, Int.reduceSub, Int.reduceMul, Int.reducePow, Int.reduceNeg, Int.reduceToNat, Int.reduceLT, Int.reduceLE, Nat.reduceEqDiff, sidsB, Nat.reduceBEq, keyKD, isIntK]
        refine CallC.pure (rvalid27_spec w hw.fvs hw.len hw.row) ?_
        simp (config := { maxSteps := 1000000 }) (disch := ((try simp only [awL]); omega)) only [↓awU, awV, awF, ofVal, ofVal0, isShift, aggK, forall_const, ↓reduceIte, ↓reduceDIte, ↓purePost, combine, idsA, cellsA, srcA, calleeA, refsA, isScalar, scalarD, scalar0, AV.one, putL, unfA, implies_true, IntKind.signed, Nat.reduceAdd, Nat.reduceSub, Nat.reduceMul, Nat.reducePow, Nat.reduceDiv, Nat.reduceMod, Int.reduceAdd, Int.reduceSub, Int.reduceMul, Int.reducePow, Int.reduceNeg, Int.reduceToNat, Int.reduceLT, Int.reduceLE, Nat.reduceEqDiff, sidsB, Nat.reduceBEq, keyKD, isIntK]
        refine CallC.pure (awake_spec hG) ?_
        simp (config := { maxSteps := 1000000 }) (disch := ((try simp only [awL]); omega)) only [↓awU, awV, awF, ofVal, ofVal0, isShift, aggK, forall_const, ↓reduceIte, ↓reduceDIte, ↓purePost, combine, idsA, cellsA, srcA, calleeA, refsA, isScalar, scalarD, scalar0, AV.one, putL, unfA, implies_true, IntKind.signed, Nat.reduceAdd, Nat.reduceSub, Nat.reduceMul, Nat.reducePow, Nat.reduceDiv, Nat.reduceMod, Int.reduceAdd, Int.reduceSub, Int.reduceMul, Int.reducePow, Int.reduceNeg, Int.reduceToNat, Int.reduceLT, Int.reduceLE, Nat.reduceEqDiff, sidsB, Nat.reduceBEq, keyKD, isIntK]
      · simp (config := { maxSteps := 1000000 }) (disch := ((try simp only [awL]); omega)) only [↓awU, awV, awF, ofVal, ofVal0, isShift, aggK, forall_const, ↓reduceIte, ↓reduceDIte, ↓purePost, combine, idsA, cellsA, srcA, calleeA, refsA, isScalar, scalarD, scalar0, AV.one, putL, unfA, implies_true, IntKind.signed, Nat.reduceAdd, Nat.reduceSub, Nat.reduceMul, Nat.reducePow, Nat.reduceDiv, Nat.reduceMod, Int.reduceAdd, Int.reduceSub, Int.reduceMul, Int.reducePow, Int.reduceNeg, Int.reduceToNat, Int.reduceLT, Int.reduceLE, Nat.reduceEqDiff, sidsB, Nat.reduceBEq, keyKD, isIntK]
        refine CallC.pure (best_spec hG w hw) ?_
        obtain ⟨l, x, d, e, hR, z0, z1, z2⟩ := bestR_shape hw
        rw [hR]
        simp (config := { maxSteps := 1000000 }) (disch := ((try simp only [awL]); omega)) only [↓awU, awV, awF, ofVal, ofVal0, isShift, aggK, forall_const, ↓reduceIte, ↓reduceDIte, ↓purePost, combine, idsA, cellsA, srcA, calleeA, refsA, isScalar, scalarD, scalar0, AV.one, putL, unfA, implies_true, IntKind.signed, Nat.reduceAdd, Nat.reduceSub, Nat.reduceMul, Nat.reducePow, Nat.reduceDiv, Nat.reduceMod, Int.reduceAdd, Int.reduceSub, Int.reduceMul, Int.reducePow, Int.reduceNeg, Int.reduceToNat, Int.reduceLT, Int.reduceLE, Nat.reduceEqDiff, sidsB, Nat.reduceBEq, keyKD, isIntK]
        refine CallC.pure (rBest_spec hG w hw) ?_
        rw [hR]
        simp (config := { maxSteps := 1000000 }) (disch := ((try simp only [awL]); omega)) only [↓awU, awV, awF, ofVal, ofVal0, isShift, aggK, forall_const, ↓reduceIte, ↓reduceDIte, ↓purePost, combine, idsA, cellsA, srcA, calleeA, refsA, isScalar, scalarD, scalar0, AV.one, putL, unfA, implies_true, IntKind.signed, Nat.reduceAdd, Nat.reduceSub, Nat.reduceMul, Nat.reducePow, Nat.reduceDiv, Nat.reduceMod, Int.reduceAdd, Int.reduceSub, Int.reduceMul, Int.reducePow, Int.reduceNeg, Int.reduceToNat, Int.reduceLT, Int.reduceLE, Nat.reduceEqDiff, sidsB, Nat.reduceBEq, keyKD, isIntK]
        refine CallC.pure (sameInts_spec l l z0 z0) ?_
        rw [decide_eq_true rfl]
        simp (config := { maxSteps := 1000000 }) (disch := ((try simp only [awL]); omega)) only [↓awU, awV, awF, ofVal, ofVal0, isShift, aggK, forall_const, ↓reduceIte, ↓reduceDIte, ↓purePost, combine, idsA, cellsA, srcA, calleeA, refsA, isScalar, scalarD, scalar0, AV.one, putL, unfA, implies_true, IntKind.signed, Nat.reduceAdd, Nat.reduceSub, Nat.reduceMul, Nat.reducePow, Nat.reduceDiv, Nat.reduceMod, Int.reduceAdd, Int.reduceSub, Int.reduceMul, Int.reducePow, Int.reduceNeg, Int.reduceToNat, Int.reduceLT, Int.reduceLE, Nat.reduceEqDiff, sidsB, Nat.reduceBEq, keyKD, isIntK]
        refine CallC.of (same_spec x d x d z1 z2 z1 z2) (by rfl) ?_
        have es : decide (x = x ∧ d = d) = true := decide_eq_true ⟨rfl, rfl⟩
        rw [es]
        simp (config := { maxSteps := 1000000 }) (disch := ((try simp only [awL]); omega)) only [↓awU, awV, awF, ofVal, ofVal0, isShift, aggK, forall_const, ↓reduceIte, ↓reduceDIte, ↓purePost, combine, idsA, cellsA, srcA, calleeA, refsA, isScalar, scalarD, scalar0, AV.one, putL, unfA, implies_true, IntKind.signed, Nat.reduceAdd, Nat.reduceSub, Nat.reduceMul, Nat.reducePow, Nat.reduceDiv, Nat.reduceMod, Int.reduceAdd, Int.reduceSub, Int.reduceMul, Int.reducePow, Int.reduceNeg, Int.reduceToNat, Int.reduceLT, Int.reduceLE, Nat.reduceEqDiff, sidsB, Nat.reduceBEq, keyKD, isIntK]
        refine CallC.pure (valid27_spec hG w hw.fvs hw.len hw.row) ?_
        simp (config := { maxSteps := 1000000 }) (disch := ((try simp only [awL]); omega)) only [↓awU, awV, awF, ofVal, ofVal0, isShift, aggK, forall_const, ↓reduceIte, ↓reduceDIte, ↓purePost, combine, idsA, cellsA, srcA, calleeA, refsA, isScalar, scalarD, scalar0, AV.one, putL, unfA, implies_true, IntKind.signed, Nat.reduceAdd, Nat.reduceSub, Nat.reduceMul, Nat.reducePow, Nat.reduceDiv, Nat.reduceMod, Int.reduceAdd, Int.reduceSub, Int.reduceMul, Int.reducePow, Int.reduceNeg, Int.reduceToNat, Int.reduceLT, Int.reduceLE, Nat.reduceEqDiff, sidsB, Nat.reduceBEq, keyKD, isIntK]
        refine CallC.pure (rvalid27_spec w hw.fvs hw.len hw.row) ?_
        simp (config := { maxSteps := 1000000 }) (disch := ((try simp only [awL]); omega)) only [↓awU, awV, awF, ofVal, ofVal0, isShift, aggK, forall_const, ↓reduceIte, ↓reduceDIte, ↓purePost, combine, idsA, cellsA, srcA, calleeA, refsA, isScalar, scalarD, scalar0, AV.one, putL, unfA, implies_true, IntKind.signed, Nat.reduceAdd, Nat.reduceSub, Nat.reduceMul, Nat.reducePow, Nat.reduceDiv, Nat.reduceMod, Int.reduceAdd, Int.reduceSub, Int.reduceMul, Int.reducePow, Int.reduceNeg, Int.reduceToNat, Int.reduceLT, Int.reduceLE, Nat.reduceEqDiff, sidsB, Nat.reduceBEq, keyKD, isIntK]
        refine CallC.pure (awake_spec hG) ?_
        simp (config := { maxSteps := 1000000 }) (disch := ((try simp only [awL]); omega)) only [↓awU, awV, awF, ofVal, ofVal0, isShift, aggK, forall_const, ↓reduceIte, ↓reduceDIte, ↓purePost, combine, idsA, cellsA, srcA, calleeA, refsA, isScalar, scalarD, scalar0, AV.one, putL, unfA, implies_true, IntKind.signed, Nat.reduceAdd, Nat.reduceSub, Nat.reduceMul, Nat.reducePow, Nat.reduceDiv, Nat.reduceMod, Int.reduceAdd, Int.reduceSub, Int.reduceMul, Int.reducePow, Int.reduceNeg, Int.reduceToNat, Int.reduceLT, Int.reduceLE, Nat.reduceEqDiff, sidsB, Nat.reduceBEq, keyKD, isIntK]
set_option maxHeartbeats 8000000 in
set_option maxRecDepth 100000 in
theorem best_law3 (hG : HG G) (t : List Int) (hT : OkT t) (what pos by' : Int) (hw1 : -9223372036854775808 ≤ what) (hw2 : what ≤ 9223372036854775807)
    (r c : Nat) (hr : nx t 0 5 = r) (hc : nx t 1 5 = c) (n3 : what % 8 = 3) (h0 : r = 0 ∨ c = 0) : Ctr Tryd.prog G 3 [.d (.sl t.length false (ints .i64 t)), .d (.int .i64 what), .d (.int .i64 pos), .d (.int .i64 by')] [] (.d (.bool true)) [] := by
  have n1 := @nx_range t 0 5 (by decide)
  have n2 := @nx_range t 1 5 (by decide)
  refine Ctr.pure (M := M0) hmix Tryd.func3 rfl go3 ?_
  simp (config := { maxSteps := 1000000 }) (disch := ((try simp only [awL]); omega)) only [Tryd.f3, ↓awU, awV, awF, ofVal, ofVal0, isShift, aggK, forall_const, ↓reduceIte, ↓reduceDIte, ↓purePost, combine, idsA, cellsA, srcA, calleeA, refsA, isScalar, scalarD, scalar0, AV.one, putL, unfA, implies_true, IntKind.signed, Nat.reduceAdd, Nat.reduceSub, Nat.reduceMul, Nat.reducePow, Nat.reduceDiv, Nat.reduceMod, Int.reduceAdd, Int.reduceSub, Int.reduceMul, Int.reducePow, Int.reduceNeg, Int.reduceToNat, Int.reduceLT, Int.reduceLE, Nat.reduceEqDiff, sidsB, Nat.reduceBEq, keyKD, isIntK]
  refine CallC.pure (light_spec t) ?_
  rw [decide_eq_true hT.1]
  simp (config := { maxSteps := 1000000 }) (disch := ((try simp only [awL]); omega)) only [↓awU, awV, awF, ofVal, ofVal0, isShift, aggK, forall_const, ↓reduceIte, ↓reduceDIte, ↓purePost, combine, idsA, cellsA, srcA, calleeA, refsA, isScalar, scalarD, scalar0, AV.one, putL, unfA, implies_true, IntKind.signed, Nat.reduceAdd, Nat.reduceSub, Nat.reduceMul, Nat.reducePow, Nat.reduceDiv, Nat.reduceMod, Int.reduceAdd, Int.reduceSub, Int.reduceMul, Int.reducePow, Int.reduceNeg, Int.reduceToNat, Int.reduceLT, Int.reduceLE, Nat.reduceEqDiff, sidsB, Nat.reduceBEq, keyKD, isIntK]
  refine CallC.by (roll_spec t hT.1) rfl rfl (Nat.zero_le _) ?_
  simp (config := { maxSteps := 1000000 }) (disch := ((try simp only [awL]); omega)) only [↓awU, awV, awF, ofVal, ofVal0, isShift, aggK, forall_const, ↓reduceIte, ↓reduceDIte, ↓purePost, combine, idsA, cellsA, srcA, calleeA, refsA, isScalar, scalarD, scalar0, AV.one, putL, unfA, implies_true, IntKind.signed, Nat.reduceAdd, Nat.reduceSub, Nat.reduceMul, Nat.reducePow, Nat.reduceDiv, Nat.reduceMod, Int.reduceAdd, Int.reduceSub, Int.reduceMul, Int.reducePow, Int.reduceNeg, Int.reduceToNat, Int.reduceLT, Int.reduceLE, Nat.reduceEqDiff, sidsB, Nat.reduceBEq, keyKD, isIntK]
  refine CallC.by (next_spec t 0 5 hT (by decide) (by decide)) (by rfl) (by rfl) (Nat.le_refl _) ?_
  simp (config := { maxSteps := 1000000 }) (disch := ((try simp only [awL]); omega)) only [↓awU, awV, awF, ofVal, ofVal0, isShift, aggK, forall_const, ↓reduceIte, ↓reduceDIte, ↓purePost, combine, idsA, cellsA, srcA, calleeA, refsA, isScalar, scalarD, scalar0, AV.one, putL, unfA, implies_true, IntKind.signed, Nat.reduceAdd, Nat.reduceSub, Nat.reduceMul, Nat.reducePow, Nat.reduceDiv, Nat.reduceMod, Int.reduceAdd, Int.reduceSub, Int.reduceMul, Int.reducePow, Int.reduceNeg, Int.reduceToNat, Int.reduceLT, Int.reduceLE, Nat.reduceEqDiff, sidsB, Nat.reduceBEq, keyKD, isIntK]
  refine CallC.by (next_spec t 1 5 hT (by decide) (by decide)) (by rfl) (by rfl) (Nat.le_refl _) ?_
  simp (config := { maxSteps := 1000000 }) (disch := ((try simp only [awL]); omega)) only [↓awU, awV, awF, ofVal, ofVal0, isShift, aggK, forall_const, ↓reduceIte, ↓reduceDIte, ↓purePost, combine, idsA, cellsA, srcA, calleeA, refsA, isScalar, scalarD, scalar0, AV.one, putL, unfA, implies_true, IntKind.signed, Nat.reduceAdd, Nat.reduceSub, Nat.reduceMul, Nat.reducePow, Nat.reduceDiv, Nat.reduceMod, Int.reduceAdd, Int.reduceSub, Int.reduceMul, Int.reducePow, Int.reduceNeg, Int.reduceToNat, Int.reduceLT, Int.reduceLE, Nat.reduceEqDiff, sidsB, Nat.reduceBEq, keyKD, isIntK]
  rw [hr, hc]
  refine CallC.by (weights_spec t 2 r c hT (by omega) (by omega)) (by rfl) (by rfl) (Nat.le_refl _) ?_
  have hw := @matW_ok t 2 r c (by omega) (by omega)
  have hl : (matW t 2 r c).length = r := matW_length
  have hl0 : 0 < r → ((matW t 2 r c).getD 0 []).length = c := fun h => by
    simp [matW, List.getD_eq_getElem?_getD, List.getElem?_map, List.getElem?_range h, rowW_length]
  generalize matW t 2 r c = w at *
  generalize 2 + 2 * c * r = K at *
  simp (config := { maxSteps := 1000000 }) (disch := ((try simp only [awL]); omega)) only [↓awU, awV, awF, ofVal, ofVal0, isShift, aggK, forall_const, ↓reduceIte, ↓reduceDIte, ↓purePost, combine, idsA, cellsA, srcA, calleeA, refsA, isScalar, scalarD, scalar0, AV.one, putL, unfA, implies_true, IntKind.signed, Nat.reduceAdd, Nat.reduceSub, Nat.reduceMul, Nat.reducePow, Nat.reduceDiv, Nat.reduceMod, Int.reduceAdd, Int.reduceSub, Int.reduceMul, Int.reducePow, Int.reduceNeg, Int.reduceToNat, Int.reduceLT, Int.reduceLE, Nat.reduceEqDiff, sidsB, Nat.reduceBEq, keyKD, isIntK]
  refine CallC.pure (mod_spec what 8 hw1 hw2 (by decide) (by decide)) ?_
  rw [n3]
  have ml := @MxL_length w
  by_cases hr0 : r = 0
  · simp (config := { maxSteps := 1000000 }) (disch := ((try simp only [awL]); omega)) only [↓awU, awV, awF, ofVal, ofVal0, isShift, aggK, forall_const, ↓reduceIte, ↓reduceDIte, ↓purePost, combine, idsA, cellsA, srcA, calleeA, refsA, isScalar, scalarD, scalar0, AV.one, putL, unfA, implies_true, IntKind.signed, Nat.reduceAdd, Nat.reduceSub, Nat.reduceMul, Nat.reducePow, Nat.reduceDiv, Nat.reduceMod, Int.reduceAdd, Int.reduceSub, Int.reduceMul, Int.reducePow, Int.reduceNeg, Int.reduceToNat, Int.reduceLT, Int.reduceLE, Nat.reduceEqDiff, sidsB, Nat.reduceBEq, keyKD, isIntK]
    refine CallC.pure (best_spec hG w hw) ?_
    obtain ⟨l, x, d, e, hR, z0, z1, z2⟩ := bestR_shape hw
    rw [hR]
    simp (config := { maxSteps := 1000000 }) (disch := ((try simp only [awL]); omega)) only [↓awU, awV, awF, ofVal, ofVal0, isShift, aggK, forall_const, ↓reduceIte, ↓reduceDIte, ↓purePost, combine, idsA, cellsA, srcA, calleeA, refsA, isScalar, scalarD, scalar0, AV.one, putL, unfA, implies_true, IntKind.signed, Nat.reduceAdd, Nat.reduceSub, Nat.reduceMul, Nat.reducePow, Nat.reduceDiv, Nat.reduceMod, Int.reduceAdd, Int.reduceSub, Int.reduceMul, Int.reducePow, Int.reduceNeg, Int.reduceToNat, Int.reduceLT, Int.reduceLE, Nat.reduceEqDiff, sidsB, Nat.reduceBEq, keyKD, isIntK]
    refine CallC.pure (rBest_spec hG w hw) ?_
    rw [hR]
    simp (config := { maxSteps := 1000000 }) (disch := ((try simp only [awL]); omega)) only [↓awU, awV, awF, ofVal, ofVal0, isShift, aggK, forall_const, ↓reduceIte, ↓reduceDIte, ↓purePost, combine, idsA, cellsA, srcA, calleeA, refsA, isScalar, scalarD, scalar0, AV.one, putL, unfA, implies_true, IntKind.signed, Nat.reduceAdd, Nat.reduceSub, Nat.reduceMul, Nat.reducePow, Nat.reduceDiv, Nat.reduceMod, Int.reduceAdd, Int.reduceSub, Int.reduceMul, Int.reducePow, Int.reduceNeg, Int.reduceToNat, Int.reduceLT, Int.reduceLE, Nat.reduceEqDiff, sidsB, Nat.reduceBEq, keyKD, isIntK]
    refine CallC.pure (sameInts_spec l l z0 z0) ?_
    rw [decide_eq_true rfl]
    simp (config := { maxSteps := 1000000 }) (disch := ((try simp only [awL]); omega)) only [↓awU, awV, awF, ofVal, ofVal0, isShift, aggK, forall_const, ↓reduceIte, ↓reduceDIte, ↓purePost, combine, idsA, cellsA, srcA, calleeA, refsA, isScalar, scalarD, scalar0, AV.one, putL, unfA, implies_true, IntKind.signed, Nat.reduceAdd, Nat.reduceSub, Nat.reduceMul, Nat.reducePow, Nat.reduceDiv, Nat.reduceMod, Int.reduceAdd, Int.reduceSub, Int.reduceMul, Int.reducePow, Int.reduceNeg, Int.reduceToNat, Int.reduceLT, Int.reduceLE, Nat.reduceEqDiff, sidsB, Nat.reduceBEq, keyKD, isIntK]
    refine CallC.of (same_spec x d x d z1 z2 z1 z2) (by rfl) ?_
    have es : decide (x = x ∧ d = d) = true := decide_eq_true ⟨rfl, rfl⟩
    rw [es]
    simp (config := { maxSteps := 1000000 }) (disch := ((try simp only [awL]); omega)) only [↓awU, awV, awF, ofVal, ofVal0, isShift, aggK, forall_const, ↓reduceIte, ↓reduceDIte, ↓purePost, combine, idsA, cellsA, srcA, calleeA, refsA, isScalar, scalarD, scalar0, AV.one, putL, unfA, implies_true, IntKind.signed, Nat.reduceAdd, Nat.reduceSub, Nat.reduceMul, Nat.reducePow, Nat.reduceDiv, Nat.reduceMod, Int.reduceAdd, Int.reduceSub, Int.reduceMul, Int.reducePow, Int.reduceNeg, Int.reduceToNat, Int.reduceLT, Int.reduceLE, Nat.reduceEqDiff, sidsB, Nat.reduceBEq, keyKD, isIntK]
    refine CallC.pure (valid27_spec hG w hw.fvs hw.len hw.row) ?_
    simp (config := { maxSteps := 1000000 }) (disch := ((try simp only [awL]); omega)) only [↓awU, awV, awF, ofVal, ofVal0, isShift, aggK, forall_const, ↓reduceIte, ↓reduceDIte, ↓purePost, combine, idsA, cellsA, srcA, calleeA, refsA, isScalar, scalarD, scalar0, AV.one, putL, unfA, implies_true, IntKind.signed, Nat.reduceAdd, Nat.reduceSub, Nat.reduceMul, Nat.reducePow, Nat.reduceDiv, Nat.reduceMod, Int.reduceAdd, Int.reduceSub, Int.reduceMul, Int.reducePow, Int.reduceNeg, Int.reduceToNat, Int.reduceLT, Int.reduceLE, Nat.reduceEqDiff, sidsB, Nat.reduceBEq, keyKD, isIntK]
    refine CallC.pure (rvalid27_spec w hw.fvs hw.len hw.row) ?_
    simp (config := { maxSteps := 1000000 }) (disch := ((try simp only [awL]); omega)) only [↓awU, awV, awF, ofVal, ofVal0, isShift, aggK, forall_const, ↓reduceIte, ↓reduceDIte, ↓purePost, combine, idsA, cellsA, srcA, calleeA, refsA, isScalar, scalarD, scalar0, AV.one, putL, unfA, implies_true, IntKind.signed, Nat.reduceAdd, Nat.reduceSub, Nat.reduceMul, Nat.reducePow, Nat.reduceDiv, Nat.reduceMod, Int.reduceAdd, Int.reduceSub, Int.reduceMul, Int.reducePow, Int.reduceNeg, Int.reduceToNat, Int.reduceLT, Int.reduceLE, Nat.reduceEqDiff, sidsB, Nat.reduceBEq, keyKD, isIntK]
    refine CallC.pure (awake_spec hG) ?_
    simp (config := { maxSteps := 1000000 }) (disch := ((try simp only [awL]); omega)) only [↓awU, awV, awF, ofVal, ofVal0, isShift, aggK, forall_const, ↓reduceIte, ↓reduceDIte, ↓purePost, combine, idsA, cellsA, srcA, calleeA, refsA, isScalar, scalarD, scalar0, AV.one, putL, unfA, implies_true, IntKind.signed, Nat.reduceAdd, Nat.reduceSub, Nat.reduceMul, Nat.reducePow, Nat.reduceDiv, Nat.reduceMod, Int.reduceAdd, Int.reduceSub, Int.reduceMul, Int.reducePow, Int.reduceNeg, Int.reduceToNat, Int.reduceLT, Int.reduceLE, Nat.reduceEqDiff, sidsB, Nat.reduceBEq, keyKD, isIntK]
  · have hl1 := hl0 (by omega)
    simp (config := { maxSteps := 1000000 }) (disch := ((try simp only [awL]); omega)) only [ml, MxL_get, ↓awU, awV, awF, ofVal, ofVal0, isShift, aggK, forall_const, ↓reduceIte, ↓reduceDIte, ↓purePost, combine, idsA, cellsA, srcA, calleeA, refsA, isScalar, scalarD, scalar0, AV.one, putL, unfA, implies_true, IntKind.signed, Nat.reduceAdd, Nat.reduceSub, Nat.reduceMul, Nat.reducePow, Nat.reduceDiv, Nat.reduceMod, Int.reduceAdd, Int.reduceSub, Int.reduceMul, Int.reducePow, Int.reduceNeg, Int.reduceToNat, Int.reduceLT, Int.reduceLE, Nat.reduceEqDiff, sidsB, Nat.reduceBEq, keyKD, isIntK]
    refine CallC.pure (best_spec hG w hw) ?_
    obtain ⟨l, x, d, e, hR, z0, z1, z2⟩ := bestR_shape hw
    rw [hR]
    simp (config := { maxSteps := 1000000 }) (disch := ((try simp only [awL]); omega)) only [↓awU, awV, awF, ofVal, ofVal0, isShift, aggK, forall_const, ↓reduceIte, ↓reduceDIte, ↓purePost, combine, idsA, cellsA, srcA, calleeA, refsA, isScalar, scalarD, scalar0, AV.one, putL, unfA, implies_true, IntKind.signed, Nat.reduceAdd, Nat.reduceSub, Nat.reduceMul, Nat.reducePow, Nat.reduceDiv, Nat.reduceMod, Int.reduceAdd, Int.reduceSub, Int.reduceMul, Int.reducePow, Int.reduceNeg, Int.reduceToNat, Int.reduceLT, Int.reduceLE, Nat.reduceEqDiff, sidsB, Nat.reduceBEq, keyKD, isIntK]
    refine CallC.pure (rBest_spec hG w hw) ?_
    rw [hR]
    simp (config := { maxSteps := 1000000 }) (disch := ((try simp only [awL]); omega)) only [↓awU, awV, awF, ofVal, ofVal0, isShift, aggK, forall_const, ↓reduceIte, ↓reduceDIte, ↓purePost, combine, idsA, cellsA, srcA, calleeA, refsA, isScalar, scalarD, scalar0, AV.one, putL, unfA, implies_true, IntKind.signed, Nat.reduceAdd, Nat.reduceSub, Nat.reduceMul, Nat.reducePow, Nat.reduceDiv, Nat.reduceMod, Int.reduceAdd, Int.reduceSub, Int.reduceMul, Int.reducePow, Int.reduceNeg, Int.reduceToNat, Int.reduceLT, Int.reduceLE, Nat.reduceEqDiff, sidsB, Nat.reduceBEq, keyKD, isIntK]
    refine CallC.pure (sameInts_spec l l z0 z0) ?_
    rw [decide_eq_true rfl]
    simp (config := { maxSteps := 1000000 }) (disch := ((try simp only [awL]); omega)) only [↓awU, awV, awF, ofVal, ofVal0, isShift, aggK, forall_const, ↓reduceIte, ↓reduceDIte, ↓purePost, combine, idsA, cellsA, srcA, calleeA, refsA, isScalar, scalarD, scalar0, AV.one, putL, unfA, implies_true, IntKind.signed, Nat.reduceAdd, Nat.reduceSub, Nat.reduceMul, Nat.reducePow, Nat.reduceDiv, Nat.reduceMod, Int.reduceAdd, Int.reduceSub, Int.reduceMul, Int.reducePow, Int.reduceNeg, Int.reduceToNat, Int.reduceLT, Int.reduceLE, Nat.reduceEqDiff, sidsB, Nat.reduceBEq, keyKD, isIntK]
    refine CallC.of (same_spec x d x d z1 z2 z1 z2) (by rfl) ?_
    have es : decide (x = x ∧ d = d) = true := decide_eq_true ⟨rfl, rfl⟩
    rw [es]
    simp (config := { maxSteps := 1000000 }) (disch := ((try simp only [awL]); omega)) only [↓awU, awV, awF, ofVal, ofVal0, isShift, aggK, forall_const, ↓reduceIte, ↓reduceDIte, ↓purePost, combine, idsA, cellsA, srcA, calleeA, refsA, isScalar, scalarD, scalar0, AV.one, putL, unfA, implies_true, IntKind.signed, Nat.reduceAdd, Nat.reduceSub, Nat.reduceMul, Nat.reducePow, Nat.reduceDiv, Nat.reduceMod, Int.reduceAdd, Int.reduceSub, Int.reduceMul, Int.reducePow, Int.reduceNeg, Int.reduceToNat, Int.reduceLT, Int.reduceLE, Nat.reduceEqDiff, sidsB, Nat.reduceBEq, keyKD, isIntK]
    refine CallC.pure (valid27_spec hG w hw.fvs hw.len hw.row) ?_
    simp (config := { maxSteps := 1000000 }) (disch := ((try simp only [awL]); omega)) only [↓awU, awV, awF, ofVal, ofVal0, isShift, aggK, forall_const, ↓reduceIte, ↓reduceDIte, ↓purePost, combine, idsA, cellsA, srcA, calleeA, refsA, isScalar, scalarD, scalar0, AV.one, putL, unfA, implies_true, IntKind.signed, Nat.reduceAdd, Nat.reduceSub, Nat.reduceMul, Nat.reducePow, Nat.reduceDiv, Nat.reduceMod, Int.reduceAdd, Int.reduceSub, Int.reduceMul, Int.reducePow, Int.reduceNeg, Int.reduceToNat, Int.reduceLT, Int.reduceLE, Nat.reduceEqDiff, sidsB, Nat.reduceBEq, keyKD, isIntK]
    refine CallC.pure (rvalid27_spec w hw.fvs hw.len hw.row) ?_
    simp (config := { maxSteps := 1000000 }) (disch := ((try simp only [awL]); omega)) only [↓awU, awV, awF, ofVal, ofVal0, isShift, aggK, forall_const, ↓reduceIte, ↓reduceDIte, ↓purePost, combine, idsA, cellsA, srcA, calleeA, refsA, isScalar, scalarD, scalar0, AV.one, putL, unfA, implies_true, IntKind.signed, Nat.reduceAdd, Nat.reduceSub, Nat.reduceMul, Nat.reducePow, Nat.reduceDiv, Nat.reduceMod, Int.reduceAdd, Int.reduceSub, Int.reduceMul, Int.reducePow, Int.reduceNeg, Int.reduceToNat, Int.reduceLT, Int.reduceLE, Nat.reduceEqDiff, sidsB, Nat.reduceBEq, keyKD, isIntK]
    refine CallC.pure (awake_spec hG) ?_
    simp (config := { maxSteps := 1000000 }) (disch := ((try simp only [awL]); omega)) only [↓awU, awV, awF, ofVal, ofVal0, isShift, aggK, forall_const, ↓reduceIte, ↓reduceDIte, ↓purePost, combine, idsA, cellsA, srcA, calleeA, refsA, isScalar, scalarD, scalar0, AV.one, putL, unfA, implies_true, IntKind.signed, Nat.reduceAdd, Nat.reduceSub, Nat.reduceMul, Nat.reducePow, Nat.reduceDiv, Nat.reduceMod, Int.reduceAdd, Int.reduceSub, Int.reduceMul, Int.reducePow, Int.reduceNeg, Int.reduceToNat, Int.reduceLT, Int.reduceLE, Nat.reduceEqDiff, sidsB, Nat.reduceBEq, keyKD, isIntK]
set_option maxHeartbeats 8000000 in
set_option maxRecDepth 100000 in
theorem best_law2 (hG : HG G) (t : List Int) (hT : OkT t) (what pos by' : Int) (hw1 : -9223372036854775808 ≤ what) (hw2 : what ≤ 9223372036854775807)
    (r c : Nat) (hr : nx t 0 5 = r) (hc : nx t 1 5 = c) (n3 : what % 8 = 2) : Ctr Tryd.prog G 3 [.d (.sl t.length false (ints .i64 t)), .d (.int .i64 what), .d (.int .i64 pos), .d (.int .i64 by')] [] (.d (.bool true)) [] := by
  have n1 := @nx_range t 0 5 (by decide)
  have n2 := @nx_range t 1 5 (by decide)
  refine Ctr.pure (M := M0) hmix Tryd.func3 rfl go3 ?_
  simp (config := { maxSteps := 1000000 }) (disch := ((try simp only [awL]); omega)) only [Tryd.f3, ↓awU, awV, awF, ofVal, ofVal0, isShift, aggK, forall_const, ↓reduceIte, ↓reduceDIte, ↓purePost, combine, idsA, cellsA, srcA, calleeA, refsA, isScalar, scalarD, scalar0, AV.one, putL, unfA, implies_true, IntKind.signed, Nat.reduceAdd, Nat.reduceSub, Nat.reduceMul, Nat.reducePow, Nat.reduceDiv, Nat.reduceMod, Int.reduceAdd, Int.reduceSub, Int.reduceMul, Int.reducePow, Int.reduceNeg, Int.reduceToNat, Int.reduceLT, Int.reduceLE, Nat.reduceEqDiff, sidsB, Nat.reduceBEq, keyKD, isIntK]
  refine CallC.pure (light_spec t) ?_
  rw [decide_eq_true hT.1]
  simp (config := { maxSteps := 1000000 }) (disch := ((try simp only [awL]); omega)) only [↓awU, awV, awF, ofVal, ofVal0, isShift, aggK, forall_const, ↓reduceIte, ↓reduceDIte, ↓purePost, combine, idsA, cellsA, srcA, calleeA, refsA, isScalar, scalarD, scalar0, AV.one, putL, unfA, implies_true, IntKind.signed, Nat.reduceAdd, Nat.reduceSub, Nat.reduceMul, Nat.reducePow, Nat.reduceDiv, Nat.reduceMod, Int.reduceAdd, Int.reduceSub, Int.reduceMul, Int.reducePow, Int.reduceNeg, Int.reduceToNat, Int.reduceLT, Int.reduceLE, Nat.reduceEqDiff, sidsB, Nat.reduceBEq, keyKD, isIntK]
  refine CallC.by (roll_spec t hT.1) rfl rfl (Nat.zero_le _) ?_
  simp (config := { maxSteps := 1000000 }) (disch := ((try simp only [awL]); omega)) only [↓awU, awV, awF, ofVal, ofVal0, isShift, aggK, forall_const, ↓reduceIte, ↓reduceDIte, ↓purePost, combine, idsA, cellsA, srcA, calleeA, refsA, isScalar, scalarD, scalar0, AV.one, putL, unfA, implies_true, IntKind.signed, Nat.reduceAdd, Nat.reduceSub, Nat.reduceMul, Nat.reducePow, Nat.reduceDiv, Nat.reduceMod, Int.reduceAdd, Int.reduceSub, Int.reduceMul, Int.reducePow, Int.reduceNeg, Int.reduceToNat, Int.reduceLT, Int.reduceLE, Nat.reduceEqDiff, sidsB, Nat.reduceBEq, keyKD, isIntK]
  refine CallC.by (next_spec t 0 5 hT (by decide) (by decide)) (by rfl) (by rfl) (Nat.le_refl _) ?_
  simp (config := { maxSteps := 1000000 }) (disch := ((try simp only [awL]); omega)) only [↓awU, awV, awF, ofVal, ofVal0, isShift, aggK, forall_const, ↓reduceIte, ↓reduceDIte, ↓purePost, combine, idsA, cellsA, srcA, calleeA, refsA, isScalar, scalarD, scalar0, AV.one, putL, unfA, implies_true, IntKind.signed, Nat.reduceAdd, Nat.reduceSub, Nat.reduceMul, Nat.reducePow, Nat.reduceDiv, Nat.reduceMod, Int.reduceAdd, Int.reduceSub, Int.reduceMul, Int.reducePow, Int.reduceNeg, Int.reduceToNat, Int.reduceLT, Int.reduceLE, Nat.reduceEqDiff, sidsB, Nat.reduceBEq, keyKD, isIntK]
  refine CallC.by (next_spec t 1 5 hT (by decide) (by decide)) (by rfl) (by rfl) (Nat.le_refl _) ?_
  simp (config := { maxSteps := 1000000 }) (disch := ((try simp only [awL]); omega)) only [↓awU, awV, awF, ofVal, ofVal0, isShift, aggK, forall_const, ↓reduceIte, ↓reduceDIte, ↓purePost, combine, idsA, cellsA, srcA, calleeA, refsA, isScalar, scalarD, scalar0, AV.one, putL, unfA, implies_true, IntKind.signed, Nat.reduceAdd, Nat.reduceSub, Nat.reduceMul, Nat.reducePow, Nat.reduceDiv, Nat.reduceMod, Int.reduceAdd, Int.reduceSub, Int.reduceMul, Int.reducePow, Int.reduceNeg, Int.reduceToNat, Int.reduceLT, Int.reduceLE, Nat.reduceEqDiff, sidsB, Nat.reduceBEq, keyKD, isIntK]
  rw [hr, hc]
  refine CallC.by (weightsR_spec t 2 r c hT (by omega) (by omega)) (by rfl) (by rfl) (by simp) ?_
  have hw0 := @matW_ok t 2 r c (by omega) (by omega)
  have hl : (matW t 2 r c).length = r := matW_length
  generalize matW t 2 r c = w0 at *
  generalize 2 + 2 * c * r = K at *
  simp (config := { maxSteps := 1000000 }) (disch := ((try simp only [awL]); omega)) only [↓awU, awV, awF, ofVal, ofVal0, isShift, aggK, forall_const, ↓reduceIte, ↓reduceDIte, ↓purePost, combine, idsA, cellsA, srcA, calleeA, refsA, isScalar, scalarD, scalar0, AV.one, putL, unfA, implies_true, IntKind.signed, Nat.reduceAdd, Nat.reduceSub, Nat.reduceMul, Nat.reducePow, Nat.reduceDiv, Nat.reduceMod, Int.reduceAdd, Int.reduceSub, Int.reduceMul, Int.reducePow, Int.reduceNeg, Int.reduceToNat, Int.reduceLT, Int.reduceLE, Nat.reduceEqDiff, sidsB, Nat.reduceBEq, keyKD, isIntK]
  refine CallC.pure (mod_spec what 8 hw1 hw2 (by decide) (by decide)) ?_
  rw [n3]
  have ml := @MxL_length w0
  simp (config := { maxSteps := 1000000 }) (disch := ((try simp only [awL]); omega)) only [ml, cut_none, MxL_nil, ↓awU, awV, awF, ofVal, ofVal0, isShift, aggK, forall_const, ↓reduceIte, ↓reduceDIte, ↓purePost, combine, idsA, cellsA, srcA, calleeA, refsA, isScalar, scalarD, scalar0, AV.one, putL, unfA, implies_true, IntKind.signed, Nat.reduceAdd, Nat.reduceSub, Nat.reduceMul, Nat.reducePow, Nat.reduceDiv, Nat.reduceMod, Int.reduceAdd, Int.reduceSub, Int.reduceMul, Int.reducePow, Int.reduceNeg, Int.reduceToNat, Int.reduceLT, Int.reduceLE, Nat.reduceEqDiff, sidsB, Nat.reduceBEq, keyKD, isIntK]
  have hw := addNil_ok hw0 (by omega)
  have hwl : (w0 ++ [[]]).length = r + 1 := by rw [List.length_append, hl]; rfl
  generalize w0 ++ [[]] = w at *
  have e0 : cut (MxL w) 0 (r + 1) = MxL w := cut_Mx hwl.symm
  have e1 : ([.d (Mx w)] : List AV) = [.d (.sl (r + 1) false (MxL w))] := by rw [Mx, hwl]
  rw [e0]
  refine CallC.frozenE (best_spec hG w hw) e1.symm ?_
  obtain ⟨l, x, d, e, hR, z0, z1, z2⟩ := bestR_shape hw
  rw [hR]
  simp (config := { maxSteps := 1000000 }) (disch := ((try simp only [awL]); omega)) only [e0, ↓awU, awV, awF, ofVal, ofVal0, isShift, aggK, forall_const, ↓reduceIte, ↓reduceDIte, ↓purePost, combine, idsA, cellsA, srcA, calleeA, refsA, isScalar, scalarD, scalar0, AV.one, putL, unfA, implies_true, IntKind.signed, Nat.reduceAdd, Nat.reduceSub, Nat.reduceMul, Nat.reducePow, Nat.reduceDiv, Nat.reduceMod, Int.reduceAdd, Int.reduceSub, Int.reduceMul, Int.reducePow, Int.reduceNeg, Int.reduceToNat, Int.reduceLT, Int.reduceLE, Nat.reduceEqDiff, sidsB, Nat.reduceBEq, keyKD, isIntK]
  refine CallC.frozenE (rBest_spec hG w hw) e1.symm ?_
  rw [hR]
  simp (config := { maxSteps := 1000000 }) (disch := ((try simp only [awL]); omega)) only [e0, ↓awU, awV, awF, ofVal, ofVal0, isShift, aggK, forall_const, ↓reduceIte, ↓reduceDIte, ↓purePost, combine, idsA, cellsA, srcA, calleeA, refsA, isScalar, scalarD, scalar0, AV.one, putL, unfA, implies_true, IntKind.signed, Nat.reduceAdd, Nat.reduceSub, Nat.reduceMul, Nat.reducePow, Nat.reduceDiv, Nat.reduceMod, Int.reduceAdd, Int.reduceSub, Int.reduceMul, Int.reducePow, Int.reduceNeg, Int.reduceToNat, Int.reduceLT, Int.reduceLE, Nat.reduceEqDiff, sidsB, Nat.reduceBEq, keyKD, isIntK]
  refine CallC.pure (sameInts_spec l l z0 z0) ?_
  rw [decide_eq_true rfl]
  simp (config := { maxSteps := 1000000 }) (disch := ((try simp only [awL]); omega)) only [e0, ↓awU, awV, awF, ofVal, ofVal0, isShift, aggK, forall_const, ↓reduceIte, ↓reduceDIte, ↓purePost, combine, idsA, cellsA, srcA, calleeA, refsA, isScalar, scalarD, scalar0, AV.one, putL, unfA, implies_true, IntKind.signed, Nat.reduceAdd, Nat.reduceSub, Nat.reduceMul, Nat.reducePow, Nat.reduceDiv, Nat.reduceMod, Int.reduceAdd, Int.reduceSub, Int.reduceMul, Int.reducePow, Int.reduceNeg, Int.reduceToNat, Int.reduceLT, Int.reduceLE, Nat.reduceEqDiff, sidsB, Nat.reduceBEq, keyKD, isIntK]
  refine CallC.of (same_spec x d x d z1 z2 z1 z2) (by rfl) ?_
  have es : decide (x = x ∧ d = d) = true := decide_eq_true ⟨rfl, rfl⟩
  rw [es]
  simp (config := { maxSteps := 1000000 }) (disch := ((try simp only [awL]); omega)) only [e0, ↓awU, awV, awF, ofVal, ofVal0, isShift, aggK, forall_const, ↓reduceIte, ↓reduceDIte, ↓purePost, combine, idsA, cellsA, srcA, calleeA, refsA, isScalar, scalarD, scalar0, AV.one, putL, unfA, implies_true, IntKind.signed, Nat.reduceAdd, Nat.reduceSub, Nat.reduceMul, Nat.reducePow, Nat.reduceDiv, Nat.reduceMod, Int.reduceAdd, Int.reduceSub, Int.reduceMul, Int.reducePow, Int.reduceNeg, Int.reduceToNat, Int.reduceLT, Int.reduceLE, Nat.reduceEqDiff, sidsB, Nat.reduceBEq, keyKD, isIntK]
  refine CallC.frozenE (valid27_spec hG w hw.fvs hw.len hw.row) e1.symm ?_
  simp (config := { maxSteps := 1000000 }) (disch := ((try simp only [awL]); omega)) only [e0, ↓awU, awV, awF, ofVal, ofVal0, isShift, aggK, forall_const, ↓reduceIte, ↓reduceDIte, ↓purePost, combine, idsA, cellsA, srcA, calleeA, refsA, isScalar, scalarD, scalar0, AV.one, putL, unfA, implies_true, IntKind.signed, Nat.reduceAdd, Nat.reduceSub, Nat.reduceMul, Nat.reducePow, Nat.reduceDiv, Nat.reduceMod, Int.reduceAdd, Int.reduceSub, Int.reduceMul, Int.reducePow, Int.reduceNeg, Int.reduceToNat, Int.reduceLT, Int.reduceLE, Nat.reduceEqDiff, sidsB, Nat.reduceBEq, keyKD, isIntK]
  refine CallC.frozenE (rvalid27_spec w hw.fvs hw.len hw.row) e1.symm ?_
  simp (config := { maxSteps := 1000000 }) (disch := ((try simp only [awL]); omega)) only [e0, ↓awU, awV, awF, ofVal, ofVal0, isShift, aggK, forall_const, ↓reduceIte, ↓reduceDIte, ↓purePost, combine, idsA, cellsA, srcA, calleeA, refsA, isScalar, scalarD, scalar0, AV.one, putL, unfA, implies_true, IntKind.signed, Nat.reduceAdd, Nat.reduceSub, Nat.reduceMul, Nat.reducePow, Nat.reduceDiv, Nat.reduceMod, Int.reduceAdd, Int.reduceSub, Int.reduceMul, Int.reducePow, Int.reduceNeg, Int.reduceToNat, Int.reduceLT, Int.reduceLE, Nat.reduceEqDiff, sidsB, Nat.reduceBEq, keyKD, isIntK]
  refine CallC.pure (awake_spec hG) ?_
  simp (config := { maxSteps := 1000000 }) (disch := ((try simp only [awL]); omega)) only [e0, ↓awU, awV, awF, ofVal, ofVal0, isShift, aggK, forall_const, ↓reduceIte, ↓reduceDIte, ↓purePost, combine, idsA, cellsA, srcA, calleeA, refsA, isScalar, scalarD, scalar0, AV.one, putL, unfA, implies_true, IntKind.signed, Nat.reduceAdd, Nat.reduceSub, Nat.reduceMul, Nat.reducePow, Nat.reduceDiv, Nat.reduceMod, Int.reduceAdd, Int.reduceSub, Int.reduceMul, Int.reducePow, Int.reduceNeg, Int.reduceToNat, Int.reduceLT, Int.reduceLE, Nat.reduceEqDiff, sidsB, Nat.reduceBEq, keyKD, isIntK]
end Go.Proofs.YtkppgdialedoeaaDoor
