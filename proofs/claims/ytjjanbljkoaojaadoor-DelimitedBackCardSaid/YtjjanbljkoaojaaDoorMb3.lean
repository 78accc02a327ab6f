/-
  Contracts of the functions, one after another.
-/
import Derived.Test.YtjjanbljkoaojaaDoorMb2
set_option linter.all false
namespace Go.Proofs.YtjjanbljkoaojaaDoor
open Go Go.Proofs Go.Abs
/-! What was written is read back. -/
structure Dok (d : Dia) : Prop where
  del : d.del.toNat ≠ 10 ∧ d.del.toNat ≠ 13 ∧ d.del.toNat < 128
  quo : d.quo.toNat = 0 ∨ d.quo.toNat = 34 ∨ d.quo.toNat = 39
  ne : d.del ≠ d.quo
  trim : d.trim = true → d.del.toNat ≠ 32
theorem okDia_dok {d : Dia} (h : okDia d = true) : Dok d := by
  rw [okDia_nat] at h
  obtain ⟨h1, h2, h3, h4⟩ := of_decide_eq_true h
  exact ⟨by omega, h2, fun e => h3 (by rw [e]), fun ht e => h4 ⟨ht, e⟩⟩
/-- What may stand behind a field. -/
structure Tl (d : Dia) (u : List UInt8) : Prop where
  stop : stopL d u = true
  trim : d.trim = true → u.head? ≠ some 32
  quo : d.quo ≠ 0 → u.head? ≠ some d.quo
theorem Tl_nil (d : Dia) : Tl d [] := ⟨by simp [stopL], fun _ => by simp, fun _ => by simp⟩
theorem Tl_del {d : Dia} (h : Dok d) (x : List UInt8) : Tl d (d.del :: x) :=
  ⟨by simp [stopL], fun ht e => h.trim ht (by simp at e; rw [e]; rfl), fun _ e => h.ne (by simpa using e)⟩
theorem quo_ne {d : Dia} (h : Dok d) {n : Nat} (hn : n = 10 ∨ n = 13 ∨ n = 32) (hq : d.quo ≠ 0) : d.quo.toNat ≠ n := by
  have := h.quo
  have h0 : d.quo.toNat ≠ 0 := fun e => hq (u8_eq.2 e)
  omega
theorem Tl_lf {d : Dia} (h : Dok d) (x : List UInt8) : Tl d (10 :: x) :=
  ⟨by simp [stopL, endL], fun _ e => by simp at e, fun hq e => quo_ne h (.inl rfl) hq (by simp at e; rw [← e]; rfl)⟩
theorem Tl_crlf {d : Dia} (h : Dok d) (x : List UInt8) : Tl d (13 :: 10 :: x) :=
  ⟨by simp [stopL, endL], fun _ e => by simp at e, fun hq e => quo_ne h (.inr (.inl rfl)) hq (by simp at e; rw [← e]; rfl)⟩
theorem fits_parts {d : Dia} {s : List UInt8} (h : fitsL d s = true) : Lib.validD s = true ∧ (∀ c ∈ s, c.toNat ≠ 10 ∧ c.toNat ≠ 13 ∧ c ≠ d.del) ∧ ¬ (d.quo ≠ 0 ∧ s.head? = some d.quo) ∧ ¬ (d.trim = true ∧ padL s) := by
  unfold fitsL hasNl at h
  simp only [Bool.and_eq_true, Bool.not_eq_true', decide_eq_false_iff_not] at h
  obtain ⟨_, h2, h3, h4, h5, h6⟩ := h
  refine ⟨h2, fun c hc => ⟨fun e => h3 (.inl ?_), fun e => h3 (.inr ?_), fun e => h4 (e ▸ hc)⟩, h5, h6⟩
  · rw [← show c = 10 from u8_eq.2 e]; exact hc
  · rw [← show c = 13 from u8_eq.2 e]; exact hc
theorem plainL_fit {d : Dia} {u : List UInt8} (hu : stopL d u = true) : ∀ {s : List UInt8}, (∀ c ∈ s, c.toNat ≠ 10 ∧ c.toNat ≠ 13 ∧ c ≠ d.del) → plainL d (s ++ u) = s
  | [], _ => plainL_end hu
  | c :: r, h => by
    obtain ⟨h1, h2, h3⟩ := h c (by simp)
    have e10 : c ≠ 10 := fun e => h1 (by rw [e]; rfl)
    have e13 : c ≠ 13 := fun e => h2 (by rw [e]; rfl)
    have : stopL d (c :: (r ++ u)) = false := by simp [stopL, endL, e10, e13, h3]
    rw [List.cons_append, plainL, this, if_neg (by decide), plainL_fit hu fun x hx => h x (by simp [hx])]
theorem skipL_head {d : Dia} {l : List UInt8} (h : d.trim = true → l.head? ≠ some 32) : skipL d l = l := by
  unfold skipL
  split
  · rename_i ht
    rw [dropWhile_self]
    intro c hc
    rw [beq_eq_false_iff_ne]
    intro e; rw [e] at hc; exact h ht hc
  · rfl
theorem field_fit {d : Dia} {s u : List UInt8} (h : fitsL d s = true) (hu : Tl d u) : fieldL d (s ++ u) = some (s, u) := by
  obtain ⟨_, h2, h3, h4⟩ := fits_parts h
  have hh : (s ++ u).head? = if s = [] then u.head? else s.head? := by cases s <;> simp
  have sk : skipL d (s ++ u) = s ++ u := skipL_head fun ht e => by
    rw [hh] at e
    split at e
    · exact hu.trim ht e
    · exact h4 ⟨ht, .inl e⟩
  have nq : ¬ (d.quo ≠ 0 ∧ (s ++ u).head? = some d.quo) := by
    rintro ⟨hq, e⟩
    rw [hh] at e
    split at e
    · exact hu.quo hq e
    · exact h3 ⟨hq, e⟩
  have tr : trimR d s = s := by
    rcases Nat.eq_zero_or_pos s.length with h0 | h0
    · exact trimR_over (.inr (.inl h0))
    · cases ht : d.trim with
      | false => exact trimR_over (.inl ht)
      | true => exact trimR_over (.inr (.inr fun e => h4 ⟨ht, (pad_at h0).2 (.inr e)⟩))
  unfold fieldL
  rw [sk, if_neg nq, plainL_fit hu.stop h2, tr, List.drop_left]
theorem quotL_dbl {q : UInt8} {u : List UInt8} (hu : u.head? ≠ some q) : ∀ s : List UInt8, quotL q (dblL q s ++ q :: u) = some (s, u)
  | [] => by
    show quotL q (q :: u) = _
    cases u with
    | nil => simp [quotL]
    | cons c r =>
      have : ¬ c = q := fun e => hu (by rw [e]; rfl)
      simp [quotL, this]
  | c :: r => by
    have ih := quotL_dbl hu r
    have e0 : dblL q (c :: r) = (if c = q then [q, q] else [c]) ++ dblL q r := rfl
    rw [e0]
    by_cases e : c = q
    · subst e
      rw [if_pos rfl]
      show quotL c (c :: c :: (dblL c r ++ c :: u)) = _
      rw [quotL, if_pos rfl, if_pos rfl, ih]; rfl
    · rw [if_neg e]
      show quotL q (c :: (dblL q r ++ q :: u)) = _
      obtain ⟨x, y, hxy⟩ : ∃ x y, dblL q r ++ q :: u = x :: y := by cases h : dblL q r <;> simp
      rw [hxy] at ih ⊢
      rw [quotL, if_neg e, ih]; rfl
theorem field_quo {d : Dia} (hd : Dok d) {s u : List UInt8} (hq : d.quo ≠ 0) (hu : Tl d u) : fieldL d (quoL d s ++ u) = some (s, u) := by
  have sk : skipL d (quoL d s ++ u) = quoL d s ++ u := skipL_head fun _ e => quo_ne hd (.inr (.inr rfl)) hq (by
    have : d.quo = 32 := by simpa [quoL] using e
    rw [this]; rfl)
  unfold fieldL
  rw [sk, if_pos ⟨hq, by simp [quoL]⟩]
  have e1 : (quoL d s ++ u).drop 1 = dblL d.quo s ++ d.quo :: u := by simp [quoL]
  rw [e1, quotL_dbl (hu.quo hq) s]
  simp only [skipL_head hu.trim, if_pos hu.stop]
theorem field_wr {d : Dia} (hd : Dok d) {s u : List UInt8} (h : okW d s = true) (hu : Tl d u) : fieldL d (wrL d s ++ u) = some (s, u) := by
  unfold wrL
  unfold okW at h
  split
  · rename_i hf; exact field_fit hf hu
  · rename_i hf
    rw [Bool.or_eq_true] at h
    exact field_quo hd (of_decide_eq_true (h.resolve_left hf)) hu
theorem jn_false (d : Dia) (s : List UInt8) (r : Row) : jnL d false (s :: r) = d.del :: jnL d true (s :: r) := by simp [jnL]
theorem rec_jn {d : Dia} (hd : Dok d) {u : List UInt8} (hu : Tl d u) (hn : u.head? ≠ some d.del) : ∀ (r : Row) (s : List UInt8), okR d (s :: r) = true → recL d (jnL d true (s :: r) ++ u) = some (s :: r, u.drop (endL u))
  | [], s, h => by
    have h1 : okW d s = true := by simpa [okR] using h
    have e : jnL d true [s] ++ u = wrL d s ++ u := by simp [jnL]
    rw [e, recL_eq, field_wr hd h1 hu]
    simp only [if_neg hn]
  | s2 :: r, s, h => by
    have h1 : okW d s = true := by simp [okR] at h; exact h.1
    have h2 : okR d (s2 :: r) = true := by simp [okR] at h ⊢; exact h.2
    have e : jnL d true (s :: s2 :: r) ++ u = wrL d s ++ d.del :: (jnL d true (s2 :: r) ++ u) := by
      rw [show jnL d true (s :: s2 :: r) = wrL d s ++ jnL d false (s2 :: r) from by simp [jnL], jn_false]; simp
    rw [e, recL_eq, field_wr hd h1 (Tl_del hd _)]
    simp only [List.head?_cons, if_true, List.drop_succ_cons, List.drop_zero, rec_jn hd hu hn r s2 h2, Option.map_some]
/-- A text with some line end. -/
def textN (d : Dia) (nl : List UInt8) (g : List Row) : List UInt8 := g.flatMap fun r => jnL d true r ++ nl
theorem textN_lf (d : Dia) : ∀ g : List Row, textN d [10] g = textL d g
  | [] => rfl
  | r :: g => by rw [textL, ← textN_lf d g]; rfl
def okG (d : Dia) (g : List Row) : Prop := ∀ r ∈ g, r ≠ [] ∧ okR d r = true
theorem rows_text {d : Dia} (hd : Dok d) {nl : List UInt8} (hnl : nl = [10] ∨ nl = [13, 10]) (w : List UInt8) : ∀ g : List Row, okG d g → rowsL d (textN d nl g ++ w) = (rowsL d w).map fun x => g ++ x
  | [], _ => by simp [textN]
  | r :: g, h => by
    obtain ⟨h1, h2⟩ := h r (by simp)
    have ih := rows_text hd hnl w g fun x hx => h x (by simp [hx])
    have e : textN d nl (r :: g) ++ w = jnL d true r ++ (nl ++ (textN d nl g ++ w)) := by simp [textN]
    rw [e]
    match r, h1 with
    | s :: r, _ =>
      have hu : Tl d (nl ++ (textN d nl g ++ w)) ∧ (nl ++ (textN d nl g ++ w)).head? ≠ some d.del ∧ (nl ++ (textN d nl g ++ w)).drop (endL (nl ++ (textN d nl g ++ w))) = textN d nl g ++ w ∧ nl ++ (textN d nl g ++ w) ≠ [] := by
        have hdl := hd.del
        rcases hnl with rfl | rfl
        · exact ⟨Tl_lf hd _, fun e => hdl.1 (by simp at e; rw [← e]; rfl), by simp [endL], by simp⟩
        · exact ⟨Tl_crlf hd _, fun e => hdl.2.1 (by simp at e; rw [← e]; rfl), by simp [endL], by simp⟩
      obtain ⟨u1, u2, u3, u4⟩ := hu
      rw [rowsL_eq d (by simp at u4 ⊢; intro _; exact u4), rec_jn hd u1 u2 r s h2]
      simp only [u3, ih, Option.map_map]
      rfl
theorem rows_last {d : Dia} (hd : Dok d) {r : Row} (h1 : r ≠ []) (h2 : okR d r = true) (h3 : jnL d true r ≠ []) : rowsL d (jnL d true r) = some [r] := by
  match r, h1 with
  | s :: r, _ =>
    have := rec_jn hd (Tl_nil d) (by simp) r s h2
    rw [List.append_nil] at this
    rw [rowsL_eq d h3, this]
    rfl
/-! Texts that are written are valid. -/
theorem valid_wr {d : Dia} (hd : Dok d) {s : List UInt8} (h : Lib.validD s = true) : Lib.validD (wrL d s) = true := by
  unfold wrL
  split
  · exact h
  · have hq : d.quo.toNat < 128 := by have := hd.quo; omega
    unfold quoL
    show Lib.validD (d.quo :: (dblL d.quo s ++ [d.quo])) = true
    rw [Lib.validD_cons _ _ hq]
    exact valid_app (valid_dbl hq _ s rfl h) (by rw [Lib.validD_cons _ _ hq]; rfl)
theorem valid_jn {d : Dia} (hd : Dok d) : ∀ (b : Bool) (r : Row), (∀ s ∈ r, Lib.validD s = true) → Lib.validD (jnL d b r) = true
  | _, [], _ => rfl
  | b, s :: r, h => by
    have h1 := valid_wr hd (h s (by simp))
    have h2 := valid_jn hd false r fun x hx => h x (by simp [hx])
    rw [jnL]
    refine valid_app (valid_app ?_ h1) h2
    cases b
    · simp only [Bool.false_eq_true, if_false]
      rw [Lib.validD_cons _ _ hd.del.2.2]; rfl
    · rfl
theorem valid_text {d : Dia} (hd : Dok d) {nl : List UInt8} (hnl : nl = [10] ∨ nl = [13, 10]) : ∀ g : List Row, (∀ r ∈ g, ∀ s ∈ r, Lib.validD s = true) → Lib.validD (textN d nl g) = true
  | [], _ => rfl
  | r :: g, h => by
    have e : textN d nl (r :: g) = jnL d true r ++ nl ++ textN d nl g := by simp [textN]
    rw [e]
    refine valid_app (valid_app (valid_jn hd true r (h r (by simp))) ?_) (valid_text hd hnl g fun x hx => h x (by simp [hx]))
    rcases hnl with rfl | rfl <;> rfl
end Go.Proofs.YtjjanbljkoaojaaDoor

namespace Go.Proofs.YtjjanbljkoaojaaDoor
open Go Go.Proofs Go.Abs
/-! What the dice make is valid and short. -/
theorem valid_ascii : ∀ s : List UInt8, (∀ c ∈ s, c.toNat < 128) → Lib.validD s = true
  | [], _ => rfl
  | c :: r, h => by rw [Lib.validD_cons _ _ (h c (by simp))]; exact valid_ascii r fun x hx => h x (by simp [hx])
def asciiL (s : List UInt8) : Prop := ∀ c ∈ s, c.toNat < 128
theorem ascii_app {a b : List UInt8} (ha : asciiL a) (hb : asciiL b) : asciiL (a ++ b) := fun c hc => by
  rcases List.mem_append.1 hc with h | h
  · exact ha c h
  · exact hb c h
theorem get_all {P : List UInt8 → Prop} {l : List (List UInt8)} (h0 : P []) (h : ∀ s ∈ l, P s) (i : Nat) : P (l.getD i []) := by
  rcases Nat.lt_or_ge i l.length with h1 | h1
  · exact h _ (memD h1)
  · rw [List.getD_eq_getElem?_getD, List.getElem?_eq_none h1]; exact h0
theorem ascii_nil : asciiL [] := fun c h => by cases h
theorem ascii_cons {c : UInt8} {r : List UInt8} (hc : c.toNat < 128) (hr : asciiL r) : asciiL (c :: r) := fun x hx => by
  rcases List.mem_cons.1 hx with rfl | h
  · exact hc
  · exact hr x h
theorem ascii_itoa {n : Nat} (h : n < 100) : asciiL (itoaL n) := by
  unfold itoaL
  split
  · intro c hc; rw [List.mem_singleton.1 hc]; simp; omega
  · intro c hc
    rcases List.mem_cons.1 hc with rfl | hc
    · simp; omega
    · rw [List.mem_singleton.1 hc]; simp; omega
theorem ascii_num (t : List Int) (k : Nat) : asciiL (numM t k) := by
  have h1 : asciiL (num1 t k) := by
    obtain ⟨b, hb, hb2⟩ := pk_nat t (k + 1) 40 (by decide)
    unfold num1
    rw [hb]
    exact ascii_app (get_all ascii_nil (by unfold asciiL; decide) _) (ascii_itoa (by simp; omega))
  have h2 : asciiL (num2 t k) := by
    unfold num2
    split
    · split
      · exact h1
      · exact ascii_cons (by decide) h1
    · exact h1
  unfold numM
  split
  · exact ascii_app h2 (ascii_cons (by decide) (get_all ascii_nil (by unfold asciiL; decide) _))
  · exact h2
theorem ascii_date (t : List Int) (k : Nat) : asciiL (dateM t k) ∧ (dateM t k).length ≤ 10 := by
  have a1 : asciiL (yearsL.getD (pk t k 6).toNat []) := get_all ascii_nil (by unfold asciiL; decide) _
  have a2 : asciiL (monthsL.getD (pk t (k + 1) 5).toNat []) := get_all ascii_nil (by unfold asciiL; decide) _
  have a3 : asciiL (daysL.getD (pk t (k + 2) 5).toNat []) := get_all ascii_nil (by unfold asciiL; decide) _
  have l1 := get_len (l := yearsL) (m := 4) (by decide) (pk t k 6).toNat
  have l2 := get_len (l := monthsL) (m := 2) (by decide) (pk t (k + 1) 5).toNat
  have l3 := get_len (l := daysL) (m := 2) (by decide) (pk t (k + 2) 5).toNat
  have one : ∀ n : UInt8, n.toNat < 128 → asciiL [n] := fun n h => ascii_cons h ascii_nil
  unfold dateM
  simp only
  split
  · exact ⟨ascii_app (ascii_app (ascii_app (ascii_app a1 (one _ (by decide))) a2) (one _ (by decide))) a3, by simp only [List.length_append, List.length_cons, List.length_nil]; omega⟩
  · split
    · exact ⟨ascii_app (ascii_app (ascii_app (ascii_app a1 (one _ (by decide))) a2) (one _ (by decide))) a3, by simp only [List.length_append, List.length_cons, List.length_nil]; omega⟩
    · exact ⟨ascii_app (ascii_app (ascii_app (ascii_app a3 (one _ (by decide))) a2) (one _ (by decide))) a1, by simp only [List.length_append, List.length_cons, List.length_nil]; omega⟩
def okT (s : List UInt8) : Prop := Lib.validD s = true ∧ s.length ≤ 30
instance (s : List UInt8) : Decidable (okT s) := by unfold okT; exact inferInstance
theorem okT_nil : okT [] := by decide
set_option maxRecDepth 100000 in
theorem okT_words : ∀ s ∈ wordsL, okT s := by decide
set_option maxRecDepth 100000 in
theorem okT_bools : ∀ s ∈ boolsL, okT s := by decide
set_option maxRecDepth 100000 in
theorem okT_nulls : ∀ s ∈ nullsL, okT s := by decide
set_option maxRecDepth 100000 in
theorem okT_odds : ∀ s ∈ oddsL, okT s := by decide
theorem fieldM_ok (t : List Int) (k c : Nat) : okT (fieldM t k c) := by
  unfold fieldM
  repeat' split
  · exact get_all okT_nil okT_words _
  · exact ⟨valid_ascii _ (ascii_num t k), by have := (numM_len t k).2; omega⟩
  · exact ⟨valid_ascii _ (ascii_date t k).1, by have := (ascii_date t k).2; omega⟩
  · exact get_all okT_nil okT_bools _
  · have := (numM_len t k).2
    have l2 := get_len (l := unitsL) (m := 4) (by decide) (pk t (numK t k) 7).toNat
    exact ⟨valid_ascii _ (ascii_app (ascii_num t k) (get_all ascii_nil (by unfold asciiL; decide) _)), by rw [List.length_append]; omega⟩
  · exact get_all okT_nil okT_nulls _
  · exact get_all okT_nil okT_odds _
theorem oddRow_ok (t : List Int) : ∀ (n k : Nat), (oddRow t n k).1.length = n ∧ ∀ s ∈ (oddRow t n k).1, okT s
  | 0, _ => ⟨rfl, fun s h => by cases h⟩
  | n + 1, k => by
    obtain ⟨h1, h2⟩ := oddRow_ok t n (fieldK t (k + 1) (pk t k 9).toNat)
    refine ⟨by simp only [oddRow, List.length_cons, h1], fun s hs => ?_⟩
    rcases List.mem_cons.1 hs with rfl | hs
    · exact fieldM_ok _ _ _
    · exact h2 s hs
/-- A grid of the dice. -/
structure OddG (g : List Row) (m n : Nat) : Prop where
  len : g.length ≤ m
  row : ∀ r ∈ g, r ≠ [] ∧ r.length ≤ n
  txt : ∀ r ∈ g, ∀ s ∈ r, okT s
theorem oddRows_ok (t : List Int) (cols : Nat) (hc : 0 < cols) : ∀ (m k : Nat), OddG (oddRows t cols m k).1 m cols
  | 0, _ => ⟨Nat.le_refl _, fun r h => (by cases h), fun r h => (by cases h)⟩
  | m + 1, k => by
    have ih := oddRows_ok t cols hc m (oddRow t (1 + (pk t k cols).toNat) (k + 1)).2
    obtain ⟨h1, h2⟩ := oddRow_ok t (1 + (pk t k cols).toNat) (k + 1)
    have hp := @pk_range t k cols (by omega)
    refine ⟨by simp only [oddRows, List.length_cons]; have := ih.len; omega, fun r hr => ?_, fun r hr => ?_⟩
    · rcases List.mem_cons.1 hr with rfl | hr
      · refine ⟨fun e => ?_, by rw [h1]; omega⟩
        rw [e] at h1; simp at h1; omega
      · exact ih.row r hr
    · rcases List.mem_cons.1 hr with rfl | hr
      · exact h2
      · exact ih.txt r hr
theorem oddG_ok (t : List Int) (k rows cols : Nat) (hc : 0 < cols) : OddG (oddG t k rows cols) rows cols := by
  have h := oddRows_ok t cols hc (pk t k (rows + 1 : Nat)).toNat (k + 1)
  have hp := @pk_range t k (rows + 1 : Nat) (by omega)
  exact ⟨by have := h.len; unfold oddG; omega, h.row, h.txt⟩
theorem OddG.grid {g : List Row} {m n : Nat} (h : OddG g m n) (hm : m ≤ 1000) (hn : n ≤ 1000) : okGrid g :=
  ⟨by have := h.len; omega, fun r hr => ⟨by have := (h.row r hr).2; omega, fun s hs => by have := (h.txt r hr s hs).2; omega⟩⟩
theorem OddG.big {g : List Row} {m n : Nat} (h : OddG g m n) (hm : m ≤ 1000) (hn : n ≤ 64) : bigG g = false := by
  unfold bigG
  rw [Bool.or_eq_false_iff]
  refine ⟨decide_eq_false (by have := h.len; omega), List.any_eq_false.2 fun r hr => ?_⟩
  have : bigR r = false := by
    unfold bigR
    rw [Bool.or_eq_false_iff]
    refine ⟨decide_eq_false (by have := (h.row r hr).2; omega), List.any_eq_false.2 fun s hs => ?_⟩
    unfold bigF
    have := (h.txt r hr s hs).2
    simp; omega
  rw [this]; decide
theorem OddG.bad {g : List Row} {m n : Nat} (h : OddG g m n) : g.any badR = false := by
  rw [List.any_eq_false]
  intro r hr
  have : badR r = false := by
    unfold badR
    rw [Bool.or_eq_false_iff]
    refine ⟨decide_eq_false fun e => (h.row r hr).1 (List.eq_nil_of_length_eq_zero e), List.any_eq_false.2 fun s hs => ?_⟩
    unfold badF
    rw [(h.txt r hr s hs).1]; decide
  rw [this]; decide
theorem jn_len2 (d : Dia) : ∀ (r : Row) (b : Bool), (∀ s ∈ r, okT s) → (jnL d b r).length ≤ 63 * r.length
  | [], _, _ => by simp [jnL]
  | s :: r, b, h => by
    have h1 := wrL_len d s
    have h2 := (h s (by simp)).2
    have h3 := jn_len2 d r false fun x hx => h x (by simp [hx])
    simp only [jnL, List.length_append, List.length_cons]
    split <;> simp <;> omega
theorem textN_len (d : Dia) {nl : List UInt8} (hnl : nl.length ≤ 2) {n : Nat} : ∀ (g : List Row), (∀ r ∈ g, r ≠ [] ∧ r.length ≤ n) → (∀ r ∈ g, ∀ s ∈ r, okT s) → (textN d nl g).length ≤ (63 * n + 2) * g.length
  | [], _, _ => by simp [textN]
  | r :: g, h, h2 => by
    have h3 := jn_len2 d r true (h2 r (by simp))
    have h4 := textN_len d hnl g (fun x hx => h x (by simp [hx])) fun x hx => h2 x (by simp [hx])
    have h5 := (h r (by simp)).2
    have e : textN d nl (r :: g) = jnL d true r ++ nl ++ textN d nl g := by simp [textN]
    have h6 : 63 * r.length ≤ 63 * n := Nat.mul_le_mul_left _ h5
    rw [e, List.length_append, List.length_append, List.length_cons, Nat.mul_succ]
    omega
end Go.Proofs.YtjjanbljkoaojaaDoor

namespace Go.Proofs.YtjjanbljkoaojaaDoor
open Go Go.Proofs Go.Abs
variable {G : Globals}
/-! The sanity check; what is read and written of the dice's grids. -/
def OkS (t : List Int) : Prop := ∀ i, 0 ≤ t.getD i 0 ∧ t.getD i 0 ≤ 255
theorem OkS.take {t : List Int} (h : OkS t) : OkM (t.take 300) := by
  refine ⟨by rw [List.length_take]; omega, fun i => ?_⟩
  rcases Nat.lt_or_ge i 300 with h1 | h1
  · have := h i
    rw [List.getD_eq_getElem?_getD, List.getElem?_take, if_pos h1, ← List.getD_eq_getElem?_getD]
    exact this
  · rw [List.getD_eq_getElem?_getD, List.getElem?_take, if_neg (by omega)]; decide
def saneT : List UInt8 := [97, 44, 34, 98, 44, 34, 34, 99, 34, 34, 34, 44]
def saneG : List Row := [[[97], [98, 44, 34, 99, 34], []]]
set_option maxRecDepth 100000 in
theorem sane_parse : parseL ⟨44, 34, false⟩ saneT = (saneG, 0) := by decide +kernel
set_option maxHeartbeats 4000000 in
set_option maxRecDepth 100000 in
theorem sane_spec (hT : HT G) : Ctr Tryd.prog G 6 [] [] (.d (.bool true)) [] := by
  refine Ctr.pure (M := M0) hmix Tryd.func6 rfl go6 ?_
  simp (config := { maxSteps := 1000000 }) (disch := ((try simp only [awL]); omega)) only [Option.toList_some, Option.toList_none, nextC_more, nextC_over, bs_size, bs_extract, bs_toList, bs_append, byteAt_bs, bs_cells, nums_length, nums_getD, Tryd.f6, ↓awU, awV, awF, ofVal, ofVal0, isShift, aggK, forall_const, ↓reduceIte, ↓reduceDIte, ↓purePost, combine, idsA, cellsA, numsOf, srcA, calleeA, refsA, isScalar, scalarD, scalar0, AV.one, putL, unfA, implies_true, IntKind.signed, Nat.reduceAdd, Nat.reduceSub, Nat.reduceMul, Nat.reducePow, Nat.reduceDiv, Nat.reduceMod, Int.reduceAdd, Int.reduceSub, Int.reduceMul, Int.reducePow, Int.reduceNeg, Int.reduceToNat, Int.reduceLT, Int.reduceLE, Nat.reduceEqDiff, sidsB, Nat.reduceBEq, keyKD, isIntK, aggD, aggL, eqKs]
  have ps := parse_spec hT ⟨44, 34, false⟩ saneT (by decide)
  rw [sane_parse] at ps
  refine CallC.of ps (by rfl) ?_
  obtain ⟨g, hg⟩ : ∃ g, g = saneG := ⟨_, rfl⟩
  obtain ⟨row, hrow⟩ : ∃ row : Row, row = [[97], [98, 44, 34, 99, 34], []] := ⟨_, rfl⟩
  have gl : (rowsD g).length = 1 := by rw [hg]; rfl
  have gl2 : g.length = 1 := by rw [hg]; rfl
  have gg : (rowsD g).getD 0 .nilp = Ss row false := by rw [hg, hrow]; rfl
  have sl : (strs row).length = 3 := by rw [hrow]; rfl
  have sl2 : row.length = 3 := by rw [hrow]; rfl
  have s1 : (strs row).getD 1 .nilp = S [98, 44, 34, 99, 34] := by rw [hrow]; rfl
  have s2 : (strs row).getD 2 .nilp = S [] := by rw [hrow]; rfl
  rw [← hg]
  unfold gridE
  simp (config := { maxSteps := 1000000 }) (disch := ((try simp only [awL]); omega)) only [Option.toList_some, Option.toList_none, nextC_more, nextC_over, bs_size, bs_extract, bs_toList, bs_append, byteAt_bs, bs_cells, nums_length, nums_getD, gl, gl2, gg, sl, sl2, s1, s2, ↓awU, awV, awF, ofVal, ofVal0, isShift, aggK, forall_const, ↓reduceIte, ↓reduceDIte, ↓purePost, combine, idsA, cellsA, numsOf, srcA, calleeA, refsA, isScalar, scalarD, scalar0, AV.one, putL, unfA, implies_true, IntKind.signed, Nat.reduceAdd, Nat.reduceSub, Nat.reduceMul, Nat.reducePow, Nat.reduceDiv, Nat.reduceMod, Int.reduceAdd, Int.reduceSub, Int.reduceMul, Int.reducePow, Int.reduceNeg, Int.reduceToNat, Int.reduceLT, Int.reduceLE, Nat.reduceEqDiff, sidsB, Nat.reduceBEq, keyKD, isIntK, aggD, aggL, eqKs]
  try rfl
theorem parse_of {d : Dia} {l : List UInt8} {g : List Row} (h1 : okDia d = true) (h2 : l.length ≤ 1048576) (h3 : Lib.validD l = true) (h4 : rowsL d l = some g) (h5 : bigG g = false) : parseL d l = (g, 0) := by
  unfold parseL
  rw [if_neg (by rw [h1]; decide), if_neg (by omega), if_neg (by rw [h3]; decide), h4]
  simp only [h5, Bool.false_eq_true, if_false]
theorem form_of {d : Dia} {g : List Row} {m n : Nat} (h1 : okDia d = true) (h : OddG g m n) (hm : m ≤ 100) (hn : n ≤ 64) : formL d g = if g.all (okR d) = false then ([], 4) else (textL d g, 0) := by
  have hl := textN_len d (nl := [10]) (by simp) g h.row h.txt
  rw [textN_lf] at hl
  have : (textL d g).length ≤ 1048576 := by
    have h2 := h.len
    have : (63 * n + 2) * g.length ≤ 4034 * 100 := Nat.mul_le_mul (by omega) (by omega)
    omega
  unfold formL
  rw [if_neg (by rw [h.bad, h1]; decide), if_neg (by rw [h.big (by omega) hn]; decide)]
  split
  · rfl
  · rw [if_neg (by omega)]
theorem okG_of {d : Dia} {g : List Row} {m n : Nat} (h : OddG g m n) (ha : g.all (okR d) = true) : okG d g := fun r hr => ⟨(h.row r hr).1, List.all_eq_true.1 ha r hr⟩
/-- What cannot be written needs a quote. -/
theorem no_quote {d : Dia} {g : List Row} (h : g.all (okR d) = false) : d.quo.toNat = 0 := by
  have : ¬ ∀ r ∈ g, okR d r = true := fun e => by rw [List.all_eq_true.2 e] at h; cases h
  by_cases q : d.quo = 0
  · rw [q]; rfl
  · refine absurd (fun r _ => ?_) this
    unfold okR
    rw [List.all_eq_true]
    intro s _
    unfold okW
    rw [decide_eq_true q, Bool.or_true]
theorem parse_text {d : Dia} {g : List Row} {m n : Nat} (h1 : okDia d = true) (h : OddG g m n) (hm : m ≤ 100) (hn : n ≤ 64) (ha : g.all (okR d) = true) : parseL d (textL d g) = (g, 0) := by
  have hl := textN_len d (nl := [10]) (by simp) g h.row h.txt
  have hd := okDia_dok h1
  have ht := rows_text hd (.inl rfl) [] g (okG_of h ha)
  rw [List.append_nil, textN_lf, rowsL_nil] at ht
  rw [textN_lf] at hl
  have h2 : (textL d g).length ≤ 1048576 := by
    have h2 := h.len
    have : (63 * n + 2) * g.length ≤ 4034 * 100 := Nat.mul_le_mul (by omega) (by omega)
    omega
  refine parse_of h1 h2 ?_ (by rw [ht]; simp) (h.big (by omega) hn)
  rw [← textN_lf]
  exact valid_text hd (.inl rfl) g fun r hr s hs => (h.txt r hr s hs).1
end Go.Proofs.YtjjanbljkoaojaaDoor

namespace Go.Proofs.YtjjanbljkoaojaaDoor
open Go Go.Proofs Go.Abs
variable {G : Globals}
/-! Files that are put one behind the other. -/
end Go.Proofs.YtjjanbljkoaojaaDoor

namespace Go.Proofs.YtjjanbljkoaojaaDoor
open Go Go.Proofs Go.Abs
/-! The other line end; the last line without one. -/
def allF (d : Dia) (g : List Row) : Bool := g.all fun r => r.all (fitsL d)
theorem allF_ok {d : Dia} {g : List Row} (h : allF d g = true) : g.all (okR d) = true := by
  unfold allF at h
  rw [List.all_eq_true] at h ⊢
  intro r hr
  have := h r hr
  rw [List.all_eq_true] at this
  unfold okR
  rw [List.all_eq_true]
  intro s hs
  unfold okW
  rw [this s hs]; rfl
theorem allF_no {d : Dia} {g : List Row} (h : g.all (okR d) = false) : allF d g = false := by
  cases h2 : allF d g with
  | false => rfl
  | true => rw [allF_ok h2] at h; cases h
theorem no_fits {d : Dia} {g : List Row} (h : allF d g = false) (h2 : g.all (okR d) = true) : d.quo ≠ 0 := by
  intro q
  have : allF d g = g.all (okR d) := by
    unfold allF
    congr 1
    funext r
    unfold okR
    congr 1
    funext s
    unfold okW
    rw [q]
    simp
  rw [this, h2] at h; cases h
/-- The other line end. -/
def crL (t : List UInt8) : List UInt8 := t.flatMap fun c => if c = 10 then [13, 10] else [c]
theorem crL_app (a b : List UInt8) : crL (a ++ b) = crL a ++ crL b := by simp [crL]
theorem crL_id : ∀ {a : List UInt8}, (∀ c ∈ a, c ≠ 10) → crL a = a
  | [], _ => rfl
  | c :: r, h => by
    have e : crL (c :: r) = (if c = 10 then [13, 10] else [c]) ++ crL r := rfl
    rw [e, if_neg (h c (by simp)), crL_id fun x hx => h x (by simp [hx])]; rfl
theorem crL_step {t : List UInt8} {i : Nat} (h : i < t.length) : crL (t.drop i) = (if (t.getD i 0).toNat = 10 then [13] else []) ++ [t.getD i 0] ++ crL (t.drop (i + 1)) := by
  rw [drop_at h]
  have e : crL (t.getD i 0 :: t.drop (i + 1)) = (if t.getD i 0 = 10 then [13, 10] else [t.getD i 0]) ++ crL (t.drop (i + 1)) := rfl
  rw [e]
  have : t.getD i 0 = 10 ↔ (t.getD i 0).toNat = 10 := u8_eq (x := 10)
  simp only [← this]
  split
  · rename_i h; rw [h]; rfl
  · rfl
theorem jn_no10 {d : Dia} (hd : Dok d) : ∀ (b : Bool) (r : Row), r.all (fitsL d) = true → ∀ c ∈ jnL d b r, c ≠ 10
  | _, [], _, c, hc => by cases hc
  | b, s :: r, h, c, hc => by
    rw [List.all_cons, Bool.and_eq_true] at h
    have h1 : wrL d s = s := by unfold wrL; rw [if_pos h.1]
    rw [jnL, h1] at hc
    rcases List.mem_append.1 hc with hc | hc
    · rcases List.mem_append.1 hc with hc | hc
      · split at hc
        · cases hc
        · rw [List.mem_singleton.1 hc]; intro e; exact hd.del.1 (by rw [e]; rfl)
      · intro e; exact ((fits_parts h.1).2.1 c hc).1 (by rw [e]; rfl)
    · exact jn_no10 hd false r h.2 c hc
theorem crL_text {d : Dia} (hd : Dok d) : ∀ g : List Row, allF d g = true → crL (textL d g) = textN d [13, 10] g
  | [], _ => rfl
  | r :: g, h => by
    unfold allF at h
    rw [List.all_cons, Bool.and_eq_true] at h
    have ih := crL_text hd g h.2
    have e : textN d [13, 10] (r :: g) = jnL d true r ++ [13, 10] ++ textN d [13, 10] g := by simp [textN]
    rw [textL, crL_app, crL_app, crL_id (jn_no10 hd true r h.1), ih, e]
    rfl
theorem size_text {d : Dia} {g : List Row} {m n : Nat} {nl : List UInt8} (hnl : nl.length ≤ 2) (h : OddG g m n) (hm : m ≤ 100) (hn : n ≤ 64) : (textN d nl g).length ≤ 403400 := by
  have hl := textN_len d hnl g h.row h.txt
  have h2 := h.len
  have : (63 * n + 2) * g.length ≤ 4034 * 100 := Nat.mul_le_mul (by omega) (by omega)
  omega
theorem parse_crlf {d : Dia} {g : List Row} {m n : Nat} (h1 : okDia d = true) (h : OddG g m n) (hm : m ≤ 100) (hn : n ≤ 64) (ha : allF d g = true) : parseL d (crL (textL d g)) = (g, 0) := by
  have hd := okDia_dok h1
  rw [crL_text hd g ha]
  have ht := rows_text hd (.inr rfl) [] g (okG_of h (allF_ok ha))
  rw [List.append_nil, rowsL_nil] at ht
  have hl := size_text (d := d) (nl := [13, 10]) (by simp) h hm hn
  exact parse_of h1 (by omega) (valid_text hd (.inr rfl) g fun r hr s hs => (h.txt r hr s hs).1) (by rw [ht]; simp) (h.big (by omega) hn)
theorem last_split {g : List Row} (h : 0 < g.length) : g = g.take (g.length - 1) ++ [g.getD (g.length - 1) []] := by
  conv => lhs; rw [← List.take_append_drop (g.length - 1) g]
  rw [List.drop_eq_getElem_cons (show g.length - 1 < g.length by omega), List.drop_eq_nil_of_le (by omega), List.getD_eq_getElem?_getD, List.getElem?_eq_getElem (show g.length - 1 < g.length by omega)]
  rfl
theorem jn_ne {d : Dia} {r : Row} (h1 : r ≠ []) (h2 : ¬ (r.length = 1 ∧ r.getD 0 [] = [])) : jnL d true r ≠ [] := by
  intro e
  match r, h1, h2, e with
  | [s], _, h2, e =>
    simp only [jnL, if_true, List.nil_append, List.append_nil] at e
    refine h2 ⟨rfl, ?_⟩
    unfold wrL at e
    split at e
    · exact e
    · simp [quoL] at e
  | s :: s2 :: r, _, _, e => simp [jnL] at e
theorem parse_cut {d : Dia} {g : List Row} {m n : Nat} (h1 : okDia d = true) (h : OddG g m n) (hm : m ≤ 100) (hn : n ≤ 64) (ha : g.all (okR d) = true) (hg : 0 < g.length)
    (hl : ¬ ((g.getD (g.length - 1) []).length = 1 ∧ (g.getD (g.length - 1) []).getD 0 [] = [])) : 0 < (textL d g).length ∧ parseL d ((textL d g).take ((textL d g).length - 1)) = (g, 0) := by
  have hd := okDia_dok h1
  have sp := last_split hg
  have mem := memD (d := []) (show g.length - 1 < g.length by omega)
  obtain ⟨r1, _⟩ := h.row _ mem
  have ok := okG_of h ha
  have okr := (ok _ mem).2
  have vr := fun s hs => (h.txt _ mem s hs).1
  generalize hr : g.getD (g.length - 1) [] = r at *
  generalize hp : g.take (g.length - 1) = p at *
  have hpk : ∀ x ∈ p, x ∈ g := fun x hx => by rw [← hp] at hx; exact List.mem_of_mem_take hx
  have et : textL d g = textN d [10] p ++ jnL d true r ++ [10] := by
    rw [← textN_lf, sp]; simp [textN]
  have el : (textL d g).length = (textN d [10] p ++ jnL d true r).length + 1 := by rw [et, List.length_append]; rfl
  have ec : (textL d g).take ((textL d g).length - 1) = textN d [10] p ++ jnL d true r := by
    rw [el, et]
    simp only [Nat.add_sub_cancel, List.take_left]
  refine ⟨by omega, ?_⟩
  have sz := size_text (d := d) (nl := [10]) (by simp) h hm hn
  rw [textN_lf] at sz
  have rt := rows_text hd (nl := [10]) (.inl rfl) (jnL d true r) p fun x hx => ok x (hpk x hx)
  rw [rows_last hd r1 okr (jn_ne r1 hl), Option.map_some, ← sp] at rt
  rw [ec]
  refine parse_of h1 (by omega) (valid_app (valid_text hd (.inl rfl) p fun x hx s hs => (h.txt x (hpk x hx) s hs).1) (valid_jn hd true r vr)) rt (h.big (by omega) hn)
end Go.Proofs.YtjjanbljkoaojaaDoor

namespace Go.Proofs.YtjjanbljkoaojaaDoor
open Go Go.Proofs Go.Abs
variable {G : Globals}
/-! What was written is read back: the law. -/
set_option maxHeartbeats 16000000 in
set_option maxRecDepth 100000 in
theorem back_law (hT : HT G) (hM : HM G) (t : List Int) (ht : OkS t) (hl : t.length ≤ 9223372036854775807) (crlf : Bool) :
    Ctr Tryd.prog G 4 [.d (.sl t.length false (ints .u8 t)), .d (.bool crlf)] [] (.d (.bool true)) [] := by
  refine Ctr.pure (M := M0) hmix Tryd.func4 rfl go4 ?_
  have hmm := ht.take
  simp (config := { maxSteps := 1000000 }) (disch := ((try simp only [awL]); omega)) only [Option.toList_some, Option.toList_none, nextC_more, nextC_over, bs_size, bs_extract, bs_toList, bs_append, byteAt_bs, bs_cells, nums_length, nums_getD, Tryd.f4, ↓awU, awV, awF, ofVal, ofVal0, isShift, aggK, forall_const, ↓reduceIte, ↓reduceDIte, ↓purePost, combine, idsA, cellsA, numsOf, srcA, calleeA, refsA, isScalar, scalarD, scalar0, AV.one, putL, unfA, implies_true, IntKind.signed, Nat.reduceAdd, Nat.reduceSub, Nat.reduceMul, Nat.reducePow, Nat.reduceDiv, Nat.reduceMod, Int.reduceAdd, Int.reduceSub, Int.reduceMul, Int.reducePow, Int.reduceNeg, Int.reduceToNat, Int.reduceLT, Int.reduceLE, Nat.reduceEqDiff, sidsB, Nat.reduceBEq, keyKD, isIntK, aggD, aggL, eqKs]
  refine CallC.pure (sane_spec hT) ?_
  simp (config := { maxSteps := 1000000 }) (disch := ((try simp only [awL]); omega)) only [Option.toList_some, Option.toList_none, nextC_more, nextC_over, bs_size, bs_extract, bs_toList, bs_append, byteAt_bs, bs_cells, nums_length, nums_getD, ↓awU, awV, awF, ofVal, ofVal0, isShift, aggK, forall_const, ↓reduceIte, ↓reduceDIte, ↓purePost, combine, idsA, cellsA, numsOf, srcA, calleeA, refsA, isScalar, scalarD, scalar0, AV.one, putL, unfA, implies_true, IntKind.signed, Nat.reduceAdd, Nat.reduceSub, Nat.reduceMul, Nat.reducePow, Nat.reduceDiv, Nat.reduceMod, Int.reduceAdd, Int.reduceSub, Int.reduceMul, Int.reducePow, Int.reduceNeg, Int.reduceToNat, Int.reduceLT, Int.reduceLE, Nat.reduceEqDiff, sidsB, Nat.reduceBEq, keyKD, isIntK, aggD, aggL, eqKs]
  refine CallC.by (new_spec t hl) (by rfl) (by rfl) (Nat.zero_le _) ?_
  generalize t.take 300 = s at *
  simp (config := { maxSteps := 1000000 }) (disch := ((try simp only [awL]); omega)) only [Option.toList_some, Option.toList_none, nextC_more, nextC_over, bs_size, bs_extract, bs_toList, bs_append, byteAt_bs, bs_cells, nums_length, nums_getD, ↓awU, awV, awF, ofVal, ofVal0, isShift, aggK, forall_const, ↓reduceIte, ↓reduceDIte, ↓purePost, combine, idsA, cellsA, numsOf, srcA, calleeA, refsA, isScalar, scalarD, scalar0, AV.one, putL, unfA, implies_true, IntKind.signed, Nat.reduceAdd, Nat.reduceSub, Nat.reduceMul, Nat.reducePow, Nat.reduceDiv, Nat.reduceMod, Int.reduceAdd, Int.reduceSub, Int.reduceMul, Int.reducePow, Int.reduceNeg, Int.reduceToNat, Int.reduceLT, Int.reduceLE, Nat.reduceEqDiff, sidsB, Nat.reduceBEq, keyKD, isIntK, aggD, aggL, eqKs]
  refine CallC.by (dialect_spec s 0 hmm) (by rfl) (by rfl) (Nat.le_refl _) ?_
  generalize diaM s 0 = d at *
  generalize diaK s 0 = k at *
  simp (config := { maxSteps := 1000000 }) (disch := ((try simp only [awL]); omega)) only [Option.toList_some, Option.toList_none, nextC_more, nextC_over, bs_size, bs_extract, bs_toList, bs_append, byteAt_bs, bs_cells, nums_length, nums_getD, ↓awU, awV, awF, ofVal, ofVal0, isShift, aggK, forall_const, ↓reduceIte, ↓reduceDIte, ↓purePost, combine, idsA, cellsA, numsOf, srcA, calleeA, refsA, isScalar, scalarD, scalar0, AV.one, putL, unfA, implies_true, IntKind.signed, Nat.reduceAdd, Nat.reduceSub, Nat.reduceMul, Nat.reducePow, Nat.reduceDiv, Nat.reduceMod, Int.reduceAdd, Int.reduceSub, Int.reduceMul, Int.reducePow, Int.reduceNeg, Int.reduceToNat, Int.reduceLT, Int.reduceLE, Nat.reduceEqDiff, sidsB, Nat.reduceBEq, keyKD, isIntK, aggD, aggL, eqKs]
  refine CallC.by (odd_spec s k 6 4 hmm (by decide) (by decide) (by decide)) (by rfl) (by rfl) (Nat.le_refl _) ?_
  have og := oddG_ok s k 6 4 (by decide)
  generalize oddG s k 6 4 = g at *
  generalize oddK s k 6 4 = k2 at *
  simp (config := { maxSteps := 1000000 }) (disch := ((try simp only [awL]); omega)) only [Option.toList_some, Option.toList_none, nextC_more, nextC_over, bs_size, bs_extract, bs_toList, bs_append, byteAt_bs, bs_cells, nums_length, nums_getD, ↓awU, awV, awF, ofVal, ofVal0, isShift, aggK, forall_const, ↓reduceIte, ↓reduceDIte, ↓purePost, combine, idsA, cellsA, numsOf, srcA, calleeA, refsA, isScalar, scalarD, scalar0, AV.one, putL, unfA, implies_true, IntKind.signed, Nat.reduceAdd, Nat.reduceSub, Nat.reduceMul, Nat.reducePow, Nat.reduceDiv, Nat.reduceMod, Int.reduceAdd, Int.reduceSub, Int.reduceMul, Int.reducePow, Int.reduceNeg, Int.reduceToNat, Int.reduceLT, Int.reduceLE, Nat.reduceEqDiff, sidsB, Nat.reduceBEq, keyKD, isIntK, aggD, aggL, eqKs]
  refine CallC.of (dvalid_spec d) (by rfl) ?_
  cases h1 : okDia d
  · simp (config := { maxSteps := 1000000 }) (disch := ((try simp only [awL]); omega)) only [Option.toList_some, Option.toList_none, nextC_more, nextC_over, bs_size, bs_extract, bs_toList, bs_append, byteAt_bs, bs_cells, nums_length, nums_getD, ↓awU, awV, awF, ofVal, ofVal0, isShift, aggK, forall_const, ↓reduceIte, ↓reduceDIte, ↓purePost, combine, idsA, cellsA, numsOf, srcA, calleeA, refsA, isScalar, scalarD, scalar0, AV.one, putL, unfA, implies_true, IntKind.signed, Nat.reduceAdd, Nat.reduceSub, Nat.reduceMul, Nat.reducePow, Nat.reduceDiv, Nat.reduceMod, Int.reduceAdd, Int.reduceSub, Int.reduceMul, Int.reducePow, Int.reduceNeg, Int.reduceToNat, Int.reduceLT, Int.reduceLE, Nat.reduceEqDiff, sidsB, Nat.reduceBEq, keyKD, isIntK, aggD, aggL, eqKs]
  · simp (config := { maxSteps := 1000000 }) (disch := ((try simp only [awL]); omega)) only [Option.toList_some, Option.toList_none, nextC_more, nextC_over, bs_size, bs_extract, bs_toList, bs_append, byteAt_bs, bs_cells, nums_length, nums_getD, ↓awU, awV, awF, ofVal, ofVal0, isShift, aggK, forall_const, ↓reduceIte, ↓reduceDIte, ↓purePost, combine, idsA, cellsA, numsOf, srcA, calleeA, refsA, isScalar, scalarD, scalar0, AV.one, putL, unfA, implies_true, IntKind.signed, Nat.reduceAdd, Nat.reduceSub, Nat.reduceMul, Nat.reducePow, Nat.reduceDiv, Nat.reduceMod, Int.reduceAdd, Int.reduceSub, Int.reduceMul, Int.reducePow, Int.reduceNeg, Int.reduceToNat, Int.reduceLT, Int.reduceLE, Nat.reduceEqDiff, sidsB, Nat.reduceBEq, keyKD, isIntK, aggD, aggL, eqKs]
    have ok := og.grid (by decide) (by decide)
    have fg := format_spec hT hM d g false ok
    rw [form_of h1 og (by decide) (by decide)] at fg
    obtain ⟨tx, hfx⟩ : ∃ x : List UInt8 × Nat, x = if g.all (okR d) = false then ([], 4) else (textL d g, 0) := ⟨_, rfl⟩
    rw [← hfx] at fg
    refine CallC.of fg (by rfl) ?_
    unfold textE
    have gl := @rowsD_length g
    have hgl := og.len
    simp (config := { maxSteps := 1000000 }) (disch := ((try simp only [awL]); omega)) only [Option.toList_some, Option.toList_none, nextC_more, nextC_over, bs_size, bs_extract, bs_toList, bs_append, byteAt_bs, bs_cells, nums_length, nums_getD, gl, ↓awU, awV, awF, ofVal, ofVal0, isShift, aggK, forall_const, ↓reduceIte, ↓reduceDIte, ↓purePost, combine, idsA, cellsA, numsOf, srcA, calleeA, refsA, isScalar, scalarD, scalar0, AV.one, putL, unfA, implies_true, IntKind.signed, Nat.reduceAdd, Nat.reduceSub, Nat.reduceMul, Nat.reducePow, Nat.reduceDiv, Nat.reduceMod, Int.reduceAdd, Int.reduceSub, Int.reduceMul, Int.reducePow, Int.reduceNeg, Int.reduceToNat, Int.reduceLT, Int.reduceLE, Nat.reduceEqDiff, sidsB, Nat.reduceBEq, keyKD, isIntK, aggD, aggL, eqKs]
    refine LoopC.fx 13194139534274 (α := Nat × Bool) (β := Unit) (fun x => g.length - x.1) (fun x => [(44, .d (.int .i64 x.1)), (10, .d (.bool x.2))]) (fun _ => [.dead, BoxD d, .box [.d (Gr g false)]])
      (fun x => x.1 ≤ g.length ∧ allF d g = (x.2 && allF d (g.drop x.1))) 962 (fun _ => [(10, .d (.bool (allF d g)))]) (fun _ => [.dead, BoxD d, .box [.d (Gr g false)]]) (fun _ => True) (0, true) ⟨Nat.zero_le _, by simp⟩ ?_ ?_ ?_
    · exact ⟨[some 0, some 1, some 2], rfl, by simp, by simp [setsA, keepA, SWeak, AWeak], by simp [HWeak, BWeak, SWeak, AWeak]⟩
    · rintro ⟨i, b⟩ ⟨i1, i2⟩
      simp only at i1 i2
      simp only [awK, Nat.reduceMod, Nat.reduceDiv, reduceIte]
      rcases Nat.lt_or_ge i g.length with h | h
      · have gg := rowsD_getD h
        have i3 : allF d (g.drop i) = ((g.getD i []).all (fitsL d) && allF d (g.drop (i + 1))) := all_step h
        have mem := memD (d := []) h
        rw [i3] at i2
        obtain ⟨r1, r2⟩ := ok.2 _ mem
        generalize g.getD i [] = row at *
        have sl := @strs_length row
        simp (config := { maxSteps := 1000000 }) (disch := ((try simp only [awL]); omega)) only [Option.toList_some, Option.toList_none, nextC_more, nextC_over, bs_size, bs_extract, bs_toList, bs_append, byteAt_bs, bs_cells, nums_length, nums_getD, gl, gg, ↓awU, awV, awF, ofVal, ofVal0, isShift, aggK, forall_const, ↓reduceIte, ↓reduceDIte, ↓purePost, combine, idsA, cellsA, numsOf, srcA, calleeA, refsA, isScalar, scalarD, scalar0, AV.one, putL, unfA, implies_true, IntKind.signed, Nat.reduceAdd, Nat.reduceSub, Nat.reduceMul, Nat.reducePow, Nat.reduceDiv, Nat.reduceMod, Int.reduceAdd, Int.reduceSub, Int.reduceMul, Int.reducePow, Int.reduceNeg, Int.reduceToNat, Int.reduceLT, Int.reduceLE, Nat.reduceEqDiff, sidsB, Nat.reduceBEq, keyKD, isIntK, aggD, aggL, eqKs]
        refine LoopC.fr 875211255710658 (α := Nat × Bool) (fun x => row.length - x.1) (fun x => [(50, .d (.int .i64 x.1)), (10, .d (.bool x.2))]) (fun _ => [.dead, BoxD d, .box [.d (Gr g false)]])
          (fun x => x.1 ≤ row.length ∧ (b && row.all (fitsL d)) = (x.2 && (row.drop x.1).all (fitsL d))) (0, b) ⟨Nat.zero_le _, by simp⟩ ?_ ?_
        · exact ⟨[some 0, some 1, some 2], rfl, by simp, by simp [setsA, keepA, SWeak, AWeak], by simp [HWeak, BWeak, SWeak, AWeak]⟩
        · rintro ⟨j, c⟩ ⟨j1, j2⟩
          simp only at j1 j2
          simp only [awK, Nat.reduceMod, Nat.reduceDiv, reduceIte]
          rcases Nat.lt_or_ge j row.length with hj | hj
          · have sg := strs_getD hj
            rw [all_step (x := []) hj] at j2
            have sz := r2 _ (memD (d := []) hj)
            generalize row.getD j [] = fld at *
            cases c
            · simp (config := { maxSteps := 1000000 }) (disch := ((try simp only [awL]); omega)) only [Option.toList_some, Option.toList_none, nextC_more, nextC_over, bs_size, bs_extract, bs_toList, bs_append, byteAt_bs, bs_cells, nums_length, nums_getD, sl, sg, ↓awU, awV, awF, ofVal, ofVal0, isShift, aggK, forall_const, ↓reduceIte, ↓reduceDIte, ↓purePost, combine, idsA, cellsA, numsOf, srcA, calleeA, refsA, isScalar, scalarD, scalar0, AV.one, putL, unfA, implies_true, IntKind.signed, Nat.reduceAdd, Nat.reduceSub, Nat.reduceMul, Nat.reducePow, Nat.reduceDiv, Nat.reduceMod, Int.reduceAdd, Int.reduceSub, Int.reduceMul, Int.reducePow, Int.reduceNeg, Int.reduceToNat, Int.reduceLT, Int.reduceLE, Nat.reduceEqDiff, sidsB, Nat.reduceBEq, keyKD, isIntK, aggD, aggL, eqKs]
              exact ⟨(j + 1, false), ⟨hj, by rw [j2]; simp⟩, by simp only; omega, ⟨[some 0, some 1, some 2], rfl, by simp, by simp [setsA, keepA, SWeak, AWeak], by simp [HWeak, BWeak, SWeak, AWeak]⟩⟩
            · simp (config := { maxSteps := 1000000 }) (disch := ((try simp only [awL]); omega)) only [Option.toList_some, Option.toList_none, nextC_more, nextC_over, bs_size, bs_extract, bs_toList, bs_append, byteAt_bs, bs_cells, nums_length, nums_getD, sl, sg, ↓awU, awV, awF, ofVal, ofVal0, isShift, aggK, forall_const, ↓reduceIte, ↓reduceDIte, ↓purePost, combine, idsA, cellsA, numsOf, srcA, calleeA, refsA, isScalar, scalarD, scalar0, AV.one, putL, unfA, implies_true, IntKind.signed, Nat.reduceAdd, Nat.reduceSub, Nat.reduceMul, Nat.reducePow, Nat.reduceDiv, Nat.reduceMod, Int.reduceAdd, Int.reduceSub, Int.reduceMul, Int.reducePow, Int.reduceNeg, Int.reduceToNat, Int.reduceLT, Int.reduceLE, Nat.reduceEqDiff, sidsB, Nat.reduceBEq, keyKD, isIntK, aggD, aggL, eqKs]
              refine CallC.of (fits_spec hT d fld sz) (by rfl) ?_
              generalize fitsL d fld = f at *
              simp (config := { maxSteps := 1000000 }) (disch := ((try simp only [awL]); omega)) only [Option.toList_some, Option.toList_none, nextC_more, nextC_over, bs_size, bs_extract, bs_toList, bs_append, byteAt_bs, bs_cells, nums_length, nums_getD, ↓awU, awV, awF, ofVal, ofVal0, isShift, aggK, forall_const, ↓reduceIte, ↓reduceDIte, ↓purePost, combine, idsA, cellsA, numsOf, srcA, calleeA, refsA, isScalar, scalarD, scalar0, AV.one, putL, unfA, implies_true, IntKind.signed, Nat.reduceAdd, Nat.reduceSub, Nat.reduceMul, Nat.reducePow, Nat.reduceDiv, Nat.reduceMod, Int.reduceAdd, Int.reduceSub, Int.reduceMul, Int.reducePow, Int.reduceNeg, Int.reduceToNat, Int.reduceLT, Int.reduceLE, Nat.reduceEqDiff, sidsB, Nat.reduceBEq, keyKD, isIntK, aggD, aggL, eqKs]
              exact ⟨(j + 1, f), ⟨hj, by rw [j2]; simp⟩, by simp only; omega, ⟨[some 0, some 1, some 2], rfl, by simp, by simp [setsA, keepA, SWeak, AWeak], by simp [HWeak, BWeak, SWeak, AWeak]⟩⟩
          · rw [List.drop_eq_nil_of_le hj] at j2
            simp (config := { maxSteps := 1000000 }) (disch := ((try simp only [awL]); omega)) only [Option.toList_some, Option.toList_none, nextC_more, nextC_over, bs_size, bs_extract, bs_toList, bs_append, byteAt_bs, bs_cells, nums_length, nums_getD, ↓awU, awV, awF, ofVal, ofVal0, isShift, aggK, forall_const, ↓reduceIte, ↓reduceDIte, ↓purePost, combine, idsA, cellsA, numsOf, srcA, calleeA, refsA, isScalar, scalarD, scalar0, AV.one, putL, unfA, implies_true, IntKind.signed, Nat.reduceAdd, Nat.reduceSub, Nat.reduceMul, Nat.reducePow, Nat.reduceDiv, Nat.reduceMod, Int.reduceAdd, Int.reduceSub, Int.reduceMul, Int.reducePow, Int.reduceNeg, Int.reduceToNat, Int.reduceLT, Int.reduceLE, Nat.reduceEqDiff, sidsB, Nat.reduceBEq, keyKD, isIntK, aggD, aggL, eqKs]
            refine ⟨(i + 1, c), ⟨h, ?_⟩, by simp only; omega, ⟨[some 0, some 1, some 2], rfl, by simp, by simp [setsA, keepA, SWeak, AWeak], by simp [HWeak, BWeak, SWeak, AWeak]⟩⟩
            rw [i2, ← Bool.and_assoc, j2]; simp
      · rw [List.drop_eq_nil_of_le h] at i2
        have i3 : b = allF d g := by rw [i2]; simp [allF]
        subst i3
        simp (config := { maxSteps := 1000000 }) (disch := ((try simp only [awL]); omega)) only [Option.toList_some, Option.toList_none, nextC_more, nextC_over, bs_size, bs_extract, bs_toList, bs_append, byteAt_bs, bs_cells, nums_length, nums_getD, ↓awU, awV, awF, ofVal, ofVal0, isShift, aggK, forall_const, ↓reduceIte, ↓reduceDIte, ↓purePost, combine, idsA, cellsA, numsOf, srcA, calleeA, refsA, isScalar, scalarD, scalar0, AV.one, putL, unfA, implies_true, IntKind.signed, Nat.reduceAdd, Nat.reduceSub, Nat.reduceMul, Nat.reducePow, Nat.reduceDiv, Nat.reduceMod, Int.reduceAdd, Int.reduceSub, Int.reduceMul, Int.reducePow, Int.reduceNeg, Int.reduceToNat, Int.reduceLT, Int.reduceLE, Nat.reduceEqDiff, sidsB, Nat.reduceBEq, keyKD, isIntK, aggD, aggL, eqKs]
        exact ⟨(), trivial, ⟨[some 0, some 1, some 2], rfl, by simp, by simp [setsA, keepA, SWeak, AWeak], by simp [HWeak, BWeak, SWeak, AWeak]⟩⟩
    · rintro _ _
      simp only [awK, Nat.reduceMod, Nat.reduceDiv, reduceIte]
      cases ha : g.all (okR d)
      · rw [ha, if_pos rfl] at hfx
        subst hfx
        have hq := no_quote ha
        rw [allF_no ha]
        simp (config := { maxSteps := 1000000 }) (disch := ((try simp only [awL]); omega)) only [Option.toList_some, Option.toList_none, nextC_more, nextC_over, bs_size, bs_extract, bs_toList, bs_append, byteAt_bs, bs_cells, nums_length, nums_getD, hq, ↓awU, awV, awF, ofVal, ofVal0, isShift, aggK, forall_const, ↓reduceIte, ↓reduceDIte, ↓purePost, combine, idsA, cellsA, numsOf, srcA, calleeA, refsA, isScalar, scalarD, scalar0, AV.one, putL, unfA, implies_true, IntKind.signed, Nat.reduceAdd, Nat.reduceSub, Nat.reduceMul, Nat.reducePow, Nat.reduceDiv, Nat.reduceMod, Int.reduceAdd, Int.reduceSub, Int.reduceMul, Int.reducePow, Int.reduceNeg, Int.reduceToNat, Int.reduceLT, Int.reduceLE, Nat.reduceEqDiff, sidsB, Nat.reduceBEq, keyKD, isIntK, aggD, aggL, eqKs]
      · rw [ha, if_neg (by decide)] at hfx
        subst hfx
        have pt := parse_text h1 og (by decide) (by decide) ha
        have sz := size_text (d := d) (nl := [10]) (by simp) og (by decide) (by decide)
        rw [textN_lf] at sz
        have ps := parse_spec hT d (textL d g) (by omega)
        rw [pt] at ps
        simp (config := { maxSteps := 1000000 }) (disch := ((try simp only [awL]); omega)) only [Option.toList_some, Option.toList_none, nextC_more, nextC_over, bs_size, bs_extract, bs_toList, bs_append, byteAt_bs, bs_cells, nums_length, nums_getD, ↓awU, awV, awF, ofVal, ofVal0, isShift, aggK, forall_const, ↓reduceIte, ↓reduceDIte, ↓purePost, combine, idsA, cellsA, numsOf, srcA, calleeA, refsA, isScalar, scalarD, scalar0, AV.one, putL, unfA, implies_true, IntKind.signed, Nat.reduceAdd, Nat.reduceSub, Nat.reduceMul, Nat.reducePow, Nat.reduceDiv, Nat.reduceMod, Int.reduceAdd, Int.reduceSub, Int.reduceMul, Int.reducePow, Int.reduceNeg, Int.reduceToNat, Int.reduceLT, Int.reduceLE, Nat.reduceEqDiff, sidsB, Nat.reduceBEq, keyKD, isIntK, aggD, aggL, eqKs]
        refine CallC.of ps (by rfl) ?_
        unfold gridE
        simp (config := { maxSteps := 1000000 }) (disch := ((try simp only [awL]); omega)) only [Option.toList_some, Option.toList_none, nextC_more, nextC_over, bs_size, bs_extract, bs_toList, bs_append, byteAt_bs, bs_cells, nums_length, nums_getD, ↓awU, awV, awF, ofVal, ofVal0, isShift, aggK, forall_const, ↓reduceIte, ↓reduceDIte, ↓purePost, combine, idsA, cellsA, numsOf, srcA, calleeA, refsA, isScalar, scalarD, scalar0, AV.one, putL, unfA, implies_true, IntKind.signed, Nat.reduceAdd, Nat.reduceSub, Nat.reduceMul, Nat.reducePow, Nat.reduceDiv, Nat.reduceMod, Int.reduceAdd, Int.reduceSub, Int.reduceMul, Int.reducePow, Int.reduceNeg, Int.reduceToNat, Int.reduceLT, Int.reduceLE, Nat.reduceEqDiff, sidsB, Nat.reduceBEq, keyKD, isIntK, aggD, aggL, eqKs]
        refine CallC.of (sameG_spec g g false false ok ok) (by rfl) ?_
        rw [decide_eq_true rfl]
        simp (config := { maxSteps := 1000000 }) (disch := ((try simp only [awL]); omega)) only [Option.toList_some, Option.toList_none, nextC_more, nextC_over, bs_size, bs_extract, bs_toList, bs_append, byteAt_bs, bs_cells, nums_length, nums_getD, ↓awU, awV, awF, ofVal, ofVal0, isShift, aggK, forall_const, ↓reduceIte, ↓reduceDIte, ↓purePost, combine, idsA, cellsA, numsOf, srcA, calleeA, refsA, isScalar, scalarD, scalar0, AV.one, putL, unfA, implies_true, IntKind.signed, Nat.reduceAdd, Nat.reduceSub, Nat.reduceMul, Nat.reducePow, Nat.reduceDiv, Nat.reduceMod, Int.reduceAdd, Int.reduceSub, Int.reduceMul, Int.reducePow, Int.reduceNeg, Int.reduceToNat, Int.reduceLT, Int.reduceLE, Nat.reduceEqDiff, sidsB, Nat.reduceBEq, keyKD, isIntK, aggD, aggL, eqKs]
        cases hF : allF d g
        · have hq := no_fits hF ha
          have hq2 : ¬ d.quo.toNat = 0 := fun e => hq (u8_eq.2 e)
          simp (config := { maxSteps := 1000000 }) (disch := ((try simp only [awL]); omega)) only [Option.toList_some, Option.toList_none, nextC_more, nextC_over, bs_size, bs_extract, bs_toList, bs_append, byteAt_bs, bs_cells, nums_length, nums_getD, ↓awU, awV, awF, ofVal, ofVal0, isShift, aggK, forall_const, ↓reduceIte, ↓reduceDIte, ↓purePost, combine, idsA, cellsA, numsOf, srcA, calleeA, refsA, isScalar, scalarD, scalar0, AV.one, putL, unfA, implies_true, IntKind.signed, Nat.reduceAdd, Nat.reduceSub, Nat.reduceMul, Nat.reducePow, Nat.reduceDiv, Nat.reduceMod, Int.reduceAdd, Int.reduceSub, Int.reduceMul, Int.reducePow, Int.reduceNeg, Int.reduceToNat, Int.reduceLT, Int.reduceLE, Nat.reduceEqDiff, sidsB, Nat.reduceBEq, keyKD, isIntK, aggD, aggL, eqKs]
          try simp [hq2]
        · cases crlf
          · simp (config := { maxSteps := 1000000 }) (disch := ((try simp only [awL]); omega)) only [Option.toList_some, Option.toList_none, nextC_more, nextC_over, bs_size, bs_extract, bs_toList, bs_append, byteAt_bs, bs_cells, nums_length, nums_getD, ↓awU, awV, awF, ofVal, ofVal0, isShift, aggK, forall_const, ↓reduceIte, ↓reduceDIte, ↓purePost, combine, idsA, cellsA, numsOf, srcA, calleeA, refsA, isScalar, scalarD, scalar0, AV.one, putL, unfA, implies_true, IntKind.signed, Nat.reduceAdd, Nat.reduceSub, Nat.reduceMul, Nat.reducePow, Nat.reduceDiv, Nat.reduceMod, Int.reduceAdd, Int.reduceSub, Int.reduceMul, Int.reducePow, Int.reduceNeg, Int.reduceToNat, Int.reduceLT, Int.reduceLE, Nat.reduceEqDiff, sidsB, Nat.reduceBEq, keyKD, isIntK, aggD, aggL, eqKs]
          · simp (config := { maxSteps := 1000000 }) (disch := ((try simp only [awL]); omega)) only [Option.toList_some, Option.toList_none, nextC_more, nextC_over, bs_size, bs_extract, bs_toList, bs_append, byteAt_bs, bs_cells, nums_length, nums_getD, ↓awU, awV, awF, ofVal, ofVal0, isShift, aggK, forall_const, ↓reduceIte, ↓reduceDIte, ↓purePost, combine, idsA, cellsA, numsOf, srcA, calleeA, refsA, isScalar, scalarD, scalar0, AV.one, putL, unfA, implies_true, IntKind.signed, Nat.reduceAdd, Nat.reduceSub, Nat.reduceMul, Nat.reducePow, Nat.reduceDiv, Nat.reduceMod, Int.reduceAdd, Int.reduceSub, Int.reduceMul, Int.reducePow, Int.reduceNeg, Int.reduceToNat, Int.reduceLT, Int.reduceLE, Nat.reduceEqDiff, sidsB, Nat.reduceBEq, keyKD, isIntK, aggD, aggL, eqKs]
            have pc := parse_crlf h1 og (by decide) (by decide) hF
            have szc := size_text (d := d) (nl := [13, 10]) (by simp) og (by decide) (by decide)
            rw [← crL_text (okDia_dok h1) g hF] at szc
            have psc := parse_spec hT d (crL (textL d g)) (by omega)
            rw [pc] at psc
            have pz := parse_cut h1 og (by decide) (by decide) ha
            generalize textL d g = tx at *
            refine LoopC.fr 448 (α := Nat × List UInt8) (fun x => tx.length - x.1) (fun x => [(18, .d (.int .i64 x.1)), (17, .d (S x.2))]) (fun _ => [.dead, BoxD d, .box [.d (Gr g false)], .dead])
              (fun x => x.1 ≤ tx.length ∧ x.2.length ≤ 2 * x.1 ∧ x.2 ++ crL (tx.drop x.1) = crL tx) (0, []) ⟨Nat.zero_le _, by simp, by simp⟩ ?_ ?_
            · exact ⟨[some 0, some 1, some 2, some 3], rfl, by simp, by simp [setsA, keepA, SWeak, AWeak], by simp [HWeak, BWeak, SWeak, AWeak]⟩
            · rintro ⟨i, out⟩ ⟨i1, i2, i3⟩
              simp only at i1 i2 i3
              simp only [awK, Nat.reduceMod, Nat.reduceDiv, reduceIte]
              rcases Nat.lt_or_ge i tx.length with h | h
              · rw [crL_step h] at i3
                have e5 : (tx.take (i + 1)).drop i = [tx.getD i 0] := by
                  rw [take_succ_app h, List.drop_append_of_le_length (by rw [List.length_take]; omega), List.drop_eq_nil_of_le (by rw [List.length_take]; omega)]; rfl
                by_cases h10 : (tx.getD i 0).toNat = 10
                · rw [if_pos h10] at i3
                  simp (config := { maxSteps := 1000000 }) (disch := ((try simp only [awL]); omega)) only [Option.toList_some, Option.toList_none, nextC_more, nextC_over, bs_size, bs_extract, bs_toList, bs_append, byteAt_bs, bs_cells, nums_length, nums_getD, h10, e5, ↓awU, awV, awF, ofVal, ofVal0, isShift, aggK, forall_const, ↓reduceIte, ↓reduceDIte, ↓purePost, combine, idsA, cellsA, numsOf, srcA, calleeA, refsA, isScalar, scalarD, scalar0, AV.one, putL, unfA, implies_true, IntKind.signed, Nat.reduceAdd, Nat.reduceSub, Nat.reduceMul, Nat.reducePow, Nat.reduceDiv, Nat.reduceMod, Int.reduceAdd, Int.reduceSub, Int.reduceMul, Int.reducePow, Int.reduceNeg, Int.reduceToNat, Int.reduceLT, Int.reduceLE, Nat.reduceEqDiff, sidsB, Nat.reduceBEq, keyKD, isIntK, aggD, aggL, eqKs]
                  refine ⟨(i + 1, out ++ [13] ++ [tx.getD i 0]), ⟨h, by simp only [List.length_append, List.length_cons, List.length_nil]; omega, by rw [← i3]; simp only [List.append_assoc]⟩, by simp only; omega, ⟨[some 0, some 1, some 2, some 3], rfl, by simp, by simp [setsA, keepA, SWeak, AWeak], by simp [HWeak, BWeak, SWeak, AWeak]⟩⟩
                · rw [if_neg h10, List.nil_append] at i3
                  simp (config := { maxSteps := 1000000 }) (disch := ((try simp only [awL]); omega)) only [Option.toList_some, Option.toList_none, nextC_more, nextC_over, bs_size, bs_extract, bs_toList, bs_append, byteAt_bs, bs_cells, nums_length, nums_getD, e5, ↓awU, awV, awF, ofVal, ofVal0, isShift, aggK, forall_const, ↓reduceIte, ↓reduceDIte, ↓purePost, combine, idsA, cellsA, numsOf, srcA, calleeA, refsA, isScalar, scalarD, scalar0, AV.one, putL, unfA, implies_true, IntKind.signed, Nat.reduceAdd, Nat.reduceSub, Nat.reduceMul, Nat.reducePow, Nat.reduceDiv, Nat.reduceMod, Int.reduceAdd, Int.reduceSub, Int.reduceMul, Int.reducePow, Int.reduceNeg, Int.reduceToNat, Int.reduceLT, Int.reduceLE, Nat.reduceEqDiff, sidsB, Nat.reduceBEq, keyKD, isIntK, aggD, aggL, eqKs]
                  refine ⟨(i + 1, out ++ [tx.getD i 0]), ⟨h, by simp only [List.length_append, List.length_cons, List.length_nil]; omega, by rw [← i3]; simp only [List.append_assoc]⟩, by simp only; omega, ⟨[some 0, some 1, some 2, some 3], rfl, by simp, by simp [setsA, keepA, SWeak, AWeak], by simp [HWeak, BWeak, SWeak, AWeak]⟩⟩
              · rw [List.drop_eq_nil_of_le h, show crL [] = [] from rfl, List.append_nil] at i3
                subst i3
                simp (config := { maxSteps := 1000000 }) (disch := ((try simp only [awL]); omega)) only [Option.toList_some, Option.toList_none, nextC_more, nextC_over, bs_size, bs_extract, bs_toList, bs_append, byteAt_bs, bs_cells, nums_length, nums_getD, ↓awU, awV, awF, ofVal, ofVal0, isShift, aggK, forall_const, ↓reduceIte, ↓reduceDIte, ↓purePost, combine, idsA, cellsA, numsOf, srcA, calleeA, refsA, isScalar, scalarD, scalar0, AV.one, putL, unfA, implies_true, IntKind.signed, Nat.reduceAdd, Nat.reduceSub, Nat.reduceMul, Nat.reducePow, Nat.reduceDiv, Nat.reduceMod, Int.reduceAdd, Int.reduceSub, Int.reduceMul, Int.reducePow, Int.reduceNeg, Int.reduceToNat, Int.reduceLT, Int.reduceLE, Nat.reduceEqDiff, sidsB, Nat.reduceBEq, keyKD, isIntK, aggD, aggL, eqKs]
                refine CallC.of psc (by rfl) ?_
                unfold gridE
                simp (config := { maxSteps := 1000000 }) (disch := ((try simp only [awL]); omega)) only [Option.toList_some, Option.toList_none, nextC_more, nextC_over, bs_size, bs_extract, bs_toList, bs_append, byteAt_bs, bs_cells, nums_length, nums_getD, ↓awU, awV, awF, ofVal, ofVal0, isShift, aggK, forall_const, ↓reduceIte, ↓reduceDIte, ↓purePost, combine, idsA, cellsA, numsOf, srcA, calleeA, refsA, isScalar, scalarD, scalar0, AV.one, putL, unfA, implies_true, IntKind.signed, Nat.reduceAdd, Nat.reduceSub, Nat.reduceMul, Nat.reducePow, Nat.reduceDiv, Nat.reduceMod, Int.reduceAdd, Int.reduceSub, Int.reduceMul, Int.reducePow, Int.reduceNeg, Int.reduceToNat, Int.reduceLT, Int.reduceLE, Nat.reduceEqDiff, sidsB, Nat.reduceBEq, keyKD, isIntK, aggD, aggL, eqKs]
                refine CallC.of (sameG_spec g g false false ok ok) (by rfl) ?_
                rw [decide_eq_true rfl]
                rcases Nat.eq_zero_or_pos g.length with g0 | g0
                · simp (config := { maxSteps := 1000000 }) (disch := ((try simp only [awL]); omega)) only [Option.toList_some, Option.toList_none, nextC_more, nextC_over, bs_size, bs_extract, bs_toList, bs_append, byteAt_bs, bs_cells, nums_length, nums_getD, gl, ↓awU, awV, awF, ofVal, ofVal0, isShift, aggK, forall_const, ↓reduceIte, ↓reduceDIte, ↓purePost, combine, idsA, cellsA, numsOf, srcA, calleeA, refsA, isScalar, scalarD, scalar0, AV.one, putL, unfA, implies_true, IntKind.signed, Nat.reduceAdd, Nat.reduceSub, Nat.reduceMul, Nat.reducePow, Nat.reduceDiv, Nat.reduceMod, Int.reduceAdd, Int.reduceSub, Int.reduceMul, Int.reducePow, Int.reduceNeg, Int.reduceToNat, Int.reduceLT, Int.reduceLE, Nat.reduceEqDiff, sidsB, Nat.reduceBEq, keyKD, isIntK, aggD, aggL, eqKs]
                · have gi : (((g.length : Nat) : Int) - 1).toNat = g.length - 1 := by omega
                  have gg := rowsD_getD (show g.length - 1 < g.length by omega)
                  have pz2 := pz g0
                  have rw0 := og.row _ (memD (d := []) (show g.length - 1 < g.length by omega))
                  generalize g.getD (g.length - 1) [] = row at *
                  have sl := @strs_length row
                  have r0 := List.length_pos_iff.2 rw0.1
                  have sg := strs_getD (i := 0) r0
                  have last : ∀ P : Prop, (¬ (row.length = 1 ∧ row.getD 0 [] = []) → P) → (row.length = 1 ∧ row.getD 0 [] = []) ∨ P := fun P h => by
                    by_cases e : row.length = 1 ∧ row.getD 0 [] = []
                    · exact .inl e
                    · exact .inr (h e)
                  by_cases r1 : row.length = 1
                  · by_cases r2 : row.getD 0 [] = []
                    · simp (config := { maxSteps := 1000000 }) (disch := ((try simp only [awL]); omega)) only [Option.toList_some, Option.toList_none, nextC_more, nextC_over, bs_size, bs_extract, bs_toList, bs_append, byteAt_bs, bs_cells, nums_length, nums_getD, gl, gi, gg, sl, sg, r1, r2, ↓awU, awV, awF, ofVal, ofVal0, isShift, aggK, forall_const, ↓reduceIte, ↓reduceDIte, ↓purePost, combine, idsA, cellsA, numsOf, srcA, calleeA, refsA, isScalar, scalarD, scalar0, AV.one, putL, unfA, implies_true, IntKind.signed, Nat.reduceAdd, Nat.reduceSub, Nat.reduceMul, Nat.reducePow, Nat.reduceDiv, Nat.reduceMod, Int.reduceAdd, Int.reduceSub, Int.reduceMul, Int.reducePow, Int.reduceNeg, Int.reduceToNat, Int.reduceLT, Int.reduceLE, Nat.reduceEqDiff, sidsB, Nat.reduceBEq, keyKD, isIntK, aggD, aggL, eqKs]
                    · obtain ⟨z1, z2⟩ := pz2 fun e => r2 e.2
                      have ti : (((tx.length : Nat) : Int) - 1).toNat = tx.length - 1 := by omega
                      have pzs := parse_spec hT d (tx.take (tx.length - 1)) (by rw [List.length_take]; omega)
                      rw [z2] at pzs
                      simp (config := { maxSteps := 1000000 }) (disch := ((try simp only [awL]); omega)) only [Option.toList_some, Option.toList_none, nextC_more, nextC_over, bs_size, bs_extract, bs_toList, bs_append, byteAt_bs, bs_cells, nums_length, nums_getD, gl, gi, gg, sl, sg, r1, r2, ti, ↓awU, awV, awF, ofVal, ofVal0, isShift, aggK, forall_const, ↓reduceIte, ↓reduceDIte, ↓purePost, combine, idsA, cellsA, numsOf, srcA, calleeA, refsA, isScalar, scalarD, scalar0, AV.one, putL, unfA, implies_true, IntKind.signed, Nat.reduceAdd, Nat.reduceSub, Nat.reduceMul, Nat.reducePow, Nat.reduceDiv, Nat.reduceMod, Int.reduceAdd, Int.reduceSub, Int.reduceMul, Int.reducePow, Int.reduceNeg, Int.reduceToNat, Int.reduceLT, Int.reduceLE, Nat.reduceEqDiff, sidsB, Nat.reduceBEq, keyKD, isIntK, aggD, aggL, eqKs]
                      refine CallC.of pzs (by rfl) ?_
                      unfold gridE
                      simp (config := { maxSteps := 1000000 }) (disch := ((try simp only [awL]); omega)) only [Option.toList_some, Option.toList_none, nextC_more, nextC_over, bs_size, bs_extract, bs_toList, bs_append, byteAt_bs, bs_cells, nums_length, nums_getD, ↓awU, awV, awF, ofVal, ofVal0, isShift, aggK, forall_const, ↓reduceIte, ↓reduceDIte, ↓purePost, combine, idsA, cellsA, numsOf, srcA, calleeA, refsA, isScalar, scalarD, scalar0, AV.one, putL, unfA, implies_true, IntKind.signed, Nat.reduceAdd, Nat.reduceSub, Nat.reduceMul, Nat.reducePow, Nat.reduceDiv, Nat.reduceMod, Int.reduceAdd, Int.reduceSub, Int.reduceMul, Int.reducePow, Int.reduceNeg, Int.reduceToNat, Int.reduceLT, Int.reduceLE, Nat.reduceEqDiff, sidsB, Nat.reduceBEq, keyKD, isIntK, aggD, aggL, eqKs]
                      first
                      | refine CallC.of (sameG_spec g g false false ok ok) (by rfl) ?_
                      | refine ⟨by rfl, CallC.of (sameG_spec g g false false ok ok) (by rfl) ?_⟩
                      rw [decide_eq_true rfl]
                      simp (config := { maxSteps := 1000000 }) (disch := ((try simp only [awL]); omega)) only [Option.toList_some, Option.toList_none, nextC_more, nextC_over, bs_size, bs_extract, bs_toList, bs_append, byteAt_bs, bs_cells, nums_length, nums_getD, ↓awU, awV, awF, ofVal, ofVal0, isShift, aggK, forall_const, ↓reduceIte, ↓reduceDIte, ↓purePost, combine, idsA, cellsA, numsOf, srcA, calleeA, refsA, isScalar, scalarD, scalar0, AV.one, putL, unfA, implies_true, IntKind.signed, Nat.reduceAdd, Nat.reduceSub, Nat.reduceMul, Nat.reducePow, Nat.reduceDiv, Nat.reduceMod, Int.reduceAdd, Int.reduceSub, Int.reduceMul, Int.reducePow, Int.reduceNeg, Int.reduceToNat, Int.reduceLT, Int.reduceLE, Nat.reduceEqDiff, sidsB, Nat.reduceBEq, keyKD, isIntK, aggD, aggL, eqKs]
                  · obtain ⟨z1, z2⟩ := pz2 fun e => r1 e.1
                    have ti : (((tx.length : Nat) : Int) - 1).toNat = tx.length - 1 := by omega
                    have pzs := parse_spec hT d (tx.take (tx.length - 1)) (by rw [List.length_take]; omega)
                    rw [z2] at pzs
                    simp (config := { maxSteps := 1000000 }) (disch := ((try simp only [awL]); omega)) only [Option.toList_some, Option.toList_none, nextC_more, nextC_over, bs_size, bs_extract, bs_toList, bs_append, byteAt_bs, bs_cells, nums_length, nums_getD, gl, gi, gg, sl, sg, ti, ↓awU, awV, awF, ofVal, ofVal0, isShift, aggK, forall_const, ↓reduceIte, ↓reduceDIte, ↓purePost, combine, idsA, cellsA, numsOf, srcA, calleeA, refsA, isScalar, scalarD, scalar0, AV.one, putL, unfA, implies_true, IntKind.signed, Nat.reduceAdd, Nat.reduceSub, Nat.reduceMul, Nat.reducePow, Nat.reduceDiv, Nat.reduceMod, Int.reduceAdd, Int.reduceSub, Int.reduceMul, Int.reducePow, Int.reduceNeg, Int.reduceToNat, Int.reduceLT, Int.reduceLE, Nat.reduceEqDiff, sidsB, Nat.reduceBEq, keyKD, isIntK, aggD, aggL, eqKs]
                    refine CallC.of pzs (by rfl) ?_
                    unfold gridE
                    simp (config := { maxSteps := 1000000 }) (disch := ((try simp only [awL]); omega)) only [Option.toList_some, Option.toList_none, nextC_more, nextC_over, bs_size, bs_extract, bs_toList, bs_append, byteAt_bs, bs_cells, nums_length, nums_getD, ↓awU, awV, awF, ofVal, ofVal0, isShift, aggK, forall_const, ↓reduceIte, ↓reduceDIte, ↓purePost, combine, idsA, cellsA, numsOf, srcA, calleeA, refsA, isScalar, scalarD, scalar0, AV.one, putL, unfA, implies_true, IntKind.signed, Nat.reduceAdd, Nat.reduceSub, Nat.reduceMul, Nat.reducePow, Nat.reduceDiv, Nat.reduceMod, Int.reduceAdd, Int.reduceSub, Int.reduceMul, Int.reducePow, Int.reduceNeg, Int.reduceToNat, Int.reduceLT, Int.reduceLE, Nat.reduceEqDiff, sidsB, Nat.reduceBEq, keyKD, isIntK, aggD, aggL, eqKs]
                    first
                    | refine CallC.of (sameG_spec g g false false ok ok) (by rfl) ?_
                    | refine ⟨by rfl, CallC.of (sameG_spec g g false false ok ok) (by rfl) ?_⟩
                    rw [decide_eq_true rfl]
                    simp (config := { maxSteps := 1000000 }) (disch := ((try simp only [awL]); omega)) only [Option.toList_some, Option.toList_none, nextC_more, nextC_over, bs_size, bs_extract, bs_toList, bs_append, byteAt_bs, bs_cells, nums_length, nums_getD, ↓awU, awV, awF, ofVal, ofVal0, isShift, aggK, forall_const, ↓reduceIte, ↓reduceDIte, ↓purePost, combine, idsA, cellsA, numsOf, srcA, calleeA, refsA, isScalar, scalarD, scalar0, AV.one, putL, unfA, implies_true, IntKind.signed, Nat.reduceAdd, Nat.reduceSub, Nat.reduceMul, Nat.reducePow, Nat.reduceDiv, Nat.reduceMod, Int.reduceAdd, Int.reduceSub, Int.reduceMul, Int.reducePow, Int.reduceNeg, Int.reduceToNat, Int.reduceLT, Int.reduceLE, Nat.reduceEqDiff, sidsB, Nat.reduceBEq, keyKD, isIntK, aggD, aggL, eqKs]
end Go.Proofs.YtjjanbljkoaojaaDoor
