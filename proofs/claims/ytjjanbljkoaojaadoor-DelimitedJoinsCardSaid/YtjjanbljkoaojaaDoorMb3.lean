/-
  Contracts of the functions, one after another.
-/
import Derived.Test.YtjjanbljkoaojaaDoorMb2
set_option linter.all false
namespace Go.Proofs.YtjjanbljkoaojaaDoor
open Go Go.Proofs Go.Abs
/-! What was written is read back. -/
structure Dok (d : Dia) : Prop where
  del : d.del.toNat ≠ 10 ∧ d.del.toNat ≠ 13 ∧ d.del.toNat < 128
  quo : d.quo.toNat = 0 ∨ d.quo.toNat = 34 ∨ d.quo.toNat = 39
  ne : d.del ≠ d.quo
  trim : d.trim = true → d.del.toNat ≠ 32
theorem okDia_dok {d : Dia} (h : okDia d = true) : Dok d := by
  rw [okDia_nat] at h
  obtain ⟨h1, h2, h3, h4⟩ := of_decide_eq_true h
  exact ⟨by omega, h2, fun e => h3 (by rw [e]), fun ht e => h4 ⟨ht, e⟩⟩
/-- What may stand behind a field. -/
structure Tl (d : Dia) (u : List UInt8) : Prop where
  stop : stopL d u = true
  trim : d.trim = true → u.head? ≠ some 32
  quo : d.quo ≠ 0 → u.head? ≠ some d.quo
theorem Tl_del {d : Dia} (h : Dok d) (x : List UInt8) : Tl d (d.del :: x) :=
  ⟨by simp [stopL], fun ht e => h.trim ht (by simp at e; rw [e]; rfl), fun _ e => h.ne (by simpa using e)⟩
theorem quo_ne {d : Dia} (h : Dok d) {n : Nat} (hn : n = 10 ∨ n = 13 ∨ n = 32) (hq : d.quo ≠ 0) : d.quo.toNat ≠ n := by
  have := h.quo
  have h0 : d.quo.toNat ≠ 0 := fun e => hq (u8_eq.2 e)
  omega
theorem Tl_lf {d : Dia} (h : Dok d) (x : List UInt8) : Tl d (10 :: x) :=
  ⟨by simp [stopL, endL], fun _ e => by simp at e, fun hq e => quo_ne h (.inl rfl) hq (by simp at e; rw [← e]; rfl)⟩
theorem Tl_crlf {d : Dia} (h : Dok d) (x : List UInt8) : Tl d (13 :: 10 :: x) :=
  ⟨by simp [stopL, endL], fun _ e => by simp at e, fun hq e => quo_ne h (.inr (.inl rfl)) hq (by simp at e; rw [← e]; rfl)⟩
theorem fits_parts {d : Dia} {s : List UInt8} (h : fitsL d s = true) : Lib.validD s = true ∧ (∀ c ∈ s, c.toNat ≠ 10 ∧ c.toNat ≠ 13 ∧ c ≠ d.del) ∧ ¬ (d.quo ≠ 0 ∧ s.head? = some d.quo) ∧ ¬ (d.trim = true ∧ padL s) := by
  unfold fitsL hasNl at h
  simp only [Bool.and_eq_true, Bool.not_eq_true', decide_eq_false_iff_not] at h
  obtain ⟨_, h2, h3, h4, h5, h6⟩ := h
  refine ⟨h2, fun c hc => ⟨fun e => h3 (.inl ?_), fun e => h3 (.inr ?_), fun e => h4 (e ▸ hc)⟩, h5, h6⟩
  · rw [← show c = 10 from u8_eq.2 e]; exact hc
  · rw [← show c = 13 from u8_eq.2 e]; exact hc
theorem plainL_fit {d : Dia} {u : List UInt8} (hu : stopL d u = true) : ∀ {s : List UInt8}, (∀ c ∈ s, c.toNat ≠ 10 ∧ c.toNat ≠ 13 ∧ c ≠ d.del) → plainL d (s ++ u) = s
  | [], _ => plainL_end hu
  | c :: r, h => by
    obtain ⟨h1, h2, h3⟩ := h c (by simp)
    have e10 : c ≠ 10 := fun e => h1 (by rw [e]; rfl)
    have e13 : c ≠ 13 := fun e => h2 (by rw [e]; rfl)
    have : stopL d (c :: (r ++ u)) = false := by simp [stopL, endL, e10, e13, h3]
    rw [List.cons_append, plainL, this, if_neg (by decide), plainL_fit hu fun x hx => h x (by simp [hx])]
theorem skipL_head {d : Dia} {l : List UInt8} (h : d.trim = true → l.head? ≠ some 32) : skipL d l = l := by
  unfold skipL
  split
  · rename_i ht
    rw [dropWhile_self]
    intro c hc
    rw [beq_eq_false_iff_ne]
    intro e; rw [e] at hc; exact h ht hc
  · rfl
theorem field_fit {d : Dia} {s u : List UInt8} (h : fitsL d s = true) (hu : Tl d u) : fieldL d (s ++ u) = some (s, u) := by
  obtain ⟨_, h2, h3, h4⟩ := fits_parts h
  have hh : (s ++ u).head? = if s = [] then u.head? else s.head? := by cases s <;> simp
  have sk : skipL d (s ++ u) = s ++ u := skipL_head fun ht e => by
    rw [hh] at e
    split at e
    · exact hu.trim ht e
    · exact h4 ⟨ht, .inl e⟩
  have nq : ¬ (d.quo ≠ 0 ∧ (s ++ u).head? = some d.quo) := by
    rintro ⟨hq, e⟩
    rw [hh] at e
    split at e
    · exact hu.quo hq e
    · exact h3 ⟨hq, e⟩
  have tr : trimR d s = s := by
    rcases Nat.eq_zero_or_pos s.length with h0 | h0
    · exact trimR_over (.inr (.inl h0))
    · cases ht : d.trim with
      | false => exact trimR_over (.inl ht)
      | true => exact trimR_over (.inr (.inr fun e => h4 ⟨ht, (pad_at h0).2 (.inr e)⟩))
  unfold fieldL
  rw [sk, if_neg nq, plainL_fit hu.stop h2, tr, List.drop_left]
theorem quotL_dbl {q : UInt8} {u : List UInt8} (hu : u.head? ≠ some q) : ∀ s : List UInt8, quotL q (dblL q s ++ q :: u) = some (s, u)
  | [] => by
    show quotL q (q :: u) = _
    cases u with
    | nil => simp [quotL]
    | cons c r =>
      have : ¬ c = q := fun e => hu (by rw [e]; rfl)
      simp [quotL, this]
  | c :: r => by
    have ih := quotL_dbl hu r
    have e0 : dblL q (c :: r) = (if c = q then [q, q] else [c]) ++ dblL q r := rfl
    rw [e0]
    by_cases e : c = q
    · subst e
      rw [if_pos rfl]
      show quotL c (c :: c :: (dblL c r ++ c :: u)) = _
      rw [quotL, if_pos rfl, if_pos rfl, ih]; rfl
    · rw [if_neg e]
      show quotL q (c :: (dblL q r ++ q :: u)) = _
      obtain ⟨x, y, hxy⟩ : ∃ x y, dblL q r ++ q :: u = x :: y := by cases h : dblL q r <;> simp
      rw [hxy] at ih ⊢
      rw [quotL, if_neg e, ih]; rfl
theorem field_quo {d : Dia} (hd : Dok d) {s u : List UInt8} (hq : d.quo ≠ 0) (hu : Tl d u) : fieldL d (quoL d s ++ u) = some (s, u) := by
  have sk : skipL d (quoL d s ++ u) = quoL d s ++ u := skipL_head fun _ e => quo_ne hd (.inr (.inr rfl)) hq (by
    have : d.quo = 32 := by simpa [quoL] using e
    rw [this]; rfl)
  unfold fieldL
  rw [sk, if_pos ⟨hq, by simp [quoL]⟩]
  have e1 : (quoL d s ++ u).drop 1 = dblL d.quo s ++ d.quo :: u := by simp [quoL]
  rw [e1, quotL_dbl (hu.quo hq) s]
  simp only [skipL_head hu.trim, if_pos hu.stop]
theorem field_wr {d : Dia} (hd : Dok d) {s u : List UInt8} (h : okW d s = true) (hu : Tl d u) : fieldL d (wrL d s ++ u) = some (s, u) := by
  unfold wrL
  unfold okW at h
  split
  · rename_i hf; exact field_fit hf hu
  · rename_i hf
    rw [Bool.or_eq_true] at h
    exact field_quo hd (of_decide_eq_true (h.resolve_left hf)) hu
theorem jn_false (d : Dia) (s : List UInt8) (r : Row) : jnL d false (s :: r) = d.del :: jnL d true (s :: r) := by simp [jnL]
theorem rec_jn {d : Dia} (hd : Dok d) {u : List UInt8} (hu : Tl d u) (hn : u.head? ≠ some d.del) : ∀ (r : Row) (s : List UInt8), okR d (s :: r) = true → recL d (jnL d true (s :: r) ++ u) = some (s :: r, u.drop (endL u))
  | [], s, h => by
    have h1 : okW d s = true := by simpa [okR] using h
    have e : jnL d true [s] ++ u = wrL d s ++ u := by simp [jnL]
    rw [e, recL_eq, field_wr hd h1 hu]
    simp only [if_neg hn]
  | s2 :: r, s, h => by
    have h1 : okW d s = true := by simp [okR] at h; exact h.1
    have h2 : okR d (s2 :: r) = true := by simp [okR] at h ⊢; exact h.2
    have e : jnL d true (s :: s2 :: r) ++ u = wrL d s ++ d.del :: (jnL d true (s2 :: r) ++ u) := by
      rw [show jnL d true (s :: s2 :: r) = wrL d s ++ jnL d false (s2 :: r) from by simp [jnL], jn_false]; simp
    rw [e, recL_eq, field_wr hd h1 (Tl_del hd _)]
    simp only [List.head?_cons, if_true, List.drop_succ_cons, List.drop_zero, rec_jn hd hu hn r s2 h2, Option.map_some]
/-- A text with some line end. -/
def textN (d : Dia) (nl : List UInt8) (g : List Row) : List UInt8 := g.flatMap fun r => jnL d true r ++ nl
theorem textN_lf (d : Dia) : ∀ g : List Row, textN d [10] g = textL d g
  | [] => rfl
  | r :: g => by rw [textL, ← textN_lf d g]; rfl
def okG (d : Dia) (g : List Row) : Prop := ∀ r ∈ g, r ≠ [] ∧ okR d r = true
theorem rows_text {d : Dia} (hd : Dok d) {nl : List UInt8} (hnl : nl = [10] ∨ nl = [13, 10]) (w : List UInt8) : ∀ g : List Row, okG d g → rowsL d (textN d nl g ++ w) = (rowsL d w).map fun x => g ++ x
  | [], _ => by simp [textN]
  | r :: g, h => by
    obtain ⟨h1, h2⟩ := h r (by simp)
    have ih := rows_text hd hnl w g fun x hx => h x (by simp [hx])
    have e : textN d nl (r :: g) ++ w = jnL d true r ++ (nl ++ (textN d nl g ++ w)) := by simp [textN]
    rw [e]
    match r, h1 with
    | s :: r, _ =>
      have hu : Tl d (nl ++ (textN d nl g ++ w)) ∧ (nl ++ (textN d nl g ++ w)).head? ≠ some d.del ∧ (nl ++ (textN d nl g ++ w)).drop (endL (nl ++ (textN d nl g ++ w))) = textN d nl g ++ w ∧ nl ++ (textN d nl g ++ w) ≠ [] := by
        have hdl := hd.del
        rcases hnl with rfl | rfl
        · exact ⟨Tl_lf hd _, fun e => hdl.1 (by simp at e; rw [← e]; rfl), by simp [endL], by simp⟩
        · exact ⟨Tl_crlf hd _, fun e => hdl.2.1 (by simp at e; rw [← e]; rfl), by simp [endL], by simp⟩
      obtain ⟨u1, u2, u3, u4⟩ := hu
      rw [rowsL_eq d (by simp at u4 ⊢; intro _; exact u4), rec_jn hd u1 u2 r s h2]
      simp only [u3, ih, Option.map_map]
      rfl
/-! Texts that are written are valid. -/
theorem valid_wr {d : Dia} (hd : Dok d) {s : List UInt8} (h : Lib.validD s = true) : Lib.validD (wrL d s) = true := by
  unfold wrL
  split
  · exact h
  · have hq : d.quo.toNat < 128 := by have := hd.quo; omega
    unfold quoL
    show Lib.validD (d.quo :: (dblL d.quo s ++ [d.quo])) = true
    rw [Lib.validD_cons _ _ hq]
    exact valid_app (valid_dbl hq _ s rfl h) (by rw [Lib.validD_cons _ _ hq]; rfl)
theorem valid_jn {d : Dia} (hd : Dok d) : ∀ (b : Bool) (r : Row), (∀ s ∈ r, Lib.validD s = true) → Lib.validD (jnL d b r) = true
  | _, [], _ => rfl
  | b, s :: r, h => by
    have h1 := valid_wr hd (h s (by simp))
    have h2 := valid_jn hd false r fun x hx => h x (by simp [hx])
    rw [jnL]
    refine valid_app (valid_app ?_ h1) h2
    cases b
    · simp only [Bool.false_eq_true, if_false]
      rw [Lib.validD_cons _ _ hd.del.2.2]; rfl
    · rfl
theorem valid_text {d : Dia} (hd : Dok d) {nl : List UInt8} (hnl : nl = [10] ∨ nl = [13, 10]) : ∀ g : List Row, (∀ r ∈ g, ∀ s ∈ r, Lib.validD s = true) → Lib.validD (textN d nl g) = true
  | [], _ => rfl
  | r :: g, h => by
    have e : textN d nl (r :: g) = jnL d true r ++ nl ++ textN d nl g := by simp [textN]
    rw [e]
    refine valid_app (valid_app (valid_jn hd true r (h r (by simp))) ?_) (valid_text hd hnl g fun x hx => h x (by simp [hx]))
    rcases hnl with rfl | rfl <;> rfl
end Go.Proofs.YtjjanbljkoaojaaDoor

namespace Go.Proofs.YtjjanbljkoaojaaDoor
open Go Go.Proofs Go.Abs
/-! What the dice make is valid and short. -/
theorem valid_ascii : ∀ s : List UInt8, (∀ c ∈ s, c.toNat < 128) → Lib.validD s = true
  | [], _ => rfl
  | c :: r, h => by rw [Lib.validD_cons _ _ (h c (by simp))]; exact valid_ascii r fun x hx => h x (by simp [hx])
def asciiL (s : List UInt8) : Prop := ∀ c ∈ s, c.toNat < 128
theorem ascii_app {a b : List UInt8} (ha : asciiL a) (hb : asciiL b) : asciiL (a ++ b) := fun c hc => by
  rcases List.mem_append.1 hc with h | h
  · exact ha c h
  · exact hb c h
theorem get_all {P : List UInt8 → Prop} {l : List (List UInt8)} (h0 : P []) (h : ∀ s ∈ l, P s) (i : Nat) : P (l.getD i []) := by
  rcases Nat.lt_or_ge i l.length with h1 | h1
  · exact h _ (memD h1)
  · rw [List.getD_eq_getElem?_getD, List.getElem?_eq_none h1]; exact h0
theorem ascii_nil : asciiL [] := fun c h => by cases h
theorem ascii_cons {c : UInt8} {r : List UInt8} (hc : c.toNat < 128) (hr : asciiL r) : asciiL (c :: r) := fun x hx => by
  rcases List.mem_cons.1 hx with rfl | h
  · exact hc
  · exact hr x h
theorem ascii_itoa {n : Nat} (h : n < 100) : asciiL (itoaL n) := by
  unfold itoaL
  split
  · intro c hc; rw [List.mem_singleton.1 hc]; simp; omega
  · intro c hc
    rcases List.mem_cons.1 hc with rfl | hc
    · simp; omega
    · rw [List.mem_singleton.1 hc]; simp; omega
theorem ascii_num (t : List Int) (k : Nat) : asciiL (numM t k) := by
  have h1 : asciiL (num1 t k) := by
    obtain ⟨b, hb, hb2⟩ := pk_nat t (k + 1) 40 (by decide)
    unfold num1
    rw [hb]
    exact ascii_app (get_all ascii_nil (by unfold asciiL; decide) _) (ascii_itoa (by simp; omega))
  have h2 : asciiL (num2 t k) := by
    unfold num2
    split
    · split
      · exact h1
      · exact ascii_cons (by decide) h1
    · exact h1
  unfold numM
  split
  · exact ascii_app h2 (ascii_cons (by decide) (get_all ascii_nil (by unfold asciiL; decide) _))
  · exact h2
theorem ascii_date (t : List Int) (k : Nat) : asciiL (dateM t k) ∧ (dateM t k).length ≤ 10 := by
  have a1 : asciiL (yearsL.getD (pk t k 6).toNat []) := get_all ascii_nil (by unfold asciiL; decide) _
  have a2 : asciiL (monthsL.getD (pk t (k + 1) 5).toNat []) := get_all ascii_nil (by unfold asciiL; decide) _
  have a3 : asciiL (daysL.getD (pk t (k + 2) 5).toNat []) := get_all ascii_nil (by unfold asciiL; decide) _
  have l1 := get_len (l := yearsL) (m := 4) (by decide) (pk t k 6).toNat
  have l2 := get_len (l := monthsL) (m := 2) (by decide) (pk t (k + 1) 5).toNat
  have l3 := get_len (l := daysL) (m := 2) (by decide) (pk t (k + 2) 5).toNat
  have one : ∀ n : UInt8, n.toNat < 128 → asciiL [n] := fun n h => ascii_cons h ascii_nil
  unfold dateM
  simp only
  split
  · exact ⟨ascii_app (ascii_app (ascii_app (ascii_app a1 (one _ (by decide))) a2) (one _ (by decide))) a3, by simp only [List.length_append, List.length_cons, List.length_nil]; omega⟩
  · split
    · exact ⟨ascii_app (ascii_app (ascii_app (ascii_app a1 (one _ (by decide))) a2) (one _ (by decide))) a3, by simp only [List.length_append, List.length_cons, List.length_nil]; omega⟩
    · exact ⟨ascii_app (ascii_app (ascii_app (ascii_app a3 (one _ (by decide))) a2) (one _ (by decide))) a1, by simp only [List.length_append, List.length_cons, List.length_nil]; omega⟩
def okT (s : List UInt8) : Prop := Lib.validD s = true ∧ s.length ≤ 30
instance (s : List UInt8) : Decidable (okT s) := by unfold okT; exact inferInstance
theorem okT_nil : okT [] := by decide
set_option maxRecDepth 100000 in
theorem okT_words : ∀ s ∈ wordsL, okT s := by decide
set_option maxRecDepth 100000 in
theorem okT_bools : ∀ s ∈ boolsL, okT s := by decide
set_option maxRecDepth 100000 in
theorem okT_nulls : ∀ s ∈ nullsL, okT s := by decide
set_option maxRecDepth 100000 in
theorem okT_odds : ∀ s ∈ oddsL, okT s := by decide
theorem fieldM_ok (t : List Int) (k c : Nat) : okT (fieldM t k c) := by
  unfold fieldM
  repeat' split
  · exact get_all okT_nil okT_words _
  · exact ⟨valid_ascii _ (ascii_num t k), by have := (numM_len t k).2; omega⟩
  · exact ⟨valid_ascii _ (ascii_date t k).1, by have := (ascii_date t k).2; omega⟩
  · exact get_all okT_nil okT_bools _
  · have := (numM_len t k).2
    have l2 := get_len (l := unitsL) (m := 4) (by decide) (pk t (numK t k) 7).toNat
    exact ⟨valid_ascii _ (ascii_app (ascii_num t k) (get_all ascii_nil (by unfold asciiL; decide) _)), by rw [List.length_append]; omega⟩
  · exact get_all okT_nil okT_nulls _
  · exact get_all okT_nil okT_odds _
theorem oddRow_ok (t : List Int) : ∀ (n k : Nat), (oddRow t n k).1.length = n ∧ ∀ s ∈ (oddRow t n k).1, okT s
  | 0, _ => ⟨rfl, fun s h => by cases h⟩
  | n + 1, k => by
    obtain ⟨h1, h2⟩ := oddRow_ok t n (fieldK t (k + 1) (pk t k 9).toNat)
    refine ⟨by simp only [oddRow, List.length_cons, h1], fun s hs => ?_⟩
    rcases List.mem_cons.1 hs with rfl | hs
    · exact fieldM_ok _ _ _
    · exact h2 s hs
/-- A grid of the dice. -/
structure OddG (g : List Row) (m n : Nat) : Prop where
  len : g.length ≤ m
  row : ∀ r ∈ g, r ≠ [] ∧ r.length ≤ n
  txt : ∀ r ∈ g, ∀ s ∈ r, okT s
theorem oddRows_ok (t : List Int) (cols : Nat) (hc : 0 < cols) : ∀ (m k : Nat), OddG (oddRows t cols m k).1 m cols
  | 0, _ => ⟨Nat.le_refl _, fun r h => (by cases h), fun r h => (by cases h)⟩
  | m + 1, k => by
    have ih := oddRows_ok t cols hc m (oddRow t (1 + (pk t k cols).toNat) (k + 1)).2
    obtain ⟨h1, h2⟩ := oddRow_ok t (1 + (pk t k cols).toNat) (k + 1)
    have hp := @pk_range t k cols (by omega)
    refine ⟨by simp only [oddRows, List.length_cons]; have := ih.len; omega, fun r hr => ?_, fun r hr => ?_⟩
    · rcases List.mem_cons.1 hr with rfl | hr
      · refine ⟨fun e => ?_, by rw [h1]; omega⟩
        rw [e] at h1; simp at h1; omega
      · exact ih.row r hr
    · rcases List.mem_cons.1 hr with rfl | hr
      · exact h2
      · exact ih.txt r hr
theorem oddG_ok (t : List Int) (k rows cols : Nat) (hc : 0 < cols) : OddG (oddG t k rows cols) rows cols := by
  have h := oddRows_ok t cols hc (pk t k (rows + 1 : Nat)).toNat (k + 1)
  have hp := @pk_range t k (rows + 1 : Nat) (by omega)
  exact ⟨by have := h.len; unfold oddG; omega, h.row, h.txt⟩
theorem OddG.grid {g : List Row} {m n : Nat} (h : OddG g m n) (hm : m ≤ 1000) (hn : n ≤ 1000) : okGrid g :=
  ⟨by have := h.len; omega, fun r hr => ⟨by have := (h.row r hr).2; omega, fun s hs => by have := (h.txt r hr s hs).2; omega⟩⟩
theorem OddG.big {g : List Row} {m n : Nat} (h : OddG g m n) (hm : m ≤ 1000) (hn : n ≤ 64) : bigG g = false := by
  unfold bigG
  rw [Bool.or_eq_false_iff]
  refine ⟨decide_eq_false (by have := h.len; omega), List.any_eq_false.2 fun r hr => ?_⟩
  have : bigR r = false := by
    unfold bigR
    rw [Bool.or_eq_false_iff]
    refine ⟨decide_eq_false (by have := (h.row r hr).2; omega), List.any_eq_false.2 fun s hs => ?_⟩
    unfold bigF
    have := (h.txt r hr s hs).2
    simp; omega
  rw [this]; decide
theorem OddG.bad {g : List Row} {m n : Nat} (h : OddG g m n) : g.any badR = false := by
  rw [List.any_eq_false]
  intro r hr
  have : badR r = false := by
    unfold badR
    rw [Bool.or_eq_false_iff]
    refine ⟨decide_eq_false fun e => (h.row r hr).1 (List.eq_nil_of_length_eq_zero e), List.any_eq_false.2 fun s hs => ?_⟩
    unfold badF
    rw [(h.txt r hr s hs).1]; decide
  rw [this]; decide
theorem jn_len2 (d : Dia) : ∀ (r : Row) (b : Bool), (∀ s ∈ r, okT s) → (jnL d b r).length ≤ 63 * r.length
  | [], _, _ => by simp [jnL]
  | s :: r, b, h => by
    have h1 := wrL_len d s
    have h2 := (h s (by simp)).2
    have h3 := jn_len2 d r false fun x hx => h x (by simp [hx])
    simp only [jnL, List.length_append, List.length_cons]
    split <;> simp <;> omega
theorem textN_len (d : Dia) {nl : List UInt8} (hnl : nl.length ≤ 2) {n : Nat} : ∀ (g : List Row), (∀ r ∈ g, r ≠ [] ∧ r.length ≤ n) → (∀ r ∈ g, ∀ s ∈ r, okT s) → (textN d nl g).length ≤ (63 * n + 2) * g.length
  | [], _, _ => by simp [textN]
  | r :: g, h, h2 => by
    have h3 := jn_len2 d r true (h2 r (by simp))
    have h4 := textN_len d hnl g (fun x hx => h x (by simp [hx])) fun x hx => h2 x (by simp [hx])
    have h5 := (h r (by simp)).2
    have e : textN d nl (r :: g) = jnL d true r ++ nl ++ textN d nl g := by simp [textN]
    have h6 : 63 * r.length ≤ 63 * n := Nat.mul_le_mul_left _ h5
    rw [e, List.length_append, List.length_append, List.length_cons, Nat.mul_succ]
    omega
end Go.Proofs.YtjjanbljkoaojaaDoor

namespace Go.Proofs.YtjjanbljkoaojaaDoor
open Go Go.Proofs Go.Abs
variable {G : Globals}
/-! The sanity check; what is read and written of the dice's grids. -/
def OkS (t : List Int) : Prop := ∀ i, 0 ≤ t.getD i 0 ∧ t.getD i 0 ≤ 255
theorem OkS.take {t : List Int} (h : OkS t) : OkM (t.take 300) := by
  refine ⟨by rw [List.length_take]; omega, fun i => ?_⟩
  rcases Nat.lt_or_ge i 300 with h1 | h1
  · have := h i
    rw [List.getD_eq_getElem?_getD, List.getElem?_take, if_pos h1, ← List.getD_eq_getElem?_getD]
    exact this
  · rw [List.getD_eq_getElem?_getD, List.getElem?_take, if_neg (by omega)]; decide
def saneT : List UInt8 := [97, 44, 34, 98, 44, 34, 34, 99, 34, 34, 34, 44]
def saneG : List Row := [[[97], [98, 44, 34, 99, 34], []]]
set_option maxRecDepth 100000 in
theorem sane_parse : parseL ⟨44, 34, false⟩ saneT = (saneG, 0) := by decide +kernel
set_option maxHeartbeats 4000000 in
set_option maxRecDepth 100000 in
theorem sane_spec (hT : HT G) : Ctr Tryd.prog G 6 [] [] (.d (.bool true)) [] := by
  refine Ctr.pure (M := M0) hmix Tryd.func6 rfl go6 ?_
  simp (config := { maxSteps := 1000000 }) (disch := ((try simp only [awL]); omega)) only [Option.toList_some, Option.toList_none, nextC_more, nextC_over, bs_size, bs_extract, bs_toList, bs_append, byteAt_bs, bs_cells, nums_length, nums_getD, Tryd.f6, ↓awU, awV, awF, ofVal, ofVal0, isShift, aggK, forall_const, ↓reduceIte, ↓reduceDIte, ↓purePost, combine, idsA, cellsA, numsOf, srcA, calleeA, refsA, isScalar, scalarD, scalar0, AV.one, putL, unfA, implies_true, IntKind.signed, Nat.reduceAdd, Nat.reduceSub, Nat.reduceMul, Nat.reducePow, Nat.reduceDiv, Nat.reduceMod, Int.reduceAdd, Int.reduceSub, Int.reduceMul, Int.reducePow, Int.reduceNeg, Int.reduceToNat, Int.reduceLT, Int.reduceLE, Nat.reduceEqDiff, sidsB, Nat.reduceBEq, keyKD, isIntK, aggD, aggL, eqKs]
  have ps := parse_spec hT ⟨44, 34, false⟩ saneT (by decide)
  rw [sane_parse] at ps
  refine CallC.of ps (by rfl) ?_
  obtain ⟨g, hg⟩ : ∃ g, g = saneG := ⟨_, rfl⟩
  obtain ⟨row, hrow⟩ : ∃ row : Row, row = [[97], [98, 44, 34, 99, 34], []] := ⟨_, rfl⟩
  have gl : (rowsD g).length = 1 := by rw [hg]; rfl
  have gl2 : g.length = 1 := by rw [hg]; rfl
  have gg : (rowsD g).getD 0 .nilp = Ss row false := by rw [hg, hrow]; rfl
  have sl : (strs row).length = 3 := by rw [hrow]; rfl
  have sl2 : row.length = 3 := by rw [hrow]; rfl
  have s1 : (strs row).getD 1 .nilp = S [98, 44, 34, 99, 34] := by rw [hrow]; rfl
  have s2 : (strs row).getD 2 .nilp = S [] := by rw [hrow]; rfl
  rw [← hg]
  unfold gridE
  simp (config := { maxSteps := 1000000 }) (disch := ((try simp only [awL]); omega)) only [Option.toList_some, Option.toList_none, nextC_more, nextC_over, bs_size, bs_extract, bs_toList, bs_append, byteAt_bs, bs_cells, nums_length, nums_getD, gl, gl2, gg, sl, sl2, s1, s2, ↓awU, awV, awF, ofVal, ofVal0, isShift, aggK, forall_const, ↓reduceIte, ↓reduceDIte, ↓purePost, combine, idsA, cellsA, numsOf, srcA, calleeA, refsA, isScalar, scalarD, scalar0, AV.one, putL, unfA, implies_true, IntKind.signed, Nat.reduceAdd, Nat.reduceSub, Nat.reduceMul, Nat.reducePow, Nat.reduceDiv, Nat.reduceMod, Int.reduceAdd, Int.reduceSub, Int.reduceMul, Int.reducePow, Int.reduceNeg, Int.reduceToNat, Int.reduceLT, Int.reduceLE, Nat.reduceEqDiff, sidsB, Nat.reduceBEq, keyKD, isIntK, aggD, aggL, eqKs]
  try rfl
theorem parse_of {d : Dia} {l : List UInt8} {g : List Row} (h1 : okDia d = true) (h2 : l.length ≤ 1048576) (h3 : Lib.validD l = true) (h4 : rowsL d l = some g) (h5 : bigG g = false) : parseL d l = (g, 0) := by
  unfold parseL
  rw [if_neg (by rw [h1]; decide), if_neg (by omega), if_neg (by rw [h3]; decide), h4]
  simp only [h5, Bool.false_eq_true, if_false]
theorem form_of {d : Dia} {g : List Row} {m n : Nat} (h1 : okDia d = true) (h : OddG g m n) (hm : m ≤ 100) (hn : n ≤ 64) : formL d g = if g.all (okR d) = false then ([], 4) else (textL d g, 0) := by
  have hl := textN_len d (nl := [10]) (by simp) g h.row h.txt
  rw [textN_lf] at hl
  have : (textL d g).length ≤ 1048576 := by
    have h2 := h.len
    have : (63 * n + 2) * g.length ≤ 4034 * 100 := Nat.mul_le_mul (by omega) (by omega)
    omega
  unfold formL
  rw [if_neg (by rw [h.bad, h1]; decide), if_neg (by rw [h.big (by omega) hn]; decide)]
  split
  · rfl
  · rw [if_neg (by omega)]
theorem okG_of {d : Dia} {g : List Row} {m n : Nat} (h : OddG g m n) (ha : g.all (okR d) = true) : okG d g := fun r hr => ⟨(h.row r hr).1, List.all_eq_true.1 ha r hr⟩
/-- What cannot be written needs a quote. -/
theorem no_quote {d : Dia} {g : List Row} (h : g.all (okR d) = false) : d.quo.toNat = 0 := by
  have : ¬ ∀ r ∈ g, okR d r = true := fun e => by rw [List.all_eq_true.2 e] at h; cases h
  by_cases q : d.quo = 0
  · rw [q]; rfl
  · refine absurd (fun r _ => ?_) this
    unfold okR
    rw [List.all_eq_true]
    intro s _
    unfold okW
    rw [decide_eq_true q, Bool.or_true]
theorem textL_app (d : Dia) (a b : List Row) : textL d (a ++ b) = textL d a ++ textL d b := by
  rw [← textN_lf, ← textN_lf, ← textN_lf]; simp [textN]
theorem OddG.app {a b : List Row} {m n p q : Nat} (h : OddG a m n) (h2 : OddG b p q) : OddG (a ++ b) (m + p) (max n q) :=
  ⟨by rw [List.length_append]; have := h.len; have := h2.len; omega, fun r hr => by
    rcases List.mem_append.1 hr with h3 | h3
    · have := h.row r h3; exact ⟨this.1, by omega⟩
    · have := h2.row r h3; exact ⟨this.1, by omega⟩, fun r hr => by
    rcases List.mem_append.1 hr with h3 | h3
    · exact h.txt r h3
    · exact h2.txt r h3⟩
theorem parse_text {d : Dia} {g : List Row} {m n : Nat} (h1 : okDia d = true) (h : OddG g m n) (hm : m ≤ 100) (hn : n ≤ 64) (ha : g.all (okR d) = true) : parseL d (textL d g) = (g, 0) := by
  have hl := textN_len d (nl := [10]) (by simp) g h.row h.txt
  have hd := okDia_dok h1
  have ht := rows_text hd (.inl rfl) [] g (okG_of h ha)
  rw [List.append_nil, textN_lf, rowsL_nil] at ht
  rw [textN_lf] at hl
  have h2 : (textL d g).length ≤ 1048576 := by
    have h2 := h.len
    have : (63 * n + 2) * g.length ≤ 4034 * 100 := Nat.mul_le_mul (by omega) (by omega)
    omega
  refine parse_of h1 h2 ?_ (by rw [ht]; simp) (h.big (by omega) hn)
  rw [← textN_lf]
  exact valid_text hd (.inl rfl) g fun r hr s hs => (h.txt r hr s hs).1
end Go.Proofs.YtjjanbljkoaojaaDoor

namespace Go.Proofs.YtjjanbljkoaojaaDoor
open Go Go.Proofs Go.Abs
variable {G : Globals}
/-! Files that are put one behind the other. -/
theorem rowsD_app {a b : List Row} : rowsD a ++ rowsD b = rowsD (a ++ b) := by simp [rowsD]
set_option maxHeartbeats 8000000 in
set_option maxRecDepth 100000 in
theorem joins_law (hT : HT G) (hM : HM G) (t : List Int) (ht : OkS t) (hl : t.length ≤ 9223372036854775807) :
    Ctr Tryd.prog G 5 [.d (.sl t.length false (ints .u8 t))] [] (.d (.bool true)) [] := by
  refine Ctr.pure (M := M0) hmix Tryd.func5 rfl go5 ?_
  have hmm := ht.take
  simp (config := { maxSteps := 1000000 }) (disch := ((try simp only [awL]); omega)) only [Option.toList_some, Option.toList_none, nextC_more, nextC_over, bs_size, bs_extract, bs_toList, bs_append, byteAt_bs, bs_cells, nums_length, nums_getD, Tryd.f5, ↓awU, awV, awF, ofVal, ofVal0, isShift, aggK, forall_const, ↓reduceIte, ↓reduceDIte, ↓purePost, combine, idsA, cellsA, numsOf, srcA, calleeA, refsA, isScalar, scalarD, scalar0, AV.one, putL, unfA, implies_true, IntKind.signed, Nat.reduceAdd, Nat.reduceSub, Nat.reduceMul, Nat.reducePow, Nat.reduceDiv, Nat.reduceMod, Int.reduceAdd, Int.reduceSub, Int.reduceMul, Int.reducePow, Int.reduceNeg, Int.reduceToNat, Int.reduceLT, Int.reduceLE, Nat.reduceEqDiff, sidsB, Nat.reduceBEq, keyKD, isIntK, aggD, aggL, eqKs]
  refine CallC.pure (sane_spec hT) ?_
  simp (config := { maxSteps := 1000000 }) (disch := ((try simp only [awL]); omega)) only [Option.toList_some, Option.toList_none, nextC_more, nextC_over, bs_size, bs_extract, bs_toList, bs_append, byteAt_bs, bs_cells, nums_length, nums_getD, ↓awU, awV, awF, ofVal, ofVal0, isShift, aggK, forall_const, ↓reduceIte, ↓reduceDIte, ↓purePost, combine, idsA, cellsA, numsOf, srcA, calleeA, refsA, isScalar, scalarD, scalar0, AV.one, putL, unfA, implies_true, IntKind.signed, Nat.reduceAdd, Nat.reduceSub, Nat.reduceMul, Nat.reducePow, Nat.reduceDiv, Nat.reduceMod, Int.reduceAdd, Int.reduceSub, Int.reduceMul, Int.reducePow, Int.reduceNeg, Int.reduceToNat, Int.reduceLT, Int.reduceLE, Nat.reduceEqDiff, sidsB, Nat.reduceBEq, keyKD, isIntK, aggD, aggL, eqKs]
  refine CallC.by (new_spec t hl) (by rfl) (by rfl) (Nat.zero_le _) ?_
  generalize t.take 300 = s at *
  simp (config := { maxSteps := 1000000 }) (disch := ((try simp only [awL]); omega)) only [Option.toList_some, Option.toList_none, nextC_more, nextC_over, bs_size, bs_extract, bs_toList, bs_append, byteAt_bs, bs_cells, nums_length, nums_getD, ↓awU, awV, awF, ofVal, ofVal0, isShift, aggK, forall_const, ↓reduceIte, ↓reduceDIte, ↓purePost, combine, idsA, cellsA, numsOf, srcA, calleeA, refsA, isScalar, scalarD, scalar0, AV.one, putL, unfA, implies_true, IntKind.signed, Nat.reduceAdd, Nat.reduceSub, Nat.reduceMul, Nat.reducePow, Nat.reduceDiv, Nat.reduceMod, Int.reduceAdd, Int.reduceSub, Int.reduceMul, Int.reducePow, Int.reduceNeg, Int.reduceToNat, Int.reduceLT, Int.reduceLE, Nat.reduceEqDiff, sidsB, Nat.reduceBEq, keyKD, isIntK, aggD, aggL, eqKs]
  refine CallC.by (dialect_spec s 0 hmm) (by rfl) (by rfl) (Nat.le_refl _) ?_
  generalize diaM s 0 = d at *
  generalize diaK s 0 = k at *
  simp (config := { maxSteps := 1000000 }) (disch := ((try simp only [awL]); omega)) only [Option.toList_some, Option.toList_none, nextC_more, nextC_over, bs_size, bs_extract, bs_toList, bs_append, byteAt_bs, bs_cells, nums_length, nums_getD, ↓awU, awV, awF, ofVal, ofVal0, isShift, aggK, forall_const, ↓reduceIte, ↓reduceDIte, ↓purePost, combine, idsA, cellsA, numsOf, srcA, calleeA, refsA, isScalar, scalarD, scalar0, AV.one, putL, unfA, implies_true, IntKind.signed, Nat.reduceAdd, Nat.reduceSub, Nat.reduceMul, Nat.reducePow, Nat.reduceDiv, Nat.reduceMod, Int.reduceAdd, Int.reduceSub, Int.reduceMul, Int.reducePow, Int.reduceNeg, Int.reduceToNat, Int.reduceLT, Int.reduceLE, Nat.reduceEqDiff, sidsB, Nat.reduceBEq, keyKD, isIntK, aggD, aggL, eqKs]
  refine CallC.of (dvalid_spec d) (by rfl) ?_
  cases h1 : okDia d
  · simp (config := { maxSteps := 1000000 }) (disch := ((try simp only [awL]); omega)) only [Option.toList_some, Option.toList_none, nextC_more, nextC_over, bs_size, bs_extract, bs_toList, bs_append, byteAt_bs, bs_cells, nums_length, nums_getD, ↓awU, awV, awF, ofVal, ofVal0, isShift, aggK, forall_const, ↓reduceIte, ↓reduceDIte, ↓purePost, combine, idsA, cellsA, numsOf, srcA, calleeA, refsA, isScalar, scalarD, scalar0, AV.one, putL, unfA, implies_true, IntKind.signed, Nat.reduceAdd, Nat.reduceSub, Nat.reduceMul, Nat.reducePow, Nat.reduceDiv, Nat.reduceMod, Int.reduceAdd, Int.reduceSub, Int.reduceMul, Int.reducePow, Int.reduceNeg, Int.reduceToNat, Int.reduceLT, Int.reduceLE, Nat.reduceEqDiff, sidsB, Nat.reduceBEq, keyKD, isIntK, aggD, aggL, eqKs]
  · simp (config := { maxSteps := 1000000 }) (disch := ((try simp only [awL]); omega)) only [Option.toList_some, Option.toList_none, nextC_more, nextC_over, bs_size, bs_extract, bs_toList, bs_append, byteAt_bs, bs_cells, nums_length, nums_getD, ↓awU, awV, awF, ofVal, ofVal0, isShift, aggK, forall_const, ↓reduceIte, ↓reduceDIte, ↓purePost, combine, idsA, cellsA, numsOf, srcA, calleeA, refsA, isScalar, scalarD, scalar0, AV.one, putL, unfA, implies_true, IntKind.signed, Nat.reduceAdd, Nat.reduceSub, Nat.reduceMul, Nat.reducePow, Nat.reduceDiv, Nat.reduceMod, Int.reduceAdd, Int.reduceSub, Int.reduceMul, Int.reducePow, Int.reduceNeg, Int.reduceToNat, Int.reduceLT, Int.reduceLE, Nat.reduceEqDiff, sidsB, Nat.reduceBEq, keyKD, isIntK, aggD, aggL, eqKs]
    refine CallC.by (odd_spec s k 4 3 hmm (by decide) (by decide) (by decide)) (by rfl) (by rfl) (Nat.le_refl _) ?_
    have oa := oddG_ok s k 4 3 (by decide)
    generalize oddG s k 4 3 = a at *
    generalize oddK s k 4 3 = k2 at *
    simp (config := { maxSteps := 1000000 }) (disch := ((try simp only [awL]); omega)) only [Option.toList_some, Option.toList_none, nextC_more, nextC_over, bs_size, bs_extract, bs_toList, bs_append, byteAt_bs, bs_cells, nums_length, nums_getD, ↓awU, awV, awF, ofVal, ofVal0, isShift, aggK, forall_const, ↓reduceIte, ↓reduceDIte, ↓purePost, combine, idsA, cellsA, numsOf, srcA, calleeA, refsA, isScalar, scalarD, scalar0, AV.one, putL, unfA, implies_true, IntKind.signed, Nat.reduceAdd, Nat.reduceSub, Nat.reduceMul, Nat.reducePow, Nat.reduceDiv, Nat.reduceMod, Int.reduceAdd, Int.reduceSub, Int.reduceMul, Int.reducePow, Int.reduceNeg, Int.reduceToNat, Int.reduceLT, Int.reduceLE, Nat.reduceEqDiff, sidsB, Nat.reduceBEq, keyKD, isIntK, aggD, aggL, eqKs]
    refine CallC.by (odd_spec s k2 4 3 hmm (by decide) (by decide) (by decide)) (by rfl) (by rfl) (Nat.le_refl _) ?_
    have ob := oddG_ok s k2 4 3 (by decide)
    generalize oddG s k2 4 3 = b at *
    generalize oddK s k2 4 3 = k3 at *
    simp (config := { maxSteps := 1000000 }) (disch := ((try simp only [awL]); omega)) only [Option.toList_some, Option.toList_none, nextC_more, nextC_over, bs_size, bs_extract, bs_toList, bs_append, byteAt_bs, bs_cells, nums_length, nums_getD, ↓awU, awV, awF, ofVal, ofVal0, isShift, aggK, forall_const, ↓reduceIte, ↓reduceDIte, ↓purePost, combine, idsA, cellsA, numsOf, srcA, calleeA, refsA, isScalar, scalarD, scalar0, AV.one, putL, unfA, implies_true, IntKind.signed, Nat.reduceAdd, Nat.reduceSub, Nat.reduceMul, Nat.reducePow, Nat.reduceDiv, Nat.reduceMod, Int.reduceAdd, Int.reduceSub, Int.reduceMul, Int.reducePow, Int.reduceNeg, Int.reduceToNat, Int.reduceLT, Int.reduceLE, Nat.reduceEqDiff, sidsB, Nat.reduceBEq, keyKD, isIntK, aggD, aggL, eqKs]
    have fa := format_spec hT hM d a false (oa.grid (by decide) (by decide))
    have fb := format_spec hT hM d b false (ob.grid (by decide) (by decide))
    rw [form_of h1 oa (by decide) (by decide)] at fa
    rw [form_of h1 ob (by decide) (by decide)] at fb
    cases ha : a.all (okR d)
    · have hq := no_quote ha
      rw [ha, if_pos rfl] at fa
      refine CallC.of fa (by rfl) ?_
      unfold textE
      simp (config := { maxSteps := 1000000 }) (disch := ((try simp only [awL]); omega)) only [Option.toList_some, Option.toList_none, nextC_more, nextC_over, bs_size, bs_extract, bs_toList, bs_append, byteAt_bs, bs_cells, nums_length, nums_getD, ↓awU, awV, awF, ofVal, ofVal0, isShift, aggK, forall_const, ↓reduceIte, ↓reduceDIte, ↓purePost, combine, idsA, cellsA, numsOf, srcA, calleeA, refsA, isScalar, scalarD, scalar0, AV.one, putL, unfA, implies_true, IntKind.signed, Nat.reduceAdd, Nat.reduceSub, Nat.reduceMul, Nat.reducePow, Nat.reduceDiv, Nat.reduceMod, Int.reduceAdd, Int.reduceSub, Int.reduceMul, Int.reducePow, Int.reduceNeg, Int.reduceToNat, Int.reduceLT, Int.reduceLE, Nat.reduceEqDiff, sidsB, Nat.reduceBEq, keyKD, isIntK, aggD, aggL, eqKs]
      refine CallC.of fb (by rfl) ?_
      unfold textE
      simp (config := { maxSteps := 1000000 }) (disch := ((try simp only [awL]); omega)) only [Option.toList_some, Option.toList_none, nextC_more, nextC_over, bs_size, bs_extract, bs_toList, bs_append, byteAt_bs, bs_cells, nums_length, nums_getD, hq, ↓awU, awV, awF, ofVal, ofVal0, isShift, aggK, forall_const, ↓reduceIte, ↓reduceDIte, ↓purePost, combine, idsA, cellsA, numsOf, srcA, calleeA, refsA, isScalar, scalarD, scalar0, AV.one, putL, unfA, implies_true, IntKind.signed, Nat.reduceAdd, Nat.reduceSub, Nat.reduceMul, Nat.reducePow, Nat.reduceDiv, Nat.reduceMod, Int.reduceAdd, Int.reduceSub, Int.reduceMul, Int.reducePow, Int.reduceNeg, Int.reduceToNat, Int.reduceLT, Int.reduceLE, Nat.reduceEqDiff, sidsB, Nat.reduceBEq, keyKD, isIntK, aggD, aggL, eqKs]
    · rw [ha, if_neg (by decide)] at fa
      refine CallC.of fa (by rfl) ?_
      unfold textE
      simp (config := { maxSteps := 1000000 }) (disch := ((try simp only [awL]); omega)) only [Option.toList_some, Option.toList_none, nextC_more, nextC_over, bs_size, bs_extract, bs_toList, bs_append, byteAt_bs, bs_cells, nums_length, nums_getD, ↓awU, awV, awF, ofVal, ofVal0, isShift, aggK, forall_const, ↓reduceIte, ↓reduceDIte, ↓purePost, combine, idsA, cellsA, numsOf, srcA, calleeA, refsA, isScalar, scalarD, scalar0, AV.one, putL, unfA, implies_true, IntKind.signed, Nat.reduceAdd, Nat.reduceSub, Nat.reduceMul, Nat.reducePow, Nat.reduceDiv, Nat.reduceMod, Int.reduceAdd, Int.reduceSub, Int.reduceMul, Int.reducePow, Int.reduceNeg, Int.reduceToNat, Int.reduceLT, Int.reduceLE, Nat.reduceEqDiff, sidsB, Nat.reduceBEq, keyKD, isIntK, aggD, aggL, eqKs]
      refine CallC.of fb (by rfl) ?_
      cases hb : b.all (okR d)
      · have hq := no_quote hb
        rw [if_pos rfl]
        unfold textE
        simp (config := { maxSteps := 1000000 }) (disch := ((try simp only [awL]); omega)) only [Option.toList_some, Option.toList_none, nextC_more, nextC_over, bs_size, bs_extract, bs_toList, bs_append, byteAt_bs, bs_cells, nums_length, nums_getD, hq, ↓awU, awV, awF, ofVal, ofVal0, isShift, aggK, forall_const, ↓reduceIte, ↓reduceDIte, ↓purePost, combine, idsA, cellsA, numsOf, srcA, calleeA, refsA, isScalar, scalarD, scalar0, AV.one, putL, unfA, implies_true, IntKind.signed, Nat.reduceAdd, Nat.reduceSub, Nat.reduceMul, Nat.reducePow, Nat.reduceDiv, Nat.reduceMod, Int.reduceAdd, Int.reduceSub, Int.reduceMul, Int.reducePow, Int.reduceNeg, Int.reduceToNat, Int.reduceLT, Int.reduceLE, Nat.reduceEqDiff, sidsB, Nat.reduceBEq, keyKD, isIntK, aggD, aggL, eqKs]
      · rw [if_neg (by decide)]
        unfold textE
        have oab := oa.app ob
        have pt := parse_text h1 oab (by decide) (by decide) (by rw [List.all_append, ha, hb]; rfl)
        rw [textL_app] at pt
        have la := textN_len d (nl := [10]) (by simp) a oa.row oa.txt
        have lb := textN_len d (nl := [10]) (by simp) b ob.row ob.txt
        rw [textN_lf] at la lb
        have la2 := oa.len
        have lb2 := ob.len
        have ps := parse_spec hT d (textL d a ++ textL d b) (by rw [List.length_append]; omega)
        rw [pt] at ps
        generalize textL d a = ta at *
        generalize textL d b = tb at *
        simp (config := { maxSteps := 1000000 }) (disch := ((try simp only [awL]); omega)) only [Option.toList_some, Option.toList_none, nextC_more, nextC_over, bs_size, bs_extract, bs_toList, bs_append, byteAt_bs, bs_cells, nums_length, nums_getD, ↓awU, awV, awF, ofVal, ofVal0, isShift, aggK, forall_const, ↓reduceIte, ↓reduceDIte, ↓purePost, combine, idsA, cellsA, numsOf, srcA, calleeA, refsA, isScalar, scalarD, scalar0, AV.one, putL, unfA, implies_true, IntKind.signed, Nat.reduceAdd, Nat.reduceSub, Nat.reduceMul, Nat.reducePow, Nat.reduceDiv, Nat.reduceMod, Int.reduceAdd, Int.reduceSub, Int.reduceMul, Int.reducePow, Int.reduceNeg, Int.reduceToNat, Int.reduceLT, Int.reduceLE, Nat.reduceEqDiff, sidsB, Nat.reduceBEq, keyKD, isIntK, aggD, aggL, eqKs]
        refine CallC.of ps (by rfl) ?_
        unfold gridE
        have ra := @rowsD_length a
        have rb := @rowsD_length b
        have rab := @rowsD_app a b
        have rl : (a ++ b).length = a.length + b.length := List.length_append
        have gk := oab.grid (by decide) (by decide)
        generalize hg : a ++ b = g at *
        simp (config := { maxSteps := 1000000 }) (disch := ((try simp only [awL]); omega)) only [Option.toList_some, Option.toList_none, nextC_more, nextC_over, bs_size, bs_extract, bs_toList, bs_append, byteAt_bs, bs_cells, nums_length, nums_getD, ra, rb, rab, ↓awU, awV, awF, ofVal, ofVal0, isShift, aggK, forall_const, ↓reduceIte, ↓reduceDIte, ↓purePost, combine, idsA, cellsA, numsOf, srcA, calleeA, refsA, isScalar, scalarD, scalar0, AV.one, putL, unfA, implies_true, IntKind.signed, Nat.reduceAdd, Nat.reduceSub, Nat.reduceMul, Nat.reducePow, Nat.reduceDiv, Nat.reduceMod, Int.reduceAdd, Int.reduceSub, Int.reduceMul, Int.reducePow, Int.reduceNeg, Int.reduceToNat, Int.reduceLT, Int.reduceLE, Nat.reduceEqDiff, sidsB, Nat.reduceBEq, keyKD, isIntK, aggD, aggL, eqKs]
        have cu : cut (rowsD g) 0 (a.length + b.length) = rowsD g := cut_all (by rw [rowsD_length, rl])
        rw [cu]
        refine CallC.frozenE (sameG_spec g g false false gk gk) (by rw [← rl]) ?_
        rw [decide_eq_true rfl]
        simp (config := { maxSteps := 1000000 }) (disch := ((try simp only [awL]); omega)) only [Option.toList_some, Option.toList_none, nextC_more, nextC_over, bs_size, bs_extract, bs_toList, bs_append, byteAt_bs, bs_cells, nums_length, nums_getD, ↓awU, awV, awF, ofVal, ofVal0, isShift, aggK, forall_const, ↓reduceIte, ↓reduceDIte, ↓purePost, combine, idsA, cellsA, numsOf, srcA, calleeA, refsA, isScalar, scalarD, scalar0, AV.one, putL, unfA, implies_true, IntKind.signed, Nat.reduceAdd, Nat.reduceSub, Nat.reduceMul, Nat.reducePow, Nat.reduceDiv, Nat.reduceMod, Int.reduceAdd, Int.reduceSub, Int.reduceMul, Int.reducePow, Int.reduceNeg, Int.reduceToNat, Int.reduceLT, Int.reduceLE, Nat.reduceEqDiff, sidsB, Nat.reduceBEq, keyKD, isIntK, aggD, aggL, eqKs]
        first | done | rfl | exact ⟨by rfl, rfl⟩
end Go.Proofs.YtjjanbljkoaojaaDoor
