/-
  Contracts of the functions, one after another.
-/
import Derived.Test.YtjjanbljkoaojaaGreatDoorLa3
import Derived.Lib.ValidLaws
import Derived.Test.YtjjanbljkoaojaaGreatDoorChecked
import Derived.KernelRfl
import Derived.Shelf.Unicode.ValidAny
import Derived.Ground.NamesProg
import Derived.Lib.DecodeN
import Derived.Lib.Strings
import Derived.Lib.Slices
import Derived.Lib.Walk
import Derived.Lib.Bytealg
import Derived.Shelf.Strings.Trim
import Derived.Shelf.Strings.Replace
import Derived.Test.YtjjanbljkoaojaaGreatDoorCards
import Derived.Test.YtjjanbljkoaojaaGreatDoorTie
import Derived.Lib.LaidU8T
import Derived.Shelf.Vars
import Derived.Lib.SmallJoins
import Derived.Shelf.Strings.Builder1
set_option linter.all false
namespace Go.Proofs.YtjjanbljkoaojaaGreatDoor
/-! Files with a delimiter: what is read. -/
structure Dia where
  del : UInt8
  quo : UInt8
  trim : Bool
def okDia (d : Dia) : Bool := decide ((d.del = 9 ∨ 32 ≤ d.del.toNat ∧ d.del.toNat ≤ 126) ∧ (d.quo = 0 ∨ d.quo = 34 ∨ d.quo = 39) ∧ d.del ≠ d.quo ∧ ¬ (d.trim = true ∧ d.del = 32))
/-- The length of the line end at the beginning. -/
def endL (l : List UInt8) : Nat := if l.head? = some 10 then 1 else if l.head? = some 13 ∧ (l.drop 1).head? = some 10 then 2 else 0
/-- A field ends here. -/
def stopL (d : Dia) (l : List UInt8) : Bool := decide (l = [] ∨ l.head? = some d.del ∨ 0 < endL l)
/-- What stands before the field's end. -/
def plainL (d : Dia) : List UInt8 → List UInt8
  | [] => []
  | c :: r => if stopL d (c :: r) then [] else c :: plainL d r
/-- Spaces are passed over, if they do not count. -/
def skipL (d : Dia) (l : List UInt8) : List UInt8 := if d.trim then l.dropWhile (· == 32) else l
def trimR (d : Dia) (l : List UInt8) : List UInt8 := if d.trim then (l.reverse.dropWhile (· == 32)).reverse else l
/-- A quoted field behind its first quote: what it holds, and what follows its last quote. -/
def quotL (q : UInt8) : List UInt8 → Option (List UInt8 × List UInt8)
  | [] => none
  | [c] => if c = q then some ([], []) else none
  | c :: e :: r => if c = q then (if e = q then (quotL q r).map fun p => (q :: p.1, p.2) else some ([], e :: r)) else (quotL q (e :: r)).map fun p => (c :: p.1, p.2)
/-- A field, and the rest. -/
def fieldL (d : Dia) (l : List UInt8) : Option (List UInt8 × List UInt8) :=
  if d.quo ≠ 0 ∧ (skipL d l).head? = some d.quo then
    match quotL d.quo ((skipL d l).drop 1) with
    | none => none
    | some p => if stopL d (skipL d p.2) then some (p.1, skipL d p.2) else none
  else some (trimR d (plainL d (skipL d l)), (skipL d l).drop (plainL d (skipL d l)).length)
/-- A record, and the rest (n: fuel). -/
def recF (d : Dia) : Nat → List UInt8 → Option (List (List UInt8) × List UInt8)
  | 0, _ => none
  | n + 1, l => match fieldL d l with
    | none => none
    | some p => if p.2.head? = some d.del then (recF d n (p.2.drop 1)).map fun q => (p.1 :: q.1, q.2) else some ([p.1], p.2.drop (endL p.2))
def recL (d : Dia) (l : List UInt8) := recF d (l.length + 1) l
def rowsF (d : Dia) : Nat → List UInt8 → Option (List (List (List UInt8)))
  | 0, _ => none
  | n + 1, l => if l = [] then some [] else match recL d l with
    | none => none
    | some p => (rowsF d n p.2).map fun q => p.1 :: q
/-- The records of a file. -/
def rowsL (d : Dia) (l : List UInt8) := rowsF d (l.length + 1) l

theorem endL_le (l : List UInt8) : endL l ≤ l.length := by
  unfold endL
  match l with
  | [] => simp
  | [c] => simp; split <;> simp
  | c :: e :: r => simp; split <;> (try split) <;> omega
theorem plainL_le (d : Dia) : ∀ l, (plainL d l).length ≤ l.length
  | [] => Nat.le_refl _
  | c :: r => by unfold plainL; split <;> simp; exact plainL_le d r
theorem plainL_stop (d : Dia) : ∀ l : List UInt8, stopL d (l.drop (plainL d l).length) = true
  | [] => by simp [stopL]
  | c :: r => by
    unfold plainL
    split
    · rename_i h; simpa using h
    · rw [List.length_cons, List.drop_succ_cons]; exact plainL_stop d r
theorem plainL_more {d : Dia} {l : List UInt8} (h : stopL d l = false) : plainL d l = l.head?.getD 0 :: plainL d (l.drop 1) := by
  cases l with
  | nil => simp [stopL] at h
  | cons c r => rw [plainL, if_neg (by rw [h]; decide)]; rfl
theorem plainL_end {d : Dia} {l : List UInt8} (h : stopL d l = true) : plainL d l = [] := by
  cases l with
  | nil => rfl
  | cons c r => rw [plainL, if_pos h]
theorem dropWhile_suffix : ∀ (p : UInt8 → Bool) (l : List UInt8), ∃ k, l.dropWhile p = l.drop k ∧ k ≤ l.length
  | _, [] => ⟨0, rfl, Nat.le_refl _⟩
  | p, c :: r => by
    rw [List.dropWhile_cons]
    split
    · obtain ⟨k, h1, h2⟩ := dropWhile_suffix p r
      exact ⟨k + 1, by rw [h1]; rfl, by simp; exact h2⟩
    · exact ⟨0, rfl, Nat.zero_le _⟩
theorem skipL_suffix (d : Dia) (l : List UInt8) : ∃ k, skipL d l = l.drop k ∧ k ≤ l.length := by
  unfold skipL
  split
  · exact dropWhile_suffix _ l
  · exact ⟨0, rfl, Nat.zero_le _⟩
theorem quotL_suffix (q : UInt8) : ∀ (n : Nat) (l : List UInt8) p, l.length = n → quotL q l = some p → ∃ k, p.2 = l.drop k ∧ 1 ≤ k ∧ k ≤ l.length := by
  intro n
  induction n using Nat.strongRecOn with
  | _ n ih =>
    intro l p hn h
    match l, h with
    | [], h => cases h
    | [c], h =>
      rw [quotL] at h
      split at h
      · cases h; exact ⟨1, rfl, Nat.le_refl _, Nat.le_refl _⟩
      · cases h
    | c :: e :: r, h =>
      rw [quotL] at h
      split at h
      · split at h
        · cases hq : quotL q r with
          | none => rw [hq] at h; cases h
          | some p' =>
            rw [hq] at h; cases h
            obtain ⟨k, h1, h2, h3⟩ := ih r.length (by simp at hn; omega) r p' rfl hq
            exact ⟨k + 2, by simpa using h1, by omega, by simp; omega⟩
        · cases h; exact ⟨1, rfl, Nat.le_refl _, by simp⟩
      · cases hq : quotL q (e :: r) with
        | none => rw [hq] at h; cases h
        | some p' =>
          rw [hq] at h; cases h
          obtain ⟨k, h1, h2, h3⟩ := ih (e :: r).length (by simp at hn ⊢; omega) (e :: r) p' rfl hq
          exact ⟨k + 1, by simpa using h1, by omega, by simp at h3 ⊢; omega⟩
theorem fieldL_suffix {d : Dia} {l : List UInt8} {p : List UInt8 × List UInt8} (h : fieldL d l = some p) : (∃ k, p.2 = l.drop k ∧ k ≤ l.length) ∧ stopL d p.2 = true := by
  obtain ⟨a, ha, hal⟩ := skipL_suffix d l
  unfold fieldL at h
  split at h
  · split at h
    · cases h
    · rename_i p' hq
      split at h
      · rename_i hs
        cases h
        obtain ⟨k, h1, h2, h3⟩ := quotL_suffix d.quo _ _ _ rfl hq
        obtain ⟨b, hb, hbl⟩ := skipL_suffix d p'.2
        refine ⟨⟨a + (1 + (k + b)), ?_, ?_⟩, hs⟩
        · show skipL d p'.2 = _
          rw [hb, h1, ha]
          simp only [List.drop_drop]
          congr 1; omega
        · rw [h1, ha] at hbl
          rw [ha] at h3
          simp only [List.length_drop] at hbl h3
          omega
      · cases h
  · cases h
    refine ⟨⟨a + (plainL d (skipL d l)).length, by rw [ha]; simp only [List.drop_drop], ?_⟩, plainL_stop d _⟩
    have := plainL_le d (skipL d l)
    rw [ha, List.length_drop] at this
    rw [ha]
    omega
theorem stop_cases {d : Dia} {l : List UInt8} (h : stopL d l = true) (hd : l.head? ≠ some d.del) : l = [] ∨ 0 < endL l := by
  simp only [stopL, decide_eq_true_eq] at h
  rcases h with h | h | h
  · exact .inl h
  · exact absurd h hd
  · exact .inr h
theorem drop_lt {l : List UInt8} {k : Nat} (h : 0 < k) (hl : l ≠ []) : (l.drop k).length < l.length := by
  have := List.length_pos_iff.2 hl
  rw [List.length_drop]; omega
theorem fieldL_le {d : Dia} {l : List UInt8} {p : List UInt8 × List UInt8} (h : fieldL d l = some p) : p.2.length ≤ l.length := by
  obtain ⟨⟨k, h1, h2⟩, _⟩ := fieldL_suffix h
  rw [h1, List.length_drop]; omega
/-- Fuel does not matter. -/
theorem recF_fuel (d : Dia) : ∀ (n m : Nat) (l : List UInt8), l.length < n → l.length < m → recF d n l = recF d m l
  | 0, _, _, h, _ => by omega
  | n + 1, 0, _, _, h => by omega
  | n + 1, m + 1, l, hn, hm => by
    rw [recF, recF]
    cases h : fieldL d l with
    | none => rfl
    | some p =>
      show (if _ then _ else _) = (if _ then _ else _)
      split
      · rename_i hd
        have hp := fieldL_le h
        have hne : p.2 ≠ [] := by intro e; rw [e] at hd; cases hd
        have := drop_lt (k := 1) (by omega) hne
        rw [recF_fuel d n m (p.2.drop 1) (by omega) (by omega)]
      · rfl
theorem recL_eq (d : Dia) (l : List UInt8) : recL d l = match fieldL d l with
    | none => none
    | some p => if p.2.head? = some d.del then (recL d (p.2.drop 1)).map fun q => (p.1 :: q.1, q.2) else some ([p.1], p.2.drop (endL p.2)) := by
  show recF d (l.length + 1) l = _
  rw [recF]
  cases h : fieldL d l with
  | none => rfl
  | some p =>
    show (if _ then _ else _) = (if _ then _ else _)
    split
    · rename_i hd
      have hp := fieldL_le h
      have hne : p.2 ≠ [] := by intro e; rw [e] at hd; cases hd
      have := drop_lt (k := 1) (by omega) hne
      rw [show recF d l.length (p.2.drop 1) = recL d (p.2.drop 1) from recF_fuel d _ _ _ (by omega) (by omega)]
    · rfl
theorem recF_lt (d : Dia) : ∀ (n : Nat) (l : List UInt8) (p : List (List UInt8) × List UInt8), recF d n l = some p → l ≠ [] → p.2.length < l.length
  | 0, _, _, h, _ => by cases h
  | n + 1, l, p, h, hne => by
    rw [recF] at h
    cases hf : fieldL d l with
    | none => rw [hf] at h; cases h
    | some q =>
      rw [hf] at h
      replace h : (if q.2.head? = some d.del then (recF d n (q.2.drop 1)).map fun s => (q.1 :: s.1, s.2) else some ([q.1], q.2.drop (endL q.2))) = some p := h
      have hq := fieldL_le hf
      split at h
      · rename_i hd
        have hne2 : q.2 ≠ [] := by intro e; rw [e] at hd; cases hd
        have hlt := drop_lt (k := 1) (by omega) hne2
        cases hr : recF d n (q.2.drop 1) with
        | none => rw [hr] at h; cases h
        | some s =>
          rw [hr] at h; cases h
          show s.2.length < l.length
          by_cases he : q.2.drop 1 = []
          · rw [he] at hr
            have h0 : s.2.length ≤ 0 := by
              cases n with
              | zero => cases hr
              | succ n =>
                rw [recF] at hr
                have e0 : fieldL d [] = some ([], []) := by
                  unfold fieldL skipL trimR
                  simp [plainL]
                rw [e0] at hr
                simp [endL] at hr
                rw [← hr]; simp
            have := List.length_pos_iff.2 hne
            omega
          · have := recF_lt d n _ _ hr he
            omega
      · rename_i hd
        cases h
        show (q.2.drop (endL q.2)).length < l.length
        rcases stop_cases (fieldL_suffix hf).2 hd with he | he
        · have := List.length_pos_iff.2 hne
          rw [he]; simpa using this
        · have hne2 : q.2 ≠ [] := by intro e; rw [e] at he; simp [endL] at he
          have := drop_lt he hne2
          omega
theorem rowsF_fuel (d : Dia) : ∀ (n m : Nat) (l : List UInt8), l.length < n → l.length < m → rowsF d n l = rowsF d m l
  | 0, _, _, h, _ => by omega
  | n + 1, 0, _, _, h => by omega
  | n + 1, m + 1, l, hn, hm => by
    rw [rowsF, rowsF]
    split
    · rfl
    · rename_i hne
      cases h : recL d l with
      | none => rfl
      | some p =>
        have := recF_lt d _ l p h hne
        show Option.map _ _ = Option.map _ _
        rw [rowsF_fuel d n m p.2 (by omega) (by omega)]
theorem rowsL_nil (d : Dia) : rowsL d [] = some [] := rfl
theorem rowsL_eq (d : Dia) {l : List UInt8} (hne : l ≠ []) : rowsL d l = match recL d l with
    | none => none
    | some p => (rowsL d p.2).map fun q => p.1 :: q := by
  show rowsF d (l.length + 1) l = _
  rw [rowsF, if_neg hne]
  cases h : recL d l with
  | none => rfl
  | some p =>
    have := recF_lt d _ l p h hne
    show Option.map _ _ = Option.map _ _
    rw [show rowsF d l.length p.2 = rowsL d p.2 from rowsF_fuel d _ _ _ (by omega) (by omega)]
end Go.Proofs.YtjjanbljkoaojaaGreatDoor

namespace Go.Proofs.YtjjanbljkoaojaaGreatDoor
open Go.Lib
/-! Valid texts: what they are made of. -/
/-- Quotes are doubled. -/
def dblL (q : UInt8) (x : List UInt8) : List UInt8 := x.flatMap fun c => if c = q then [q, q] else [c]
theorem dblL_wide {q : UInt8} : ∀ {p : List UInt8}, (∀ c ∈ p, c ≠ q) → dblL q p = p
  | [], _ => rfl
  | c :: r, h => by
    have : dblL q (c :: r) = (if c = q then [q, q] else [c]) ++ dblL q r := rfl
    rw [this, if_neg (h c (by simp)), dblL_wide fun x hx => h x (by simp [hx])]; rfl
end Go.Proofs.YtjjanbljkoaojaaGreatDoor

/-
  Facts of the program: its types, and which functions are Go text: each by the kernel.
-/
namespace Go.Proofs.YtjjanbljkoaojaaGreatDoor
open Go Go.Proofs Go.Abs
theorem ti2 : tiOf Tryz.prog 2 = some ⟨.int .i64, 1, 8, [.int .i64 0]⟩ := by kernel_rfl
theorem ie2 : intE Tryz.prog 2 = some .i64 := by kernel_rfl
theorem it2 : intT Tryz.prog 2 = some .i64 := by kernel_rfl
theorem st2 : isStrT Tryz.prog 2 = false := by kernel_rfl
theorem ti3 : tiOf Tryz.prog 3 = some ⟨.int .i64, 1, 8, [.int .i64 0]⟩ := by kernel_rfl
theorem ie3 : intE Tryz.prog 3 = some .i64 := by kernel_rfl
theorem it3 : intT Tryz.prog 3 = some .i64 := by kernel_rfl
theorem st3 : isStrT Tryz.prog 3 = false := by kernel_rfl
theorem ti4 : tiOf Tryz.prog 4 = some ⟨.bool, 1, 1, [.bool false]⟩ := by kernel_rfl
theorem bt4 : isBoolT Tryz.prog 4 = true := by kernel_rfl
theorem ti5 : tiOf Tryz.prog 5 = some ⟨.int .u8, 1, 1, [.int .u8 0]⟩ := by kernel_rfl
theorem ie5 : intE Tryz.prog 5 = some .u8 := by kernel_rfl
theorem it5 : intT Tryz.prog 5 = some .u8 := by kernel_rfl
theorem st5 : isStrT Tryz.prog 5 = false := by kernel_rfl
theorem ti6 : tiOf Tryz.prog 6 = some ⟨.int .u8, 1, 1, [.int .u8 0]⟩ := by kernel_rfl
theorem ie6 : intE Tryz.prog 6 = some .u8 := by kernel_rfl
theorem it6 : intT Tryz.prog 6 = some .u8 := by kernel_rfl
theorem st6 : isStrT Tryz.prog 6 = false := by kernel_rfl
theorem ti8 : tiOf Tryz.prog 8 = some ⟨.struct [(0, 2, 1), (1, 3, 1), (2, 4, 1), (3, 6, 1)], 4, 24, [.int .i64 0, .int .i64 0, .bool false, .int .u8 0]⟩ := by kernel_rfl
theorem sf8_0 : structF Tryz.prog 8 0 = some (0, 2, 1) := by kernel_rfl
theorem sf8_1 : structF Tryz.prog 8 1 = some (1, 3, 1) := by kernel_rfl
theorem sf8_2 : structF Tryz.prog 8 2 = some (2, 4, 1) := by kernel_rfl
theorem sf8_3 : structF Tryz.prog 8 3 = some (3, 6, 1) := by kernel_rfl
theorem ti9 : tiOf Tryz.prog 9 = some ⟨.string, 1, 16, [.str .empty]⟩ := by kernel_rfl
theorem st9 : isStrT Tryz.prog 9 = true := by kernel_rfl
theorem ap9 : appendable Tryz.prog 9 = true := by kernel_rfl
theorem it9 : intT Tryz.prog 9 = none := by kernel_rfl
theorem ti10 : tiOf Tryz.prog 10 = some ⟨.string, 1, 16, [.str .empty]⟩ := by kernel_rfl
theorem st10 : isStrT Tryz.prog 10 = true := by kernel_rfl
theorem ap10 : appendable Tryz.prog 10 = true := by kernel_rfl
theorem it10 : intT Tryz.prog 10 = none := by kernel_rfl
theorem ti11 : tiOf Tryz.prog 11 = some ⟨.string, 1, 16, [.str .empty]⟩ := by kernel_rfl
theorem st11 : isStrT Tryz.prog 11 = true := by kernel_rfl
theorem ap11 : appendable Tryz.prog 11 = true := by kernel_rfl
theorem it11 : intT Tryz.prog 11 = none := by kernel_rfl
theorem ti12 : tiOf Tryz.prog 12 = some ⟨.int .u64, 1, 8, [.int .u64 0]⟩ := by kernel_rfl
theorem ie12 : intE Tryz.prog 12 = some .u64 := by kernel_rfl
theorem it12 : intT Tryz.prog 12 = some .u64 := by kernel_rfl
theorem st12 : isStrT Tryz.prog 12 = false := by kernel_rfl
theorem ti14 : tiOf Tryz.prog 14 = some ⟨.struct [(0, 9, 1), (1, 12, 1)], 2, 24, [.str .empty, .int .u64 0]⟩ := by kernel_rfl
theorem sf14_0 : structF Tryz.prog 14 0 = some (0, 9, 1) := by kernel_rfl
theorem sf14_1 : structF Tryz.prog 14 1 = some (1, 12, 1) := by kernel_rfl
theorem ti15 : tiOf Tryz.prog 15 = some ⟨.ptr 135, 1, 8, [.nilp]⟩ := by kernel_rfl
theorem ti16 : tiOf Tryz.prog 16 = some ⟨.ptr 138, 1, 8, [.nilp]⟩ := by kernel_rfl
theorem ti17 : tiOf Tryz.prog 17 = some ⟨.ptr 145, 1, 8, [.nilp]⟩ := by kernel_rfl
theorem ti19 : tiOf Tryz.prog 19 = some ⟨.struct [(0, 17, 1)], 1, 8, [.nilp]⟩ := by kernel_rfl
theorem sf19_0 : structF Tryz.prog 19 0 = some (0, 17, 1) := by kernel_rfl
theorem ti21 : tiOf Tryz.prog 21 = some ⟨.int .i32, 1, 4, [.int .i32 0]⟩ := by kernel_rfl
theorem ie21 : intE Tryz.prog 21 = some .i32 := by kernel_rfl
theorem it21 : intT Tryz.prog 21 = some .i32 := by kernel_rfl
theorem st21 : isStrT Tryz.prog 21 = false := by kernel_rfl
theorem ti22 : tiOf Tryz.prog 22 = some ⟨.slice 5, 1, 24, [.sl 0 true []]⟩ := by kernel_rfl
theorem se22 : sliceElem Tryz.prog 22 = some (5, ⟨.int .u8, 1, 1, [.int .u8 0]⟩) := by kernel_rfl
theorem sz22 : isSliceT Tryz.prog 22 = true := by kernel_rfl
theorem ap22 : appendable Tryz.prog 22 = true := by kernel_rfl
theorem st22 : isStrT Tryz.prog 22 = false := by kernel_rfl
theorem ti24 : tiOf Tryz.prog 24 = some ⟨.struct [(0, 5, 1), (1, 5, 1), (2, 4, 1)], 3, 3, [.int .u8 0, .int .u8 0, .bool false]⟩ := by kernel_rfl
theorem sf24_0 : structF Tryz.prog 24 0 = some (0, 5, 1) := by kernel_rfl
theorem sf24_1 : structF Tryz.prog 24 1 = some (1, 5, 1) := by kernel_rfl
theorem sf24_2 : structF Tryz.prog 24 2 = some (2, 4, 1) := by kernel_rfl
theorem ti26 : tiOf Tryz.prog 26 = some ⟨.ptr 46, 1, 8, [.nilp]⟩ := by kernel_rfl
theorem ti29 : tiOf Tryz.prog 29 = some ⟨.slice 39, 1, 24, [.sl 0 true []]⟩ := by kernel_rfl
theorem se29 : sliceElem Tryz.prog 29 = some (39, ⟨.slice 9, 1, 24, [.sl 0 true []]⟩) := by kernel_rfl
theorem sz29 : isSliceT Tryz.prog 29 = true := by kernel_rfl
theorem ap29 : appendable Tryz.prog 29 = true := by kernel_rfl
theorem st29 : isStrT Tryz.prog 29 = false := by kernel_rfl
theorem ti31 : tiOf Tryz.prog 31 = some ⟨.struct [(0, 29, 1)], 1, 24, [.sl 0 true []]⟩ := by kernel_rfl
theorem sf31_0 : structF Tryz.prog 31 0 = some (0, 29, 1) := by kernel_rfl
theorem ti34 : tiOf Tryz.prog 34 = some ⟨.slice 24, 1, 24, [.sl 0 true []]⟩ := by kernel_rfl
theorem se34 : sliceElem Tryz.prog 34 = some (24, ⟨.struct [(0, 5, 1), (1, 5, 1), (2, 4, 1)], 3, 3, [.int .u8 0, .int .u8 0, .bool false]⟩) := by kernel_rfl
theorem sz34 : isSliceT Tryz.prog 34 = true := by kernel_rfl
theorem ap34 : appendable Tryz.prog 34 = true := by kernel_rfl
theorem st34 : isStrT Tryz.prog 34 = false := by kernel_rfl
theorem ti35 : tiOf Tryz.prog 35 = some ⟨.int .i64, 1, 8, [.int .i64 0]⟩ := by kernel_rfl
theorem ie35 : intE Tryz.prog 35 = some .i64 := by kernel_rfl
theorem it35 : intT Tryz.prog 35 = some .i64 := by kernel_rfl
theorem st35 : isStrT Tryz.prog 35 = false := by kernel_rfl
theorem ti39 : tiOf Tryz.prog 39 = some ⟨.slice 9, 1, 24, [.sl 0 true []]⟩ := by kernel_rfl
theorem se39 : sliceElem Tryz.prog 39 = some (9, ⟨.string, 1, 16, [.str .empty]⟩) := by kernel_rfl
theorem sz39 : isSliceT Tryz.prog 39 = true := by kernel_rfl
theorem ap39 : appendable Tryz.prog 39 = true := by kernel_rfl
theorem st39 : isStrT Tryz.prog 39 = false := by kernel_rfl
theorem ti46 : tiOf Tryz.prog 46 = some ⟨.struct [(0, 22, 1), (1, 3, 1)], 2, 32, [.sl 0 true [], .int .i64 0]⟩ := by kernel_rfl
theorem sf46_0 : structF Tryz.prog 46 0 = some (0, 22, 1) := by kernel_rfl
theorem sf46_1 : structF Tryz.prog 46 1 = some (1, 3, 1) := by kernel_rfl
theorem ti55 : tiOf Tryz.prog 55 = some ⟨.ptr 57, 1, 8, [.nilp]⟩ := by kernel_rfl
theorem ti57 : tiOf Tryz.prog 57 = some ⟨.struct [(0, 55, 1), (1, 22, 1)], 2, 32, [.nilp, .sl 0 true []]⟩ := by kernel_rfl
theorem sf57_0 : structF Tryz.prog 57 0 = some (0, 55, 1) := by kernel_rfl
theorem sf57_1 : structF Tryz.prog 57 1 = some (1, 22, 1) := by kernel_rfl
theorem ti68 : tiOf Tryz.prog 68 = some ⟨.ptr 70, 1, 8, [.nilp]⟩ := by kernel_rfl
theorem ti70 : tiOf Tryz.prog 70 = some ⟨.struct [(0, 24, 3), (3, 9, 1)], 4, 24, [.int .u8 0, .int .u8 0, .bool false, .str .empty]⟩ := by kernel_rfl
theorem sf70_0 : structF Tryz.prog 70 0 = some (0, 24, 3) := by kernel_rfl
theorem sf70_1 : structF Tryz.prog 70 1 = some (3, 9, 1) := by kernel_rfl
theorem ti84 : tiOf Tryz.prog 84 = some ⟨.ptr 5, 1, 8, [.nilp]⟩ := by kernel_rfl
theorem ti90 : tiOf Tryz.prog 90 = some ⟨.array 256 5, 256, 256, [.int .u8 0, .int .u8 0, .int .u8 0, .int .u8 0, .int .u8 0, .int .u8 0, .int .u8 0, .int .u8 0, .int .u8 0, .int .u8 0, .int .u8 0, .int .u8 0, .int .u8 0, .int .u8 0, .int .u8 0, .int .u8 0, .int .u8 0, .int .u8 0, .int .u8 0, .int .u8 0, .int .u8 0, .int .u8 0, .int .u8 0, .int .u8 0, .int .u8 0, .int .u8 0, .int .u8 0, .int .u8 0, .int .u8 0, .int .u8 0, .int .u8 0, .int .u8 0, .int .u8 0, .int .u8 0, .int .u8 0, .int .u8 0, .int .u8 0, .int .u8 0, .int .u8 0, .int .u8 0, .int .u8 0, .int .u8 0, .int .u8 0, .int .u8 0, .int .u8 0, .int .u8 0, .int .u8 0, .int .u8 0, .int .u8 0, .int .u8 0, .int .u8 0, .int .u8 0, .int .u8 0, .int .u8 0, .int .u8 0, .int .u8 0, .int .u8 0, .int .u8 0, .int .u8 0, .int .u8 0, .int .u8 0, .int .u8 0, .int .u8 0, .int .u8 0, .int .u8 0, .int .u8 0, .int .u8 0, .int .u8 0, .int .u8 0, .int .u8 0, .int .u8 0, .int .u8 0, .int .u8 0, .int .u8 0, .int .u8 0, .int .u8 0, .int .u8 0, .int .u8 0, .int .u8 0, .int .u8 0, .int .u8 0, .int .u8 0, .int .u8 0, .int .u8 0, .int .u8 0, .int .u8 0, .int .u8 0, .int .u8 0, .int .u8 0, .int .u8 0, .int .u8 0, .int .u8 0, .int .u8 0, .int .u8 0, .int .u8 0, .int .u8 0, .int .u8 0, .int .u8 0, .int .u8 0, .int .u8 0, .int .u8 0, .int .u8 0, .int .u8 0, .int .u8 0, .int .u8 0, .int .u8 0, .int .u8 0, .int .u8 0, .int .u8 0, .int .u8 0, .int .u8 0, .int .u8 0, .int .u8 0, .int .u8 0, .int .u8 0, .int .u8 0, .int .u8 0, .int .u8 0, .int .u8 0, .int .u8 0, .int .u8 0, .int .u8 0, .int .u8 0, .int .u8 0, .int .u8 0, .int .u8 0, .int .u8 0, .int .u8 0, .int .u8 0, .int .u8 0, .int .u8 0, .int .u8 0, .int .u8 0, .int .u8 0, .int .u8 0, .int .u8 0, .int .u8 0, .int .u8 0, .int .u8 0, .int .u8 0, .int .u8 0, .int .u8 0, .int .u8 0, .int .u8 0, .int .u8 0, .int .u8 0, .int .u8 0, .int .u8 0, .int .u8 0, .int .u8 0, .int .u8 0, .int .u8 0, .int .u8 0, .int .u8 0, .int .u8 0, .int .u8 0, .int .u8 0, .int .u8 0, .int .u8 0, .int .u8 0, .int .u8 0, .int .u8 0, .int .u8 0, .int .u8 0, .int .u8 0, .int .u8 0, .int .u8 0, .int .u8 0, .int .u8 0, .int .u8 0, .int .u8 0, .int .u8 0, .int .u8 0, .int .u8 0, .int .u8 0, .int .u8 0, .int .u8 0, .int .u8 0, .int .u8 0, .int .u8 0, .int .u8 0, .int .u8 0, .int .u8 0, .int .u8 0, .int .u8 0, .int .u8 0, .int .u8 0, .int .u8 0, .int .u8 0, .int .u8 0, .int .u8 0, .int .u8 0, .int .u8 0, .int .u8 0, .int .u8 0, .int .u8 0, .int .u8 0, .int .u8 0, .int .u8 0, .int .u8 0, .int .u8 0, .int .u8 0, .int .u8 0, .int .u8 0, .int .u8 0, .int .u8 0, .int .u8 0, .int .u8 0, .int .u8 0, .int .u8 0, .int .u8 0, .int .u8 0, .int .u8 0, .int .u8 0, .int .u8 0, .int .u8 0, .int .u8 0, .int .u8 0, .int .u8 0, .int .u8 0, .int .u8 0, .int .u8 0, .int .u8 0, .int .u8 0, .int .u8 0, .int .u8 0, .int .u8 0, .int .u8 0, .int .u8 0, .int .u8 0, .int .u8 0, .int .u8 0, .int .u8 0, .int .u8 0, .int .u8 0, .int .u8 0, .int .u8 0, .int .u8 0, .int .u8 0, .int .u8 0, .int .u8 0, .int .u8 0, .int .u8 0, .int .u8 0, .int .u8 0, .int .u8 0, .int .u8 0, .int .u8 0, .int .u8 0, .int .u8 0, .int .u8 0, .int .u8 0, .int .u8 0, .int .u8 0, .int .u8 0, .int .u8 0]⟩ := by kernel_rfl
theorem se90 : sliceElem Tryz.prog 90 = none := by kernel_rfl
theorem ae90 : arrayE Tryz.prog 90 = some (256, 5, 1) := by kernel_rfl
theorem ti92 : tiOf Tryz.prog 92 = some ⟨.struct [(0, 5, 1), (1, 5, 1)], 2, 2, [.int .u8 0, .int .u8 0]⟩ := by kernel_rfl
theorem sf92_0 : structF Tryz.prog 92 0 = some (0, 5, 1) := by kernel_rfl
theorem sf92_1 : structF Tryz.prog 92 1 = some (1, 5, 1) := by kernel_rfl
theorem ti93 : tiOf Tryz.prog 93 = some ⟨.array 16 92, 32, 32, [.int .u8 0, .int .u8 0, .int .u8 0, .int .u8 0, .int .u8 0, .int .u8 0, .int .u8 0, .int .u8 0, .int .u8 0, .int .u8 0, .int .u8 0, .int .u8 0, .int .u8 0, .int .u8 0, .int .u8 0, .int .u8 0, .int .u8 0, .int .u8 0, .int .u8 0, .int .u8 0, .int .u8 0, .int .u8 0, .int .u8 0, .int .u8 0, .int .u8 0, .int .u8 0, .int .u8 0, .int .u8 0, .int .u8 0, .int .u8 0, .int .u8 0, .int .u8 0]⟩ := by kernel_rfl
theorem se93 : sliceElem Tryz.prog 93 = none := by kernel_rfl
theorem ae93 : arrayE Tryz.prog 93 = some (16, 92, 2) := by kernel_rfl
theorem ti94 : tiOf Tryz.prog 94 = some ⟨.int .u64, 1, 8, [.int .u64 0]⟩ := by kernel_rfl
theorem ie94 : intE Tryz.prog 94 = some .u64 := by kernel_rfl
theorem it94 : intT Tryz.prog 94 = some .u64 := by kernel_rfl
theorem st94 : isStrT Tryz.prog 94 = false := by kernel_rfl
theorem ti101 : tiOf Tryz.prog 101 = some ⟨.array 256 4, 256, 256, [.bool false, .bool false, .bool false, .bool false, .bool false, .bool false, .bool false, .bool false, .bool false, .bool false, .bool false, .bool false, .bool false, .bool false, .bool false, .bool false, .bool false, .bool false, .bool false, .bool false, .bool false, .bool false, .bool false, .bool false, .bool false, .bool false, .bool false, .bool false, .bool false, .bool false, .bool false, .bool false, .bool false, .bool false, .bool false, .bool false, .bool false, .bool false, .bool false, .bool false, .bool false, .bool false, .bool false, .bool false, .bool false, .bool false, .bool false, .bool false, .bool false, .bool false, .bool false, .bool false, .bool false, .bool false, .bool false, .bool false, .bool false, .bool false, .bool false, .bool false, .bool false, .bool false, .bool false, .bool false, .bool false, .bool false, .bool false, .bool false, .bool false, .bool false, .bool false, .bool false, .bool false, .bool false, .bool false, .bool false, .bool false, .bool false, .bool false, .bool false, .bool false, .bool false, .bool false, .bool false, .bool false, .bool false, .bool false, .bool false, .bool false, .bool false, .bool false, .bool false, .bool false, .bool false, .bool false, .bool false, .bool false, .bool false, .bool false, .bool false, .bool false, .bool false, .bool false, .bool false, .bool false, .bool false, .bool false, .bool false, .bool false, .bool false, .bool false, .bool false, .bool false, .bool false, .bool false, .bool false, .bool false, .bool false, .bool false, .bool false, .bool false, .bool false, .bool false, .bool false, .bool false, .bool false, .bool false, .bool false, .bool false, .bool false, .bool false, .bool false, .bool false, .bool false, .bool false, .bool false, .bool false, .bool false, .bool false, .bool false, .bool false, .bool false, .bool false, .bool false, .bool false, .bool false, .bool false, .bool false, .bool false, .bool false, .bool false, .bool false, .bool false, .bool false, .bool false, .bool false, .bool false, .bool false, .bool false, .bool false, .bool false, .bool false, .bool false, .bool false, .bool false, .bool false, .bool false, .bool false, .bool false, .bool false, .bool false, .bool false, .bool false, .bool false, .bool false, .bool false, .bool false, .bool false, .bool false, .bool false, .bool false, .bool false, .bool false, .bool false, .bool false, .bool false, .bool false, .bool false, .bool false, .bool false, .bool false, .bool false, .bool false, .bool false, .bool false, .bool false, .bool false, .bool false, .bool false, .bool false, .bool false, .bool false, .bool false, .bool false, .bool false, .bool false, .bool false, .bool false, .bool false, .bool false, .bool false, .bool false, .bool false, .bool false, .bool false, .bool false, .bool false, .bool false, .bool false, .bool false, .bool false, .bool false, .bool false, .bool false, .bool false, .bool false, .bool false, .bool false, .bool false, .bool false, .bool false, .bool false, .bool false, .bool false, .bool false, .bool false, .bool false, .bool false, .bool false, .bool false, .bool false, .bool false, .bool false, .bool false, .bool false, .bool false, .bool false, .bool false, .bool false, .bool false, .bool false, .bool false, .bool false, .bool false, .bool false, .bool false]⟩ := by kernel_rfl
theorem se101 : sliceElem Tryz.prog 101 = none := by kernel_rfl
theorem ae101 : arrayE Tryz.prog 101 = some (256, 4, 1) := by kernel_rfl
theorem ti107 : tiOf Tryz.prog 107 = some ⟨.ptr 101, 1, 8, [.nilp]⟩ := by kernel_rfl
theorem ti108 : tiOf Tryz.prog 108 = some ⟨.int .u64, 1, 8, [.int .u64 0]⟩ := by kernel_rfl
theorem ie108 : intE Tryz.prog 108 = some .u64 := by kernel_rfl
theorem it108 : intT Tryz.prog 108 = some .u64 := by kernel_rfl
theorem st108 : isStrT Tryz.prog 108 = false := by kernel_rfl
theorem ti118 : tiOf Tryz.prog 118 = some ⟨.array 24 5, 24, 24, [.int .u8 0, .int .u8 0, .int .u8 0, .int .u8 0, .int .u8 0, .int .u8 0, .int .u8 0, .int .u8 0, .int .u8 0, .int .u8 0, .int .u8 0, .int .u8 0, .int .u8 0, .int .u8 0, .int .u8 0, .int .u8 0, .int .u8 0, .int .u8 0, .int .u8 0, .int .u8 0, .int .u8 0, .int .u8 0, .int .u8 0, .int .u8 0]⟩ := by kernel_rfl
theorem se118 : sliceElem Tryz.prog 118 = none := by kernel_rfl
theorem ae118 : arrayE Tryz.prog 118 = some (24, 5, 1) := by kernel_rfl
theorem ti125 : tiOf Tryz.prog 125 = some ⟨.array 20 108, 20, 160, [.int .u64 0, .int .u64 0, .int .u64 0, .int .u64 0, .int .u64 0, .int .u64 0, .int .u64 0, .int .u64 0, .int .u64 0, .int .u64 0, .int .u64 0, .int .u64 0, .int .u64 0, .int .u64 0, .int .u64 0, .int .u64 0, .int .u64 0, .int .u64 0, .int .u64 0, .int .u64 0]⟩ := by kernel_rfl
theorem se125 : sliceElem Tryz.prog 125 = none := by kernel_rfl
theorem ae125 : arrayE Tryz.prog 125 = some (20, 108, 1) := by kernel_rfl
theorem ti126 : tiOf Tryz.prog 126 = some ⟨.int .u32, 1, 4, [.int .u32 0]⟩ := by kernel_rfl
theorem ie126 : intE Tryz.prog 126 = some .u32 := by kernel_rfl
theorem it126 : intT Tryz.prog 126 = some .u32 := by kernel_rfl
theorem st126 : isStrT Tryz.prog 126 = false := by kernel_rfl
theorem ti127 : tiOf Tryz.prog 127 = some ⟨.array 65 5, 65, 65, [.int .u8 0, .int .u8 0, .int .u8 0, .int .u8 0, .int .u8 0, .int .u8 0, .int .u8 0, .int .u8 0, .int .u8 0, .int .u8 0, .int .u8 0, .int .u8 0, .int .u8 0, .int .u8 0, .int .u8 0, .int .u8 0, .int .u8 0, .int .u8 0, .int .u8 0, .int .u8 0, .int .u8 0, .int .u8 0, .int .u8 0, .int .u8 0, .int .u8 0, .int .u8 0, .int .u8 0, .int .u8 0, .int .u8 0, .int .u8 0, .int .u8 0, .int .u8 0, .int .u8 0, .int .u8 0, .int .u8 0, .int .u8 0, .int .u8 0, .int .u8 0, .int .u8 0, .int .u8 0, .int .u8 0, .int .u8 0, .int .u8 0, .int .u8 0, .int .u8 0, .int .u8 0, .int .u8 0, .int .u8 0, .int .u8 0, .int .u8 0, .int .u8 0, .int .u8 0, .int .u8 0, .int .u8 0, .int .u8 0, .int .u8 0, .int .u8 0, .int .u8 0, .int .u8 0, .int .u8 0, .int .u8 0, .int .u8 0, .int .u8 0, .int .u8 0, .int .u8 0]⟩ := by kernel_rfl
theorem se127 : sliceElem Tryz.prog 127 = none := by kernel_rfl
theorem ae127 : arrayE Tryz.prog 127 = some (65, 5, 1) := by kernel_rfl
theorem ti132 : tiOf Tryz.prog 132 = some ⟨.array 32 5, 32, 32, [.int .u8 0, .int .u8 0, .int .u8 0, .int .u8 0, .int .u8 0, .int .u8 0, .int .u8 0, .int .u8 0, .int .u8 0, .int .u8 0, .int .u8 0, .int .u8 0, .int .u8 0, .int .u8 0, .int .u8 0, .int .u8 0, .int .u8 0, .int .u8 0, .int .u8 0, .int .u8 0, .int .u8 0, .int .u8 0, .int .u8 0, .int .u8 0, .int .u8 0, .int .u8 0, .int .u8 0, .int .u8 0, .int .u8 0, .int .u8 0, .int .u8 0, .int .u8 0]⟩ := by kernel_rfl
theorem se132 : sliceElem Tryz.prog 132 = none := by kernel_rfl
theorem ae132 : arrayE Tryz.prog 132 = some (32, 5, 1) := by kernel_rfl
theorem ti133 : tiOf Tryz.prog 133 = some ⟨.array 64 5, 64, 64, [.int .u8 0, .int .u8 0, .int .u8 0, .int .u8 0, .int .u8 0, .int .u8 0, .int .u8 0, .int .u8 0, .int .u8 0, .int .u8 0, .int .u8 0, .int .u8 0, .int .u8 0, .int .u8 0, .int .u8 0, .int .u8 0, .int .u8 0, .int .u8 0, .int .u8 0, .int .u8 0, .int .u8 0, .int .u8 0, .int .u8 0, .int .u8 0, .int .u8 0, .int .u8 0, .int .u8 0, .int .u8 0, .int .u8 0, .int .u8 0, .int .u8 0, .int .u8 0, .int .u8 0, .int .u8 0, .int .u8 0, .int .u8 0, .int .u8 0, .int .u8 0, .int .u8 0, .int .u8 0, .int .u8 0, .int .u8 0, .int .u8 0, .int .u8 0, .int .u8 0, .int .u8 0, .int .u8 0, .int .u8 0, .int .u8 0, .int .u8 0, .int .u8 0, .int .u8 0, .int .u8 0, .int .u8 0, .int .u8 0, .int .u8 0, .int .u8 0, .int .u8 0, .int .u8 0, .int .u8 0, .int .u8 0, .int .u8 0, .int .u8 0, .int .u8 0]⟩ := by kernel_rfl
theorem se133 : sliceElem Tryz.prog 133 = none := by kernel_rfl
theorem ae133 : arrayE Tryz.prog 133 = some (64, 5, 1) := by kernel_rfl
theorem ti135 : tiOf Tryz.prog 135 = some ⟨.struct [(0, 17, 1), (1, 17, 1), (2, 17, 1), (3, 9, 1)], 4, 40, [.nilp, .nilp, .nilp, .str .empty]⟩ := by kernel_rfl
theorem sf135_0 : structF Tryz.prog 135 0 = some (0, 17, 1) := by kernel_rfl
theorem sf135_1 : structF Tryz.prog 135 1 = some (1, 17, 1) := by kernel_rfl
theorem sf135_2 : structF Tryz.prog 135 2 = some (2, 17, 1) := by kernel_rfl
theorem sf135_3 : structF Tryz.prog 135 3 = some (3, 9, 1) := by kernel_rfl
theorem ti136 : tiOf Tryz.prog 136 = some ⟨.array 0 16, 0, 0, []⟩ := by kernel_rfl
theorem se136 : sliceElem Tryz.prog 136 = none := by kernel_rfl
theorem ae136 : arrayE Tryz.prog 136 = some (0, 16, 1) := by kernel_rfl
theorem ti138 : tiOf Tryz.prog 138 = some ⟨.struct [(0, 136, 0)], 0, 0, []⟩ := by kernel_rfl
theorem sf138_0 : structF Tryz.prog 138 0 = some (0, 136, 0) := by kernel_rfl
theorem ti139 : tiOf Tryz.prog 139 = some ⟨.int .u8, 1, 1, [.int .u8 0]⟩ := by kernel_rfl
theorem ie139 : intE Tryz.prog 139 = some .u8 := by kernel_rfl
theorem it139 : intT Tryz.prog 139 = some .u8 := by kernel_rfl
theorem st139 : isStrT Tryz.prog 139 = false := by kernel_rfl
theorem ti140 : tiOf Tryz.prog 140 = some ⟨.int .u8, 1, 1, [.int .u8 0]⟩ := by kernel_rfl
theorem ie140 : intE Tryz.prog 140 = some .u8 := by kernel_rfl
theorem it140 : intT Tryz.prog 140 = some .u8 := by kernel_rfl
theorem st140 : isStrT Tryz.prog 140 = false := by kernel_rfl
theorem ti142 : tiOf Tryz.prog 142 = some ⟨.int .i32, 1, 4, [.int .i32 0]⟩ := by kernel_rfl
theorem ie142 : intE Tryz.prog 142 = some .i32 := by kernel_rfl
theorem it142 : intT Tryz.prog 142 = some .i32 := by kernel_rfl
theorem st142 : isStrT Tryz.prog 142 = false := by kernel_rfl
theorem ti143 : tiOf Tryz.prog 143 = some ⟨.int .i32, 1, 4, [.int .i32 0]⟩ := by kernel_rfl
theorem ie143 : intE Tryz.prog 143 = some .i32 := by kernel_rfl
theorem it143 : intT Tryz.prog 143 = some .i32 := by kernel_rfl
theorem st143 : isStrT Tryz.prog 143 = false := by kernel_rfl
theorem go3 : goFn Tryz.prog 3 = true := by kernel_rfl
theorem go4 : goFn Tryz.prog 4 = true := by kernel_rfl
theorem go5 : goFn Tryz.prog 5 = true := by kernel_rfl
theorem go6 : goFn Tryz.prog 6 = true := by kernel_rfl
theorem go7 : goFn Tryz.prog 7 = true := by kernel_rfl
theorem go8 : goFn Tryz.prog 8 = true := by kernel_rfl
theorem go9 : goFn Tryz.prog 9 = true := by kernel_rfl
theorem go10 : goFn Tryz.prog 10 = true := by kernel_rfl
theorem go11 : goFn Tryz.prog 11 = true := by kernel_rfl
theorem go12 : goFn Tryz.prog 12 = true := by kernel_rfl
theorem go13 : goFn Tryz.prog 13 = true := by kernel_rfl
theorem go14 : goFn Tryz.prog 14 = true := by kernel_rfl
theorem go15 : goFn Tryz.prog 15 = true := by kernel_rfl
theorem go16 : goFn Tryz.prog 16 = true := by kernel_rfl
theorem go17 : goFn Tryz.prog 17 = true := by kernel_rfl
theorem go18 : goFn Tryz.prog 18 = true := by kernel_rfl
theorem go19 : goFn Tryz.prog 19 = true := by kernel_rfl
theorem go20 : goFn Tryz.prog 20 = true := by kernel_rfl
theorem go21 : goFn Tryz.prog 21 = true := by kernel_rfl
theorem go22 : goFn Tryz.prog 22 = true := by kernel_rfl
theorem go23 : goFn Tryz.prog 23 = true := by kernel_rfl
theorem go24 : goFn Tryz.prog 24 = true := by kernel_rfl
theorem go25 : goFn Tryz.prog 25 = true := by kernel_rfl
theorem go26 : goFn Tryz.prog 26 = true := by kernel_rfl
theorem go27 : goFn Tryz.prog 27 = true := by kernel_rfl
theorem go28 : goFn Tryz.prog 28 = true := by kernel_rfl
theorem go29 : goFn Tryz.prog 29 = true := by kernel_rfl
theorem go30 : goFn Tryz.prog 30 = true := by kernel_rfl
theorem go31 : goFn Tryz.prog 31 = true := by kernel_rfl
theorem go32 : goFn Tryz.prog 32 = true := by kernel_rfl
theorem go33 : goFn Tryz.prog 33 = true := by kernel_rfl
theorem go34 : goFn Tryz.prog 34 = true := by kernel_rfl
theorem go35 : goFn Tryz.prog 35 = true := by kernel_rfl
theorem go36 : goFn Tryz.prog 36 = true := by kernel_rfl
theorem go37 : goFn Tryz.prog 37 = true := by kernel_rfl
theorem go38 : goFn Tryz.prog 38 = true := by kernel_rfl
theorem go39 : goFn Tryz.prog 39 = true := by kernel_rfl
theorem go40 : goFn Tryz.prog 40 = true := by kernel_rfl
theorem go41 : goFn Tryz.prog 41 = true := by kernel_rfl
theorem go42 : goFn Tryz.prog 42 = true := by kernel_rfl
theorem go43 : goFn Tryz.prog 43 = true := by kernel_rfl
theorem go44 : goFn Tryz.prog 44 = true := by kernel_rfl
theorem go45 : goFn Tryz.prog 45 = true := by kernel_rfl
theorem go46 : goFn Tryz.prog 46 = true := by kernel_rfl
theorem go47 : goFn Tryz.prog 47 = true := by kernel_rfl
theorem go48 : goFn Tryz.prog 48 = true := by kernel_rfl
theorem go49 : goFn Tryz.prog 49 = true := by kernel_rfl
theorem go51 : goFn Tryz.prog 51 = true := by kernel_rfl
theorem go52 : goFn Tryz.prog 52 = true := by kernel_rfl
theorem go53 : goFn Tryz.prog 53 = true := by kernel_rfl
theorem go54 : goFn Tryz.prog 54 = true := by kernel_rfl
theorem go55 : goFn Tryz.prog 55 = true := by kernel_rfl
theorem go56 : goFn Tryz.prog 56 = true := by kernel_rfl
theorem go57 : goFn Tryz.prog 57 = true := by kernel_rfl
theorem go61 : goFn Tryz.prog 61 = true := by kernel_rfl
theorem go62 : goFn Tryz.prog 62 = true := by kernel_rfl
theorem go63 : goFn Tryz.prog 63 = true := by kernel_rfl
theorem go64 : goFn Tryz.prog 64 = true := by kernel_rfl
theorem go65 : goFn Tryz.prog 65 = true := by kernel_rfl
theorem go66 : goFn Tryz.prog 66 = true := by kernel_rfl
theorem go67 : goFn Tryz.prog 67 = true := by kernel_rfl
theorem go68 : goFn Tryz.prog 68 = true := by kernel_rfl
theorem go69 : goFn Tryz.prog 69 = true := by kernel_rfl
theorem go77 : goFn Tryz.prog 77 = true := by kernel_rfl
theorem go82 : goFn Tryz.prog 82 = true := by kernel_rfl
theorem go83 : goFn Tryz.prog 83 = true := by kernel_rfl
theorem go84 : goFn Tryz.prog 84 = true := by kernel_rfl
theorem go85 : goFn Tryz.prog 85 = true := by kernel_rfl
theorem go90 : goFn Tryz.prog 90 = true := by kernel_rfl
theorem go94 : goFn Tryz.prog 94 = true := by kernel_rfl
theorem go96 : goFn Tryz.prog 96 = true := by kernel_rfl
theorem go98 : goFn Tryz.prog 98 = true := by kernel_rfl
set_option linter.defProp false in
def awF :=
 (And.intro (And.intro (And.intro (And.intro (And.intro (And.intro (And.intro ti2
 ie2)
 (And.intro it2
 (And.intro st2
 ti3)))
 (And.intro (And.intro ie3
 it3)
 (And.intro st3
 (And.intro ti4
 bt4))))
 (And.intro (And.intro (And.intro ti5
 ie5)
 (And.intro it5
 (And.intro st5
 ti6)))
 (And.intro (And.intro ie6
 it6)
 (And.intro st6
 (And.intro ti8
 sf8_0)))))
 (And.intro (And.intro (And.intro (And.intro sf8_1
 sf8_2)
 (And.intro sf8_3
 (And.intro ti9
 st9)))
 (And.intro (And.intro ap9
 it9)
 (And.intro ti10
 (And.intro st10
 ap10))))
 (And.intro (And.intro (And.intro it10
 ti11)
 (And.intro st11
 (And.intro ap11
 it11)))
 (And.intro (And.intro ti12
 ie12)
 (And.intro it12
 (And.intro st12
 ti14))))))
 (And.intro (And.intro (And.intro (And.intro (And.intro sf14_0
 sf14_1)
 (And.intro ti15
 (And.intro ti16
 ti17)))
 (And.intro (And.intro ti19
 sf19_0)
 (And.intro ti21
 (And.intro ie21
 it21))))
 (And.intro (And.intro (And.intro st21
 ti22)
 (And.intro se22
 (And.intro sz22
 ap22)))
 (And.intro (And.intro st22
 ti24)
 (And.intro sf24_0
 (And.intro sf24_1
 sf24_2)))))
 (And.intro (And.intro (And.intro (And.intro ti26
 ti29)
 (And.intro se29
 (And.intro sz29
 ap29)))
 (And.intro (And.intro st29
 ti31)
 (And.intro sf31_0
 (And.intro ti34
 se34))))
 (And.intro (And.intro (And.intro sz34
 ap34)
 (And.intro st34
 (And.intro ti35
 ie35)))
 (And.intro (And.intro it35
 st35)
 (And.intro ti39
 (And.intro se39
 sz39)))))))
 (And.intro (And.intro (And.intro (And.intro (And.intro (And.intro ap39
 st39)
 (And.intro ti46
 (And.intro sf46_0
 sf46_1)))
 (And.intro (And.intro ti55
 ti57)
 (And.intro sf57_0
 (And.intro sf57_1
 ti68))))
 (And.intro (And.intro (And.intro ti70
 sf70_0)
 (And.intro sf70_1
 (And.intro ti84
 ti90)))
 (And.intro (And.intro se90
 ae90)
 (And.intro ti92
 (And.intro sf92_0
 sf92_1)))))
 (And.intro (And.intro (And.intro (And.intro ti93
 se93)
 (And.intro ae93
 (And.intro ti94
 ie94)))
 (And.intro (And.intro it94
 st94)
 (And.intro ti101
 (And.intro se101
 ae101))))
 (And.intro (And.intro (And.intro ti107
 ti108)
 (And.intro ie108
 (And.intro it108
 st108)))
 (And.intro (And.intro ti118
 se118)
 (And.intro ae118
 (And.intro ti125
 se125))))))
 (And.intro (And.intro (And.intro (And.intro (And.intro ae125
 ti126)
 (And.intro ie126
 (And.intro it126
 st126)))
 (And.intro (And.intro ti127
 se127)
 (And.intro ae127
 (And.intro ti132
 se132))))
 (And.intro (And.intro (And.intro ae132
 ti133)
 (And.intro se133
 (And.intro ae133
 ti135)))
 (And.intro (And.intro sf135_0
 sf135_1)
 (And.intro sf135_2
 (And.intro sf135_3
 ti136)))))
 (And.intro (And.intro (And.intro (And.intro se136
 ae136)
 (And.intro ti138
 (And.intro sf138_0
 ti139)))
 (And.intro (And.intro ie139
 it139)
 (And.intro st139
 (And.intro ti140
 ie140))))
 (And.intro (And.intro (And.intro it140
 st140)
 (And.intro ti142
 (And.intro ie142
 it142)))
 (And.intro (And.intro st142
 ti143)
 (And.intro ie143
 (And.intro it143
 st143))))))))
theorem hmix : Tryz.prog.follows .mixedOrders = true := by kernel_rfl
end Go.Proofs.YtjjanbljkoaojaaGreatDoor

namespace Go.Proofs.YtjjanbljkoaojaaGreatDoor
open Go Go.Proofs Go.Abs Go.RowKit Go.Shelf
variable {G : Globals}
/-! utf8.ValidString, out of the kit's contract; its tables. -/
abbrev M0 : Muts := fun _ => false
abbrev S (l : List UInt8) : D := .str (bs l)
def firstDs : List D := (List.range 256).map fun c => .int .u8 (Lib.firstT c)
def accDs : List D := (List.range 32).map fun i => .int .u8 (if i % 2 = 0 then Lib.accLo (i / 2) else Lib.accHi (i / 2) : Nat)
/-- The tables of utf8 are laid. -/
def HT (G : Globals) : Prop := G 0 = some firstDs ∧ G 1 = some accDs
def Tryz.laysValid_ren : Go.Shelf.Ren := ⟨fun | 196 => 46 | 259 => 58 | n => n, fun | 9 => 9 | 4 => 4 | 3 => 3 | 5 => 5 | 12 => 12 | 119 => 90 | 0 => 0 | 46 => 94 | 139 => 93 | 138 => 92 | 53 => 108 | n => n, fun | 3 => 0 | 4 => 1 | n => n⟩
theorem Tryz.laysValid : Go.Proofs.Lays.n196 Tryz.prog Tryz.laysValid_ren where
  mixed := by kernel_rfl
  f196 := Tryz.func46.trans (congrArg some (by kernel_rfl))
  f259 := Tryz.func58.trans (congrArg some (by kernel_rfl))
  t0 := Tryz.underlying0
  a0 := Tryz.isAgg0
  z0 := Tryz.sizeOf0
  v0 := Tryz.zeroValue0
  t3 := Tryz.underlying3
  a3 := Tryz.isAgg3
  z3 := Tryz.sizeOf3
  v3 := Tryz.zeroValue3
  t4 := Tryz.underlying4
  a4 := Tryz.isAgg4
  z4 := Tryz.sizeOf4
  v4 := Tryz.zeroValue4
  t5 := Tryz.underlying5
  a5 := Tryz.isAgg5
  z5 := Tryz.sizeOf5
  v5 := Tryz.zeroValue5
  t9 := Tryz.underlying9
  a9 := Tryz.isAgg9
  z9 := Tryz.sizeOf9
  v9 := Tryz.zeroValue9
  t12 := Tryz.underlying12
  a12 := Tryz.isAgg12
  z12 := Tryz.sizeOf12
  v12 := Tryz.zeroValue12
  t46 := Tryz.underlying94
  a46 := Tryz.isAgg94
  z46 := Tryz.sizeOf94
  v46 := Tryz.zeroValue94
  t53 := Tryz.underlying108
  a53 := Tryz.isAgg108
  z53 := Tryz.sizeOf108
  v53 := Tryz.zeroValue108
  t119 := Tryz.underlying90
  a119 := Tryz.isAgg90
  z119 := Tryz.sizeOf90
  t138 := Tryz.underlying92
  a138 := Tryz.isAgg92
  z138 := Tryz.sizeOf92
  v138 := Tryz.zeroValue92
  t139 := Tryz.underlying93
  a139 := Tryz.isAgg93
  z139 := Tryz.sizeOf93
  v139 := Tryz.zeroValue93
  g3 := by kernel_rfl
  g4 := by kernel_rfl

theorem tab_cell {h : Held} {ρ : Abs.Place} {H : Heap} {w : World} {g : Nat} {l : List Int} (s : Sim G h ρ H w) (e : G g = some (ints .u8 l)) {i : Nat} (hi : i < l.length) : w.cell? ⟨g, i, none⟩ = some (.int .u8 (l.getD i 0)) := by
  obtain ⟨vs, h1, h2⟩ := s.glob g _ e
  have hx : (ints .u8 l)[i]? = some (.int .u8 (l.getD i 0)) := by simp [ints, hi, List.getD_eq_getElem?_getD]
  have := s.prom _ _ _ (h1 i _ hx)
  rw [this]
  have r := h2 i _ hx
  generalize vs i = v at r
  cases r
  rfl
theorem firstDs_eq : firstDs = ints .u8 ((List.range 256).map fun c => (Lib.firstT c : Int)) := by simp [firstDs, ints]
theorem accDs_eq : accDs = ints .u8 ((List.range 32).map fun i => ((if i % 2 = 0 then Lib.accLo (i / 2) else Lib.accHi (i / 2) : Nat) : Int)) := by simp [accDs, ints]
theorem tabs_of {h : Held} {ρ : Abs.Place} {H : Heap} {w : World} (hT : HT G) (s : Sim G h ρ H w) : Lib.Utf8Tabs 0 1 w := by
  obtain ⟨e1, e2⟩ := hT
  rw [firstDs_eq] at e1
  rw [accDs_eq] at e2
  refine ⟨fun c hc => ?_, fun i hi => ⟨?_, ?_⟩⟩
  · rw [tab_cell s e1 (by simpa using hc)]
    simp [List.getD_eq_getElem?_getD, hc]
  · rw [tab_cell s e2 (by simp; omega)]
    simp [List.getD_eq_getElem?_getD, show 2 * i < 32 by omega]
  · rw [tab_cell s e2 (by simp; omega)]
    simp [List.getD_eq_getElem?_getD, show 2 * i + 1 < 32 by omega, show (2 * i + 1) % 2 = 1 by omega, show (2 * i + 1) / 2 = i by omega]
theorem validS_spec (hT : HT G) (l : List UInt8) (hl : l.length ≤ 9223372036854775807) : Ctr Tryz.prog G 46 [.d (S l)] [] (.d (.bool (Lib.validD l))) [] := by
  refine Ctr.of_calls go46 fun h ρ w vs q r => ?_
  obtain ⟨v, rfl, hv⟩ := r.inv1
  rw [hv.str_inv]
  refine (Any.utf8_ValidString Tryz.laysValid (bs l) w (by rw [bs_size]; exact hl) (tabs_of hT q)).mono ?_
  rintro e w' ⟨rfl, hb⟩
  exact ⟨_, rfl, .bool _, hb⟩
theorem tvalid_spec (hT : HT G) (l : List UInt8) (hl : l.length ≤ 9223372036854775807) : Ctr Tryz.prog G 25 [.d (S l)] [] (.d (.bool (Lib.validD l))) [] := by
  refine Ctr.pure (M := M0) hmix Tryz.func25 rfl go25 ?_
  simp (config := { maxSteps := 1000000 }) (disch := ((try simp only [awL]); omega)) only [Tryz.f25, ↓awU, awV, awF, ofVal, ofVal0, isShift, aggK, forall_const, ↓reduceIte, ↓reduceDIte, ↓purePost, combine, idsA, cellsA, numsOf, srcA, calleeA, refsA, isScalar, scalarD, scalar0, AV.one, putL, unfA, implies_true, IntKind.signed, Nat.reduceAdd, Nat.reduceSub, Nat.reduceMul, Nat.reducePow, Nat.reduceDiv, Nat.reduceMod, Int.reduceAdd, Int.reduceSub, Int.reduceMul, Int.reducePow, Int.reduceNeg, Int.reduceToNat, Int.reduceLT, Int.reduceLE, Nat.reduceEqDiff, sidsB, Nat.reduceBEq, keyKD, isIntK, aggD, aggL, eqKs]
  refine CallC.pure (validS_spec hT l hl) ?_
  simp (config := { maxSteps := 1000000 }) (disch := ((try simp only [awL]); omega)) only [↓awU, awV, awF, ofVal, ofVal0, isShift, aggK, forall_const, ↓reduceIte, ↓reduceDIte, ↓purePost, combine, idsA, cellsA, numsOf, srcA, calleeA, refsA, isScalar, scalarD, scalar0, AV.one, putL, unfA, implies_true, IntKind.signed, Nat.reduceAdd, Nat.reduceSub, Nat.reduceMul, Nat.reducePow, Nat.reduceDiv, Nat.reduceMod, Int.reduceAdd, Int.reduceSub, Int.reduceMul, Int.reducePow, Int.reduceNeg, Int.reduceToNat, Int.reduceLT, Int.reduceLE, Nat.reduceEqDiff, sidsB, Nat.reduceBEq, keyKD, isIntK, aggD, aggL, eqKs]
theorem rvalidS_spec (hT : HT G) (l : List UInt8) (hl : l.length ≤ 9223372036854775807) : Ctr Tryz.prog G 32 [.d (S l)] [] (.d (.bool (Lib.validD l))) [] := by
  refine Ctr.pure (M := M0) hmix Tryz.func32 rfl go32 ?_
  simp (config := { maxSteps := 1000000 }) (disch := ((try simp only [awL]); omega)) only [Tryz.f32, ↓awU, awV, awF, ofVal, ofVal0, isShift, aggK, forall_const, ↓reduceIte, ↓reduceDIte, ↓purePost, combine, idsA, cellsA, numsOf, srcA, calleeA, refsA, isScalar, scalarD, scalar0, AV.one, putL, unfA, implies_true, IntKind.signed, Nat.reduceAdd, Nat.reduceSub, Nat.reduceMul, Nat.reducePow, Nat.reduceDiv, Nat.reduceMod, Int.reduceAdd, Int.reduceSub, Int.reduceMul, Int.reducePow, Int.reduceNeg, Int.reduceToNat, Int.reduceLT, Int.reduceLE, Nat.reduceEqDiff, sidsB, Nat.reduceBEq, keyKD, isIntK, aggD, aggL, eqKs]
  refine CallC.pure (validS_spec hT l hl) ?_
  simp (config := { maxSteps := 1000000 }) (disch := ((try simp only [awL]); omega)) only [↓awU, awV, awF, ofVal, ofVal0, isShift, aggK, forall_const, ↓reduceIte, ↓reduceDIte, ↓purePost, combine, idsA, cellsA, numsOf, srcA, calleeA, refsA, isScalar, scalarD, scalar0, AV.one, putL, unfA, implies_true, IntKind.signed, Nat.reduceAdd, Nat.reduceSub, Nat.reduceMul, Nat.reducePow, Nat.reduceDiv, Nat.reduceMod, Int.reduceAdd, Int.reduceSub, Int.reduceMul, Int.reducePow, Int.reduceNeg, Int.reduceToNat, Int.reduceLT, Int.reduceLE, Nat.reduceEqDiff, sidsB, Nat.reduceBEq, keyKD, isIntK, aggD, aggL, eqKs]
end Go.Proofs.YtjjanbljkoaojaaGreatDoor

namespace Go.Proofs.YtjjanbljkoaojaaGreatDoor
open Go Go.Proofs Go.Abs Go.RowKit Go.Shelf
variable {G : Globals}
/-! Texts: prefixes, cutting, the place of a byte, trimming, replacing. -/
def hasP (s p : List UInt8) : Bool := decide (s.take p.length = p)
theorem hasPrefix_spec (s p : List UInt8) : Ctr Tryz.prog G 84 [.d (S s), .d (S p)] [] (.d (.bool (hasP s p))) [] := by
  refine Ctr.pure (M := M0) hmix Tryz.func84 rfl go84 ?_
  simp (config := { maxSteps := 1000000 }) (disch := ((try simp only [awL]); omega)) only [Option.toList_some, Option.toList_none, nextC_more, nextC_over, bs_size, bs_extract, bs_toList, bs_append, byteAt_bs, bs_cells, nums_length, nums_getD, Tryz.f84, ↓awU, awV, awF, ofVal, ofVal0, isShift, aggK, forall_const, ↓reduceIte, ↓reduceDIte, ↓purePost, combine, idsA, cellsA, numsOf, srcA, calleeA, refsA, isScalar, scalarD, scalar0, AV.one, putL, unfA, implies_true, IntKind.signed, Nat.reduceAdd, Nat.reduceSub, Nat.reduceMul, Nat.reducePow, Nat.reduceDiv, Nat.reduceMod, Int.reduceAdd, Int.reduceSub, Int.reduceMul, Int.reducePow, Int.reduceNeg, Int.reduceToNat, Int.reduceLT, Int.reduceLE, Nat.reduceEqDiff, sidsB, Nat.reduceBEq, keyKD, isIntK, aggD, aggL, eqKs]
  refine ⟨fun _ => rfl, fun h => (decide_eq_false fun e => h ?_).symm⟩
  have := congrArg List.length e
  simp at this
  omega
set_option maxHeartbeats 1000000 in
set_option maxRecDepth 100000 in
theorem indexByte_calls (s : ByteArray) (c : Int) (w : World) :
    Calls Tryz.prog 55 #[.string s, .int .u8 c] w fun e w' => e = .returned (.int .i64 (Lib.indexByte s.data.toList c.toNat.toUInt8)) ∧ w' = w := by
  go_enter Tryz.func55, Tryz.ntmps55
  go_wp2
  rw [run_callFunc_extern Tryz.func70 (by kernel_rfl) (by kernel_rfl) (by kernel_rfl) (e := Extern.BytealgIndexByte.indexByte) (by kernel_rfl), Lib.run_indexByteString]
  simp only [Result.andThen]
  rw [Oper.upon_value]
  go_wp2
  go_ret
  exact ⟨rfl, rfl⟩
theorem indexByte_spec (s : List UInt8) (c : UInt8) : Ctr Tryz.prog G 55 [.d (S s), .d (.int .u8 c.toNat)] [] (.d (.int .i64 (Lib.indexByte s c))) [] := by
  refine Ctr.of_calls go55 fun h ρ w vs q r => ?_
  obtain ⟨v, u, rfl, hv, hu⟩ := r.inv2
  rw [hv.str_inv, hu.int_inv]
  refine (indexByte_calls (bs s) c.toNat w).mono ?_
  rintro e w' ⟨rfl, rfl⟩
  refine ⟨_, rfl, ?_, .refl _ _⟩
  have : ((c.toNat : Int)).toNat.toUInt8 = c := by simp
  rw [this]
  exact .int _ _
/-- Where a text is cut: in front of the byte, behind it. -/
def cutL (c : UInt8) : List UInt8 → List UInt8
  | [] => []
  | b :: l => if b = c then [] else b :: cutL c l
def cutR (c : UInt8) : List UInt8 → List UInt8
  | [] => []
  | b :: l => if b = c then l else cutR c l
theorem cut_index (c : UInt8) : ∀ s : List UInt8, (c ∈ s → ∃ k : Nat, Lib.indexByte s c = k ∧ k < s.length ∧ s.take k = cutL c s ∧ s.drop (k + 1) = cutR c s) ∧ (c ∉ s → Lib.indexByte s c = -1 ∧ cutL c s = s ∧ cutR c s = [])
  | [] => ⟨fun h => absurd h List.not_mem_nil, fun _ => ⟨rfl, rfl, rfl⟩⟩
  | b :: l => by
    obtain ⟨i1, i2⟩ := cut_index c l
    by_cases e : b = c
    · subst e
      refine ⟨fun _ => ⟨0, ?_, by simp, by simp [cutL], by simp [cutR]⟩, fun h => absurd (List.mem_cons_self ..) h⟩
      simp [Lib.indexByte]
    · have e2 : ¬ c = b := fun h => e h.symm
      refine ⟨fun h => ?_, fun h => ?_⟩
      · obtain ⟨k, h1, h2, h3, h4⟩ := i1 ((List.mem_cons.1 h).resolve_left e2)
        refine ⟨k + 1, ?_, by simpa using h2, by simp [cutL, e, h3], by simp [cutR, e, h4]⟩
        simp only [Lib.indexByte, h1]
        rw [if_neg (by simpa using e), if_neg (by simp)]
        omega
      · obtain ⟨h1, h2, h3⟩ := i2 (fun h2 => h (List.mem_cons_of_mem _ h2))
        refine ⟨?_, by simp [cutL, e, h2], by simp [cutR, e, h3]⟩
        simp only [Lib.indexByte, h1]
        rw [if_neg (by simpa using e), if_pos (by decide)]
theorem index1_spec (s : List UInt8) (c : UInt8) (hs : s.length < 2 ^ 62) : Ctr Tryz.prog G 94 [.d (S s), .d (S [c])] [] (.d (.int .i64 (Lib.indexByte s c))) [] := by
  refine Ctr.pure (M := M0) hmix Tryz.func94 rfl go94 ?_
  simp (config := { maxSteps := 1000000 }) (disch := ((try simp only [awL]); omega)) only [Option.toList_some, Option.toList_none, nextC_more, nextC_over, bs_size, bs_extract, bs_toList, bs_append, byteAt_bs, bs_cells, nums_length, nums_getD, Tryz.f94, ↓awU, awV, awF, ofVal, ofVal0, isShift, aggK, forall_const, ↓reduceIte, ↓reduceDIte, ↓purePost, combine, idsA, cellsA, numsOf, srcA, calleeA, refsA, isScalar, scalarD, scalar0, AV.one, putL, unfA, implies_true, IntKind.signed, Nat.reduceAdd, Nat.reduceSub, Nat.reduceMul, Nat.reducePow, Nat.reduceDiv, Nat.reduceMod, Int.reduceAdd, Int.reduceSub, Int.reduceMul, Int.reducePow, Int.reduceNeg, Int.reduceToNat, Int.reduceLT, Int.reduceLE, Nat.reduceEqDiff, sidsB, Nat.reduceBEq, keyKD, isIntK, aggD, aggL, eqKs]
  refine ⟨fun h => ?_, fun h => ?_⟩
  · rw [← h]; simp [Lib.indexByte]
  · refine CallC.pure (indexByte_spec s c) ?_
    simp (config := { maxSteps := 1000000 }) (disch := ((try simp only [awL]); omega)) only [Option.toList_some, Option.toList_none, nextC_more, nextC_over, bs_size, bs_extract, bs_toList, bs_append, byteAt_bs, bs_cells, nums_length, nums_getD, ↓awU, awV, awF, ofVal, ofVal0, isShift, aggK, forall_const, ↓reduceIte, ↓reduceDIte, ↓purePost, combine, idsA, cellsA, numsOf, srcA, calleeA, refsA, isScalar, scalarD, scalar0, AV.one, putL, unfA, implies_true, IntKind.signed, Nat.reduceAdd, Nat.reduceSub, Nat.reduceMul, Nat.reducePow, Nat.reduceDiv, Nat.reduceMod, Int.reduceAdd, Int.reduceSub, Int.reduceMul, Int.reducePow, Int.reduceNeg, Int.reduceToNat, Int.reduceLT, Int.reduceLE, Nat.reduceEqDiff, sidsB, Nat.reduceBEq, keyKD, isIntK, aggD, aggL, eqKs]
theorem cutS_spec (s : List UInt8) (c : UInt8) (hs : s.length < 2 ^ 62) : Ctr Tryz.prog G 96 [.d (S s), .d (S [c])] [] (.d (.tup [S (cutL c s), S (cutR c s), .bool (decide (c ∈ s))])) [] := by
  refine Ctr.pure (M := M0) hmix Tryz.func96 rfl go96 ?_
  simp (config := { maxSteps := 1000000 }) (disch := ((try simp only [awL]); omega)) only [Option.toList_some, Option.toList_none, nextC_more, nextC_over, bs_size, bs_extract, bs_toList, bs_append, byteAt_bs, bs_cells, nums_length, nums_getD, Tryz.f96, ↓awU, awV, awF, ofVal, ofVal0, isShift, aggK, forall_const, ↓reduceIte, ↓reduceDIte, ↓purePost, combine, idsA, cellsA, numsOf, srcA, calleeA, refsA, isScalar, scalarD, scalar0, AV.one, putL, unfA, implies_true, IntKind.signed, Nat.reduceAdd, Nat.reduceSub, Nat.reduceMul, Nat.reducePow, Nat.reduceDiv, Nat.reduceMod, Int.reduceAdd, Int.reduceSub, Int.reduceMul, Int.reducePow, Int.reduceNeg, Int.reduceToNat, Int.reduceLT, Int.reduceLE, Nat.reduceEqDiff, sidsB, Nat.reduceBEq, keyKD, isIntK, aggD, aggL, eqKs]
  refine CallC.pure (index1_spec s c hs) ?_
  obtain ⟨i1, i2⟩ := cut_index c s
  by_cases h : c ∈ s
  · obtain ⟨k, h1, h2, h3, h4⟩ := i1 h
    rw [h1, decide_eq_true h, ← h3, ← h4]
    simp (config := { maxSteps := 1000000 }) (disch := ((try simp only [awL]); omega)) only [Option.toList_some, Option.toList_none, nextC_more, nextC_over, bs_size, bs_extract, bs_toList, bs_append, byteAt_bs, bs_cells, nums_length, nums_getD, ↓awU, awV, awF, ofVal, ofVal0, isShift, aggK, forall_const, ↓reduceIte, ↓reduceDIte, ↓purePost, combine, idsA, cellsA, numsOf, srcA, calleeA, refsA, isScalar, scalarD, scalar0, AV.one, putL, unfA, implies_true, IntKind.signed, Nat.reduceAdd, Nat.reduceSub, Nat.reduceMul, Nat.reducePow, Nat.reduceDiv, Nat.reduceMod, Int.reduceAdd, Int.reduceSub, Int.reduceMul, Int.reducePow, Int.reduceNeg, Int.reduceToNat, Int.reduceLT, Int.reduceLE, Nat.reduceEqDiff, sidsB, Nat.reduceBEq, keyKD, isIntK, aggD, aggL, eqKs]
    rfl
  · obtain ⟨h1, h3, h4⟩ := i2 h
    rw [h1, decide_eq_false h, h3, h4]
    simp (config := { maxSteps := 1000000 }) (disch := ((try simp only [awL]); omega)) only [Option.toList_some, Option.toList_none, nextC_more, nextC_over, bs_size, bs_extract, bs_toList, bs_append, byteAt_bs, bs_cells, nums_length, nums_getD, ↓awU, awV, awF, ofVal, ofVal0, isShift, aggK, forall_const, ↓reduceIte, ↓reduceDIte, ↓purePost, combine, idsA, cellsA, numsOf, srcA, calleeA, refsA, isScalar, scalarD, scalar0, AV.one, putL, unfA, implies_true, IntKind.signed, Nat.reduceAdd, Nat.reduceSub, Nat.reduceMul, Nat.reducePow, Nat.reduceDiv, Nat.reduceMod, Int.reduceAdd, Int.reduceSub, Int.reduceMul, Int.reducePow, Int.reduceNeg, Int.reduceToNat, Int.reduceLT, Int.reduceLE, Nat.reduceEqDiff, sidsB, Nat.reduceBEq, keyKD, isIntK, aggD, aggL, eqKs]
theorem cut_spec (s : List UInt8) (c : UInt8) (hs : s.length < 2 ^ 62) : Ctr Tryz.prog G 83 [.d (S s), .d (S [c])] [] (.d (.tup [S (cutL c s), S (cutR c s), .bool (decide (c ∈ s))])) [] := by
  refine Ctr.pure (M := M0) hmix Tryz.func83 rfl go83 ?_
  simp (config := { maxSteps := 1000000 }) (disch := ((try simp only [awL]); omega)) only [Option.toList_some, Option.toList_none, nextC_more, nextC_over, bs_size, bs_extract, bs_toList, bs_append, byteAt_bs, bs_cells, nums_length, nums_getD, Tryz.f83, ↓awU, awV, awF, ofVal, ofVal0, isShift, aggK, forall_const, ↓reduceIte, ↓reduceDIte, ↓purePost, combine, idsA, cellsA, numsOf, srcA, calleeA, refsA, isScalar, scalarD, scalar0, AV.one, putL, unfA, implies_true, IntKind.signed, Nat.reduceAdd, Nat.reduceSub, Nat.reduceMul, Nat.reducePow, Nat.reduceDiv, Nat.reduceMod, Int.reduceAdd, Int.reduceSub, Int.reduceMul, Int.reducePow, Int.reduceNeg, Int.reduceToNat, Int.reduceLT, Int.reduceLE, Nat.reduceEqDiff, sidsB, Nat.reduceBEq, keyKD, isIntK, aggD, aggL, eqKs]
  refine CallC.pure (cutS_spec s c hs) ?_
  simp (config := { maxSteps := 1000000 }) (disch := ((try simp only [awL]); omega)) only [Option.toList_some, Option.toList_none, nextC_more, nextC_over, bs_size, bs_extract, bs_toList, bs_append, byteAt_bs, bs_cells, nums_length, nums_getD, ↓awU, awV, awF, ofVal, ofVal0, isShift, aggK, forall_const, ↓reduceIte, ↓reduceDIte, ↓purePost, combine, idsA, cellsA, numsOf, srcA, calleeA, refsA, isScalar, scalarD, scalar0, AV.one, putL, unfA, implies_true, IntKind.signed, Nat.reduceAdd, Nat.reduceSub, Nat.reduceMul, Nat.reducePow, Nat.reduceDiv, Nat.reduceMod, Int.reduceAdd, Int.reduceSub, Int.reduceMul, Int.reducePow, Int.reduceNeg, Int.reduceToNat, Int.reduceLT, Int.reduceLE, Nat.reduceEqDiff, sidsB, Nat.reduceBEq, keyKD, isIntK, aggD, aggL, eqKs]
theorem sHasPrefix_spec (s p : List UInt8) : Ctr Tryz.prog G 65 [.d (S s), .d (S p)] [] (.d (.bool (hasP s p))) [] := by
  refine Ctr.pure (M := M0) hmix Tryz.func65 rfl go65 ?_
  simp (config := { maxSteps := 1000000 }) (disch := ((try simp only [awL]); omega)) only [Option.toList_some, Option.toList_none, nextC_more, nextC_over, bs_size, bs_extract, bs_toList, bs_append, byteAt_bs, bs_cells, nums_length, nums_getD, Tryz.f65, ↓awU, awV, awF, ofVal, ofVal0, isShift, aggK, forall_const, ↓reduceIte, ↓reduceDIte, ↓purePost, combine, idsA, cellsA, numsOf, srcA, calleeA, refsA, isScalar, scalarD, scalar0, AV.one, putL, unfA, implies_true, IntKind.signed, Nat.reduceAdd, Nat.reduceSub, Nat.reduceMul, Nat.reducePow, Nat.reduceDiv, Nat.reduceMod, Int.reduceAdd, Int.reduceSub, Int.reduceMul, Int.reducePow, Int.reduceNeg, Int.reduceToNat, Int.reduceLT, Int.reduceLE, Nat.reduceEqDiff, sidsB, Nat.reduceBEq, keyKD, isIntK, aggD, aggL, eqKs]
  refine CallC.pure (hasPrefix_spec s p) ?_
  simp (config := { maxSteps := 1000000 }) (disch := ((try simp only [awL]); omega)) only [Option.toList_some, Option.toList_none, nextC_more, nextC_over, bs_size, bs_extract, bs_toList, bs_append, byteAt_bs, bs_cells, nums_length, nums_getD, ↓awU, awV, awF, ofVal, ofVal0, isShift, aggK, forall_const, ↓reduceIte, ↓reduceDIte, ↓purePost, combine, idsA, cellsA, numsOf, srcA, calleeA, refsA, isScalar, scalarD, scalar0, AV.one, putL, unfA, implies_true, IntKind.signed, Nat.reduceAdd, Nat.reduceSub, Nat.reduceMul, Nat.reducePow, Nat.reduceDiv, Nat.reduceMod, Int.reduceAdd, Int.reduceSub, Int.reduceMul, Int.reducePow, Int.reduceNeg, Int.reduceToNat, Int.reduceLT, Int.reduceLE, Nat.reduceEqDiff, sidsB, Nat.reduceBEq, keyKD, isIntK, aggD, aggL, eqKs]
theorem sIndexByte_spec (s : List UInt8) (c : UInt8) : Ctr Tryz.prog G 39 [.d (S s), .d (.int .u8 c.toNat)] [] (.d (.int .i64 (Lib.indexByte s c))) [] := by
  refine Ctr.pure (M := M0) hmix Tryz.func39 rfl go39 ?_
  simp (config := { maxSteps := 1000000 }) (disch := ((try simp only [awL]); omega)) only [Option.toList_some, Option.toList_none, nextC_more, nextC_over, bs_size, bs_extract, bs_toList, bs_append, byteAt_bs, bs_cells, nums_length, nums_getD, Tryz.f39, ↓awU, awV, awF, ofVal, ofVal0, isShift, aggK, forall_const, ↓reduceIte, ↓reduceDIte, ↓purePost, combine, idsA, cellsA, numsOf, srcA, calleeA, refsA, isScalar, scalarD, scalar0, AV.one, putL, unfA, implies_true, IntKind.signed, Nat.reduceAdd, Nat.reduceSub, Nat.reduceMul, Nat.reducePow, Nat.reduceDiv, Nat.reduceMod, Int.reduceAdd, Int.reduceSub, Int.reduceMul, Int.reducePow, Int.reduceNeg, Int.reduceToNat, Int.reduceLT, Int.reduceLE, Nat.reduceEqDiff, sidsB, Nat.reduceBEq, keyKD, isIntK, aggD, aggL, eqKs]
  refine CallC.pure (indexByte_spec s c) ?_
  simp (config := { maxSteps := 1000000 }) (disch := ((try simp only [awL]); omega)) only [Option.toList_some, Option.toList_none, nextC_more, nextC_over, bs_size, bs_extract, bs_toList, bs_append, byteAt_bs, bs_cells, nums_length, nums_getD, ↓awU, awV, awF, ofVal, ofVal0, isShift, aggK, forall_const, ↓reduceIte, ↓reduceDIte, ↓purePost, combine, idsA, cellsA, numsOf, srcA, calleeA, refsA, isScalar, scalarD, scalar0, AV.one, putL, unfA, implies_true, IntKind.signed, Nat.reduceAdd, Nat.reduceSub, Nat.reduceMul, Nat.reducePow, Nat.reduceDiv, Nat.reduceMod, Int.reduceAdd, Int.reduceSub, Int.reduceMul, Int.reducePow, Int.reduceNeg, Int.reduceToNat, Int.reduceLT, Int.reduceLE, Nat.reduceEqDiff, sidsB, Nat.reduceBEq, keyKD, isIntK, aggD, aggL, eqKs]
def Tryz.laysTrimLeft_ren : Go.Shelf.Ren := ⟨fun | 161 => 82 | 231 => 71 | 227 => 68 | 233 => 73 | 235 => 75 | 228 => 69 | 197 => 81 | 151 => 88 | 260 => 95 | 152 => 66 | 137 => 39 | 119 => 85 | 224 => 86 | 225 => 87 | 217 => 55 | 266 => 70 | n => n, fun | 9 => 9 | 4 => 4 | 3 => 3 | 5 => 5 | 117 => 102 | 116 => 101 | 0 => 0 | 124 => 107 | 105 => 110 | 21 => 21 | 119 => 90 | 46 => 94 | 139 => 93 | 138 => 92 | n => n, fun | 3 => 0 | 4 => 1 | n => n⟩
theorem Tryz.laysTrimLeft : Go.Proofs.Lays.n161 Tryz.prog Tryz.laysTrimLeft_ren where
  mixed := by kernel_rfl
  f119 := Tryz.func85.trans (congrArg some (by kernel_rfl))
  f137 := Tryz.func39.trans (congrArg some (by kernel_rfl))
  f151 := Tryz.func88.trans (congrArg some (by kernel_rfl))
  f152 := Tryz.func66.trans (congrArg some (by kernel_rfl))
  f161 := Tryz.func82.trans (congrArg some (by kernel_rfl))
  f197 := Tryz.func81.trans (congrArg some (by kernel_rfl))
  f217 := Tryz.func55.trans (congrArg some (by kernel_rfl))
  f224 := Tryz.func86.trans (congrArg some (by kernel_rfl))
  f225 := Tryz.func87.trans (congrArg some (by kernel_rfl))
  f227 := Tryz.func68.trans (congrArg some (by kernel_rfl))
  f228 := Tryz.func69.trans (congrArg some (by kernel_rfl))
  f231 := Tryz.func71.trans (congrArg some (by kernel_rfl))
  f233 := Tryz.func73.trans (congrArg some (by kernel_rfl))
  f235 := Tryz.func75.trans (congrArg some (by kernel_rfl))
  f260 := Tryz.func95.trans (congrArg some (by kernel_rfl))
  f266 := Tryz.func70.trans (congrArg some (by kernel_rfl))
  t0 := Tryz.underlying0
  a0 := Tryz.isAgg0
  z0 := Tryz.sizeOf0
  v0 := Tryz.zeroValue0
  t3 := Tryz.underlying3
  a3 := Tryz.isAgg3
  z3 := Tryz.sizeOf3
  v3 := Tryz.zeroValue3
  t4 := Tryz.underlying4
  a4 := Tryz.isAgg4
  z4 := Tryz.sizeOf4
  v4 := Tryz.zeroValue4
  t5 := Tryz.underlying5
  a5 := Tryz.isAgg5
  z5 := Tryz.sizeOf5
  v5 := Tryz.zeroValue5
  t9 := Tryz.underlying9
  a9 := Tryz.isAgg9
  z9 := Tryz.sizeOf9
  v9 := Tryz.zeroValue9
  t21 := Tryz.underlying21
  a21 := Tryz.isAgg21
  z21 := Tryz.sizeOf21
  v21 := Tryz.zeroValue21
  t46 := Tryz.underlying94
  a46 := Tryz.isAgg94
  z46 := Tryz.sizeOf94
  v46 := Tryz.zeroValue94
  t105 := Tryz.underlying110
  a105 := Tryz.isAgg110
  z105 := Tryz.sizeOf110
  v105 := Tryz.zeroValue110
  t116 := Tryz.underlying101
  a116 := Tryz.isAgg101
  z116 := Tryz.sizeOf101
  t117 := Tryz.underlying102
  a117 := Tryz.isAgg102
  z117 := Tryz.sizeOf102
  v117 := Tryz.zeroValue102
  t119 := Tryz.underlying90
  a119 := Tryz.isAgg90
  z119 := Tryz.sizeOf90
  t124 := Tryz.underlying107
  a124 := Tryz.isAgg107
  z124 := Tryz.sizeOf107
  v124 := Tryz.zeroValue107
  t138 := Tryz.underlying92
  a138 := Tryz.isAgg92
  z138 := Tryz.sizeOf92
  v138 := Tryz.zeroValue92
  t139 := Tryz.underlying93
  a139 := Tryz.isAgg93
  z139 := Tryz.sizeOf93
  v139 := Tryz.zeroValue93
  g3 := by kernel_rfl
  g4 := by kernel_rfl

def Tryz.laysTrimRight_ren : Go.Shelf.Ren := ⟨fun | 162 => 64 | 232 => 72 | 227 => 68 | 234 => 74 | 236 => 76 | 228 => 69 | 271 => 89 | 151 => 88 | 120 => 97 | 197 => 81 | 152 => 66 | 260 => 95 | 137 => 39 | 119 => 85 | 224 => 86 | 225 => 87 | 217 => 55 | 266 => 70 | n => n, fun | 9 => 9 | 4 => 4 | 3 => 3 | 5 => 5 | 117 => 102 | 116 => 101 | 0 => 0 | 124 => 107 | 21 => 21 | 105 => 110 | 46 => 94 | 119 => 90 | 139 => 93 | 138 => 92 | n => n, fun | 3 => 0 | 4 => 1 | n => n⟩
theorem Tryz.laysTrimRight : Go.Proofs.Lays.n162 Tryz.prog Tryz.laysTrimRight_ren where
  mixed := by kernel_rfl
  f119 := Tryz.func85.trans (congrArg some (by kernel_rfl))
  f120 := Tryz.func97.trans (congrArg some (by kernel_rfl))
  f137 := Tryz.func39.trans (congrArg some (by kernel_rfl))
  f151 := Tryz.func88.trans (congrArg some (by kernel_rfl))
  f152 := Tryz.func66.trans (congrArg some (by kernel_rfl))
  f162 := Tryz.func64.trans (congrArg some (by kernel_rfl))
  f197 := Tryz.func81.trans (congrArg some (by kernel_rfl))
  f217 := Tryz.func55.trans (congrArg some (by kernel_rfl))
  f224 := Tryz.func86.trans (congrArg some (by kernel_rfl))
  f225 := Tryz.func87.trans (congrArg some (by kernel_rfl))
  f227 := Tryz.func68.trans (congrArg some (by kernel_rfl))
  f228 := Tryz.func69.trans (congrArg some (by kernel_rfl))
  f232 := Tryz.func72.trans (congrArg some (by kernel_rfl))
  f234 := Tryz.func74.trans (congrArg some (by kernel_rfl))
  f236 := Tryz.func76.trans (congrArg some (by kernel_rfl))
  f260 := Tryz.func95.trans (congrArg some (by kernel_rfl))
  f266 := Tryz.func70.trans (congrArg some (by kernel_rfl))
  f271 := Tryz.func89.trans (congrArg some (by kernel_rfl))
  t0 := Tryz.underlying0
  a0 := Tryz.isAgg0
  z0 := Tryz.sizeOf0
  v0 := Tryz.zeroValue0
  t3 := Tryz.underlying3
  a3 := Tryz.isAgg3
  z3 := Tryz.sizeOf3
  v3 := Tryz.zeroValue3
  t4 := Tryz.underlying4
  a4 := Tryz.isAgg4
  z4 := Tryz.sizeOf4
  v4 := Tryz.zeroValue4
  t5 := Tryz.underlying5
  a5 := Tryz.isAgg5
  z5 := Tryz.sizeOf5
  v5 := Tryz.zeroValue5
  t9 := Tryz.underlying9
  a9 := Tryz.isAgg9
  z9 := Tryz.sizeOf9
  v9 := Tryz.zeroValue9
  t21 := Tryz.underlying21
  a21 := Tryz.isAgg21
  z21 := Tryz.sizeOf21
  v21 := Tryz.zeroValue21
  t46 := Tryz.underlying94
  a46 := Tryz.isAgg94
  z46 := Tryz.sizeOf94
  v46 := Tryz.zeroValue94
  t105 := Tryz.underlying110
  a105 := Tryz.isAgg110
  z105 := Tryz.sizeOf110
  v105 := Tryz.zeroValue110
  t116 := Tryz.underlying101
  a116 := Tryz.isAgg101
  z116 := Tryz.sizeOf101
  t117 := Tryz.underlying102
  a117 := Tryz.isAgg102
  z117 := Tryz.sizeOf102
  v117 := Tryz.zeroValue102
  t119 := Tryz.underlying90
  a119 := Tryz.isAgg90
  z119 := Tryz.sizeOf90
  t124 := Tryz.underlying107
  a124 := Tryz.isAgg107
  z124 := Tryz.sizeOf107
  v124 := Tryz.zeroValue107
  t138 := Tryz.underlying92
  a138 := Tryz.isAgg92
  z138 := Tryz.sizeOf92
  v138 := Tryz.zeroValue92
  t139 := Tryz.underlying93
  a139 := Tryz.isAgg93
  z139 := Tryz.sizeOf93
  v139 := Tryz.zeroValue93
  g3 := by kernel_rfl
  g4 := by kernel_rfl

def Tryz.laysTrim_ren : Go.Shelf.Ren := ⟨fun | 160 => 56 | 232 => 72 | 231 => 71 | 227 => 68 | 234 => 74 | 233 => 73 | 236 => 76 | 235 => 75 | 228 => 69 | 271 => 89 | 151 => 88 | 197 => 81 | 120 => 97 | 152 => 66 | 260 => 95 | 137 => 39 | 119 => 85 | 224 => 86 | 225 => 87 | 217 => 55 | 266 => 70 | n => n, fun | 9 => 9 | 4 => 4 | 3 => 3 | 5 => 5 | 117 => 102 | 116 => 101 | 0 => 0 | 124 => 107 | 21 => 21 | 105 => 110 | 46 => 94 | 119 => 90 | 139 => 93 | 138 => 92 | n => n, fun | 3 => 0 | 4 => 1 | n => n⟩
theorem Tryz.laysTrim : Go.Proofs.Lays.n160 Tryz.prog Tryz.laysTrim_ren where
  mixed := by kernel_rfl
  f119 := Tryz.func85.trans (congrArg some (by kernel_rfl))
  f120 := Tryz.func97.trans (congrArg some (by kernel_rfl))
  f137 := Tryz.func39.trans (congrArg some (by kernel_rfl))
  f151 := Tryz.func88.trans (congrArg some (by kernel_rfl))
  f152 := Tryz.func66.trans (congrArg some (by kernel_rfl))
  f160 := Tryz.func56.trans (congrArg some (by kernel_rfl))
  f197 := Tryz.func81.trans (congrArg some (by kernel_rfl))
  f217 := Tryz.func55.trans (congrArg some (by kernel_rfl))
  f224 := Tryz.func86.trans (congrArg some (by kernel_rfl))
  f225 := Tryz.func87.trans (congrArg some (by kernel_rfl))
  f227 := Tryz.func68.trans (congrArg some (by kernel_rfl))
  f228 := Tryz.func69.trans (congrArg some (by kernel_rfl))
  f231 := Tryz.func71.trans (congrArg some (by kernel_rfl))
  f232 := Tryz.func72.trans (congrArg some (by kernel_rfl))
  f233 := Tryz.func73.trans (congrArg some (by kernel_rfl))
  f234 := Tryz.func74.trans (congrArg some (by kernel_rfl))
  f235 := Tryz.func75.trans (congrArg some (by kernel_rfl))
  f236 := Tryz.func76.trans (congrArg some (by kernel_rfl))
  f260 := Tryz.func95.trans (congrArg some (by kernel_rfl))
  f266 := Tryz.func70.trans (congrArg some (by kernel_rfl))
  f271 := Tryz.func89.trans (congrArg some (by kernel_rfl))
  t0 := Tryz.underlying0
  a0 := Tryz.isAgg0
  z0 := Tryz.sizeOf0
  v0 := Tryz.zeroValue0
  t3 := Tryz.underlying3
  a3 := Tryz.isAgg3
  z3 := Tryz.sizeOf3
  v3 := Tryz.zeroValue3
  t4 := Tryz.underlying4
  a4 := Tryz.isAgg4
  z4 := Tryz.sizeOf4
  v4 := Tryz.zeroValue4
  t5 := Tryz.underlying5
  a5 := Tryz.isAgg5
  z5 := Tryz.sizeOf5
  v5 := Tryz.zeroValue5
  t9 := Tryz.underlying9
  a9 := Tryz.isAgg9
  z9 := Tryz.sizeOf9
  v9 := Tryz.zeroValue9
  t21 := Tryz.underlying21
  a21 := Tryz.isAgg21
  z21 := Tryz.sizeOf21
  v21 := Tryz.zeroValue21
  t46 := Tryz.underlying94
  a46 := Tryz.isAgg94
  z46 := Tryz.sizeOf94
  v46 := Tryz.zeroValue94
  t105 := Tryz.underlying110
  a105 := Tryz.isAgg110
  z105 := Tryz.sizeOf110
  v105 := Tryz.zeroValue110
  t116 := Tryz.underlying101
  a116 := Tryz.isAgg101
  z116 := Tryz.sizeOf101
  t117 := Tryz.underlying102
  a117 := Tryz.isAgg102
  z117 := Tryz.sizeOf102
  v117 := Tryz.zeroValue102
  t119 := Tryz.underlying90
  a119 := Tryz.isAgg90
  z119 := Tryz.sizeOf90
  t124 := Tryz.underlying107
  a124 := Tryz.isAgg107
  z124 := Tryz.sizeOf107
  v124 := Tryz.zeroValue107
  t138 := Tryz.underlying92
  a138 := Tryz.isAgg92
  z138 := Tryz.sizeOf92
  v138 := Tryz.zeroValue92
  t139 := Tryz.underlying93
  a139 := Tryz.isAgg93
  z139 := Tryz.sizeOf93
  v139 := Tryz.zeroValue93
  g3 := by kernel_rfl
  g4 := by kernel_rfl

def Tryz.laysReplaceAll_ren : Go.Shelf.Ren := ⟨fun | 155 => 49 | 154 => 59 | 138 => 78 | 165 => 79 | 143 => 80 | 166 => 29 | 197 => 81 | 169 => 31 | 195 => 91 | 218 => 92 | 240 => 50 | 241 => 93 | 219 => 94 | 260 => 95 | 276 => 60 | 277 => 102 | 217 => 55 | 225 => 87 | 224 => 86 | 267 => 103 | 266 => 70 | 314 => 109 | n => n, fun | 9 => 9 | 3 => 3 | 4 => 4 | 72 => 57 | 0 => 0 | 76 => 63 | 105 => 110 | 21 => 21 | 5 => 5 | 70 => 55 | 20 => 20 | 37 => 22 | 75 => 61 | 127 => 84 | 164 => 96 | 46 => 94 | 119 => 90 | 139 => 93 | 138 => 92 | 146 => 129 | 51 => 126 | 80 => 66 | n => n, fun | 1 => 2 | 3 => 0 | 4 => 1 | n => n⟩
theorem Tryz.laysReplaceAll : Go.Proofs.Lays.n155 Tryz.prog Tryz.laysReplaceAll_ren where
  mixed := by kernel_rfl
  f138 := Tryz.func78.trans (congrArg some (by kernel_rfl))
  f143 := Tryz.func80.trans (congrArg some (by kernel_rfl))
  f154 := Tryz.func59.trans (congrArg some (by kernel_rfl))
  f155 := Tryz.func49.trans (congrArg some (by kernel_rfl))
  f165 := Tryz.func79.trans (congrArg some (by kernel_rfl))
  f166 := Tryz.func29.trans (congrArg some (by kernel_rfl))
  f169 := Tryz.func31.trans (congrArg some (by kernel_rfl))
  f195 := Tryz.func91.trans (congrArg some (by kernel_rfl))
  f197 := Tryz.func81.trans (congrArg some (by kernel_rfl))
  f217 := Tryz.func55.trans (congrArg some (by kernel_rfl))
  f218 := Tryz.func92.trans (congrArg some (by kernel_rfl))
  f219 := Tryz.func94.trans (congrArg some (by kernel_rfl))
  f224 := Tryz.func86.trans (congrArg some (by kernel_rfl))
  f225 := Tryz.func87.trans (congrArg some (by kernel_rfl))
  f240 := Tryz.func50.trans (congrArg some (by kernel_rfl))
  f241 := Tryz.func93.trans (congrArg some (by kernel_rfl))
  f260 := Tryz.func95.trans (congrArg some (by kernel_rfl))
  f266 := Tryz.func70.trans (congrArg some (by kernel_rfl))
  f267 := Tryz.func103.trans (congrArg some (by kernel_rfl))
  f276 := Tryz.func60.trans (congrArg some (by kernel_rfl))
  f277 := Tryz.func102.trans (congrArg some (by kernel_rfl))
  f314 := Tryz.func109.trans (congrArg some (by kernel_rfl))
  t0 := Tryz.underlying0
  a0 := Tryz.isAgg0
  z0 := Tryz.sizeOf0
  v0 := Tryz.zeroValue0
  t3 := Tryz.underlying3
  a3 := Tryz.isAgg3
  z3 := Tryz.sizeOf3
  v3 := Tryz.zeroValue3
  t4 := Tryz.underlying4
  a4 := Tryz.isAgg4
  z4 := Tryz.sizeOf4
  v4 := Tryz.zeroValue4
  t5 := Tryz.underlying5
  a5 := Tryz.isAgg5
  z5 := Tryz.sizeOf5
  v5 := Tryz.zeroValue5
  t9 := Tryz.underlying9
  a9 := Tryz.isAgg9
  z9 := Tryz.sizeOf9
  v9 := Tryz.zeroValue9
  t20 := Tryz.underlying20
  a20 := Tryz.isAgg20
  z20 := Tryz.sizeOf20
  v20 := Tryz.zeroValue20
  t21 := Tryz.underlying21
  a21 := Tryz.isAgg21
  z21 := Tryz.sizeOf21
  v21 := Tryz.zeroValue21
  t37 := Tryz.underlying22
  a37 := Tryz.isAgg22
  z37 := Tryz.sizeOf22
  v37 := Tryz.zeroValue22
  t46 := Tryz.underlying94
  a46 := Tryz.isAgg94
  z46 := Tryz.sizeOf94
  v46 := Tryz.zeroValue94
  t51 := Tryz.underlying126
  a51 := Tryz.isAgg126
  z51 := Tryz.sizeOf126
  v51 := Tryz.zeroValue126
  t70 := Tryz.underlying55
  a70 := Tryz.isAgg55
  z70 := Tryz.sizeOf55
  v70 := Tryz.zeroValue55
  t72 := Tryz.underlying57
  a72 := Tryz.isAgg57
  z72 := Tryz.sizeOf57
  v72 := Tryz.zeroValue57
  t75 := Tryz.underlying61
  a75 := Tryz.isAgg61
  z75 := Tryz.sizeOf61
  v75 := Tryz.zeroValue61
  t76 := Tryz.underlying63
  a76 := Tryz.isAgg63
  z76 := Tryz.sizeOf63
  v76 := Tryz.zeroValue63
  t105 := Tryz.underlying110
  a105 := Tryz.isAgg110
  z105 := Tryz.sizeOf110
  v105 := Tryz.zeroValue110
  t119 := Tryz.underlying90
  a119 := Tryz.isAgg90
  z119 := Tryz.sizeOf90
  t127 := Tryz.underlying84
  a127 := Tryz.isAgg84
  z127 := Tryz.sizeOf84
  v127 := Tryz.zeroValue84
  t138 := Tryz.underlying92
  a138 := Tryz.isAgg92
  z138 := Tryz.sizeOf92
  v138 := Tryz.zeroValue92
  t139 := Tryz.underlying93
  a139 := Tryz.isAgg93
  z139 := Tryz.sizeOf93
  v139 := Tryz.zeroValue93
  t146 := Tryz.underlying129
  a146 := Tryz.isAgg129
  z146 := Tryz.sizeOf129
  v146 := Tryz.zeroValue129
  t164 := Tryz.underlying96
  a164 := Tryz.isAgg96
  z164 := Tryz.sizeOf96
  v164 := Tryz.zeroValue96
  g1 := by kernel_rfl
  g3 := by kernel_rfl
  g4 := by kernel_rfl

theorem trimLeft_spec (s : List UInt8) : Ctr Tryz.prog G 82 [.d (S s), .d (S [32])] [] (.d (S (Lib.trimLeftB s 32))) [] :=
  Ctr.of_calls_ss go82 fun h w => (Any.strings_TrimLeft_one Tryz.laysTrimLeft (bs s) 32 (by decide) w).mono (by rintro e w' ⟨rfl, rfl⟩; exact ⟨_, rfl, .str _, .refl _ _⟩)
theorem trimRight_spec (s : List UInt8) (hs : s.length ≤ 9223372036854775807) : Ctr Tryz.prog G 64 [.d (S s), .d (S [32])] [] (.d (S (Lib.trimRightB s 32))) [] :=
  Ctr.of_calls_ss go64 fun h w => (Any.strings_TrimRight_one Tryz.laysTrimRight (bs s) 32 (by decide) w (by rw [bs_size]; exact hs)).mono (by rintro e w' ⟨rfl, rfl⟩; exact ⟨_, rfl, .str _, .refl _ _⟩)
theorem trim_spec (s : List UInt8) (hs : s.length ≤ 9223372036854775807) : Ctr Tryz.prog G 56 [.d (S s), .d (S [32])] [] (.d (S (Lib.trimB s 32))) [] :=
  Ctr.of_calls_ss go56 fun h w => (Any.strings_Trim_one Tryz.laysTrim (bs s) 32 (by decide) w (by rw [bs_size]; exact hs)).mono (by
    rintro e w' ⟨rfl, h | h⟩
    · subst h; exact ⟨_, rfl, .str _, .refl _ _⟩
    · subst h; exact ⟨_, rfl, .str _, Below.drew (.refl _ _)⟩)
theorem ttrim_spec (s : List UInt8) (hs : s.length ≤ 9223372036854775807) : Ctr Tryz.prog G 40 [.d (S s)] [] (.d (S (Lib.trimB s 32))) [] := by
  refine Ctr.pure (M := M0) hmix Tryz.func40 rfl go40 ?_
  simp (config := { maxSteps := 1000000 }) (disch := ((try simp only [awL]); omega)) only [Option.toList_some, Option.toList_none, nextC_more, nextC_over, bs_size, bs_extract, bs_toList, bs_append, byteAt_bs, bs_cells, nums_length, nums_getD, Tryz.f40, ↓awU, awV, awF, ofVal, ofVal0, isShift, aggK, forall_const, ↓reduceIte, ↓reduceDIte, ↓purePost, combine, idsA, cellsA, numsOf, srcA, calleeA, refsA, isScalar, scalarD, scalar0, AV.one, putL, unfA, implies_true, IntKind.signed, Nat.reduceAdd, Nat.reduceSub, Nat.reduceMul, Nat.reducePow, Nat.reduceDiv, Nat.reduceMod, Int.reduceAdd, Int.reduceSub, Int.reduceMul, Int.reducePow, Int.reduceNeg, Int.reduceToNat, Int.reduceLT, Int.reduceLE, Nat.reduceEqDiff, sidsB, Nat.reduceBEq, keyKD, isIntK, aggD, aggL, eqKs]
  refine CallC.of (trim_spec s hs) (by rfl) ?_
  simp (config := { maxSteps := 1000000 }) (disch := ((try simp only [awL]); omega)) only [Option.toList_some, Option.toList_none, nextC_more, nextC_over, bs_size, bs_extract, bs_toList, bs_append, byteAt_bs, bs_cells, nums_length, nums_getD, ↓awU, awV, awF, ofVal, ofVal0, isShift, aggK, forall_const, ↓reduceIte, ↓reduceDIte, ↓purePost, combine, idsA, cellsA, numsOf, srcA, calleeA, refsA, isScalar, scalarD, scalar0, AV.one, putL, unfA, implies_true, IntKind.signed, Nat.reduceAdd, Nat.reduceSub, Nat.reduceMul, Nat.reducePow, Nat.reduceDiv, Nat.reduceMod, Int.reduceAdd, Int.reduceSub, Int.reduceMul, Int.reducePow, Int.reduceNeg, Int.reduceToNat, Int.reduceLT, Int.reduceLE, Nat.reduceEqDiff, sidsB, Nat.reduceBEq, keyKD, isIntK, aggD, aggL, eqKs]
/-- internal/bytealg's variable is some number. -/
def HM (G : Globals) : Prop := ∃ m : Int, G 2 = some [.int .i64 m]
theorem extraB : Builder.Extra Tryz.prog Tryz.laysReplaceAll_ren where
  sizeBuilder := by kernel_rfl
  liesBuilder := by kernel_rfl
  t5 := Tryz.underlying5
  a5 := Tryz.isAgg5
  z5 := Tryz.sizeOf5
  v5 := Tryz.zeroValue5
  infoByte := by kernel_rfl
  cellsByte := by kernel_rfl
  sizeByte := by kernel_rfl
  neB5 := by decide
theorem replaceAll_spec (hM : HM G) (s old new : List UInt8) (hs : s.length ≤ 100000000) (h1 : 1 ≤ old.length) (h2 : new.length ≤ 1000) (h3 : Lib.countB (bs s) (bs old) ≤ 1000000000) : Ctr Tryz.prog G 49 [.d (S s), .d (S old), .d (S new)] [] (.d (S (Lib.replaceAll s old new))) [] := by
  refine Ctr.of_calls go49 fun h ρ w vs q r => ?_
  obtain ⟨v, u, t, rfl, hv, hu, ht⟩ := r.inv3
  rw [hv.str_inv, hu.str_inv, ht.str_inv]
  obtain ⟨m, hm⟩ := hM
  obtain ⟨us, g1, g2⟩ := q.glob _ _ hm
  have c1 := q.prom _ _ _ (g1 0 _ rfl)
  have r0 := g2 0 _ rfl
  generalize us 0 = v0 at c1 r0
  cases r0
  have hlen : (bs s).size + Lib.countB (bs s) (bs old) * (bs new).size ≤ 140737488355328 := by
    rw [bs_size, bs_size]
    have := Nat.mul_le_mul h3 h2
    omega
  refine (Any.strings_ReplaceAll Tryz.laysReplaceAll extraB (bs s) (bs old) (bs new) m w (by rw [bs_size]; omega) c1 (by rw [bs_size]; exact h1) hlen).mono ?_
  rintro e w' ⟨rfl, hb⟩
  exact ⟨_, rfl, .str _, hb⟩
end Go.Proofs.YtjjanbljkoaojaaGreatDoor

/-
  What every law of this seat needs: what the listed tables hold, that one variable holds some number, and what the contracts are told of them.
-/
namespace Go.Proofs.YtjjanbljkoaojaaGreatDoor
open Go Go.Proofs Go.Abs Go.RowKit Go.ChangeShapes Go.WideShapes Go.ChangeAt Go.Shelf Go.Joins Go.Deep
theorem mem_getD' {l : List Int} {i : Nat} {d : Int} (h : i < l.length) : l.getD i d ∈ l := by
  rw [List.getD_eq_getElem?_getD, List.getElem?_eq_getElem h]; exact List.getElem_mem h
theorem own : ownKnob Tryz.prog.godebug = none := by kernel_rfl
theorem laidOut : laidOutB Tryz.prog = true := by kernel_rfl
theorem cU8 : Tryz.prog.cellsOf 5 = 1 := by kernel_rfl
theorem list_u8 {l : List Int} (h : ∀ n ∈ l, (Lit.int .u8 n).wf = true) : ∀ i, 0 ≤ l.getD i 0 ∧ l.getD i 0 ≤ 255 := by
  intro i
  rcases Nat.lt_or_ge i l.length with hi | hi
  · have := h _ (mem_getD' (d := 0) hi)
    simp [Lit.wf, IntKind.min, IntKind.max, IntKind.bits, IntKind.signed] at this
    rw [List.getD_eq_getElem?_getD]
    omega
  · rw [List.getD_eq_getElem?_getD, List.getElem?_eq_none hi]; simp
theorem open_dia {H : Type} {enc : TypeId × Value → H} {P : Program} {W : World} {base : Nat} {sp : Nat → Bool} {held : Bool} {r : Reach} {b0 : Nat} {t : TypeId} {f0 f1 f2 : Field} {v : Value} {d : DataW H} {p : List MemPlace} (hs : P.underlying t = some (.struct #[f0, f1, f2])) (hone : oneCellFields P #[f0, f1, f2] = true) (hC : P.cellsOf t = 3)
    (u0 : P.underlying f0.type = some (.int .u8)) (u1 : P.underlying f1.type = some (.int .u8)) (u2 : P.underlying f2.type = some .bool)
    (hv : Value.okWide P W r b0 t v) (h : DataW.Trod enc P W base sp held t v d p) :
    ∃ (a b : UInt8) (c : Bool), R (heldW W) (fun _ => none) v (.d (.agg [.int .u8 a.toNat, .int .u8 b.toNat, .bool c])) := by
  obtain ⟨v0, v1, v2, y0, y1, y2, n, rfl, _, _, h0, h1, h2⟩ := open_agg3 hs hone hC hv h
  obtain ⟨a, e0, _, w0⟩ := DataW.trod_int u0 h0
  obtain ⟨b, e1, _, w1⟩ := DataW.trod_int u1 h1
  obtain ⟨c, e2, _⟩ := DataW.trod_bool u2 h2
  simp only [List.cons.injEq, and_true] at e0 e1 e2
  subst e0 e1 e2
  have b0 : 0 ≤ a ∧ a ≤ 255 := by simp [Lit.wf, IntKind.min, IntKind.max, IntKind.bits, IntKind.signed] at w0; omega
  have b1 : 0 ≤ b ∧ b ≤ 255 := by simp [Lit.wf, IntKind.min, IntKind.max, IntKind.bits, IntKind.signed] at w1; omega
  have q0 : a = ((UInt8.ofNat a.toNat).toNat : Int) := by rw [UInt8.toNat_ofNat_of_lt' (by show a.toNat < 256; omega)]; omega
  have q1 : b = ((UInt8.ofNat b.toNat).toNat : Int) := by rw [UInt8.toNat_ofNat_of_lt' (by show b.toNat < 256; omega)]; omega
  refine ⟨UInt8.ofNat a.toNat, UInt8.ofNat b.toNat, c, ?_⟩
  rw [← q0, ← q1]
  refine .d _ _ (.agg _ _ rfl fun i v x hv hx => ?_)
  rcases i with _ | _ | _ | i <;> simp at hv hx
  · subst hv; subst hx; exact .int _ _
  · subst hv; subst hx; exact .int _ _
  · subst hv; subst hx; exact .bool _
/-- What the contracts are told of the variables. -/
def G1 (m : Int) : Globals := fun g => if g = 0 then some firstDs else if g = 1 then some accDs else if g = 2 then some [.int .i64 m] else none
theorem hT1 {m : Int} : HT (G1 m) := ⟨rfl, rfl⟩
theorem hM1 {m : Int} : HM (G1 m) := ⟨m, rfl⟩
theorem u8types : U8Types Tryz.prog Tryz.laysValid_ren := U8Types.of196 Tryz.laysValid
theorem u8extra : U8Extra Tryz.prog Tryz.laysValid_ren where
  n3 := by kernel_rfl
  n4 := by kernel_rfl
  y3 := by kernel_rfl
  y4 := by kernel_rfl
  c5 := by kernel_rfl
  c119 := by kernel_rfl
  c138 := by kernel_rfl
theorem first_eq : Rows.laid_unicode_utf8_first = Lib.firstData := by kernel_rfl
theorem accept_eq : (Rows.laid_unicode_utf8_acceptRanges : DataW Unit) = Lib.acceptData := by kernel_rfl
theorem maxLen_of {X : World} (h : X.ShapedOpen Tryz.prog) : ∃ m, X.cell? ⟨2, 0, none⟩ = some (.int .i64 m) :=
  cell_of_shapedOpen_int (t := 3) (zero := #[.int .i64 0]) h (of_decide_eq_true (by kernel_rfl)) (by kernel_rfl) rfl (by kernel_rfl) (by kernel_rfl) Tryz.underlying3
theorem globOK {X : World} {m : Int} (h1 : Lib.VarReads Tryz.prog X "unicode/utf8.first" Rows.laid_unicode_utf8_first) (h2 : Lib.VarReads Tryz.prog X "unicode/utf8.acceptRanges" Rows.laid_unicode_utf8_acceptRanges)
    (h3 : X.cell? ⟨2, 0, none⟩ = some (.int .i64 m)) : GlobOK (G1 m) X := by
  rw [first_eq] at h1
  rw [accept_eq] at h2
  obtain ⟨t1, t2⟩ : Lib.Utf8Tabs 0 1 X := utf8Tabs_of_readsT u8types u8extra h1 h2
  intro g ds hg
  unfold G1 at hg
  split at hg
  · rename_i e; subst e; cases hg
    refine ⟨fun i => .int .u8 (Lib.firstT i), fun i x hx => ?_, fun i x hx => ?_⟩
    · have hi : i < 256 := by have := (List.getElem?_eq_some_iff.1 hx).1; simpa [firstDs] using this
      exact t1 i hi
    · have hi : i < 256 := by have := (List.getElem?_eq_some_iff.1 hx).1; simpa [firstDs] using this
      simp [firstDs, hi] at hx
      subst hx; exact .int _ _
  · split at hg
    · rename_i e; subst e; cases hg
      refine ⟨fun i => .int .u8 ((if i % 2 = 0 then Lib.accLo (i / 2) else Lib.accHi (i / 2) : Nat) : Int), fun i x hx => ?_, fun i x hx => ?_⟩
      · have hi : i < 32 := by have := (List.getElem?_eq_some_iff.1 hx).1; simpa [accDs] using this
        obtain ⟨a, b⟩ := t2 (i / 2) (by omega)
        rcases (by omega : i % 2 = 0 ∨ i % 2 = 1) with h0 | h0
        · show X.cell? ⟨_, i, none⟩ = _
          simp only [if_pos h0]
          rw [← a, show 2 * (i / 2) = i by omega]
        · show X.cell? ⟨_, i, none⟩ = _
          simp only [if_neg (show ¬ i % 2 = 0 by omega)]
          rw [← b, show 2 * (i / 2) + 1 = i by omega]
      · have hi : i < 32 := by have := (List.getElem?_eq_some_iff.1 hx).1; simpa [accDs] using this
        simp only [accDs, List.getElem?_map, List.getElem?_range hi, Option.map_some, Option.some.injEq] at hx
        subst hx; exact .int _ _
    · split at hg
      · rename_i e; subst e; cases hg
        refine ⟨fun _ => .int .i64 m, fun i x hx => ?_, fun i x hx => ?_⟩
        · rcases i with _ | i
          · exact h3
          · simp at hx
        · rcases i with _ | i
          · simp at hx; subst hx; exact .int _ _
          · simp at hx
      · cases hg
end Go.Proofs.YtjjanbljkoaojaaGreatDoor

/-
  A world that lays the variables of delimitedSteps.
-/
namespace Go.Proofs.YtjjanbljkoaojaaGreatDoor
open Go Go.Proofs Go.Abs Go.RowKit Go.ChangeShapes Go.WideShapes Go.ChangeAt
noncomputable def laidWorld_delimitedSteps (os : Os) : World :=
  { World.holding Tryz.prog os ⟨#[], #[], []⟩ with heap := ((((((World.holding Tryz.prog os ⟨#[], #[], []⟩).heap.modify 4 fun
      | .cells _ t frozen => .cells #[.int .u8 0, .int .u8 1, .int .u8 28, .int .u8 2, .int .u8 29, .int .u8 14, .int .u8 24, .int .u8 3, .int .u8 30, .int .u8 22, .int .u8 20, .int .u8 15, .int .u8 25, .int .u8 17, .int .u8 4, .int .u8 8, .int .u8 31, .int .u8 27, .int .u8 13, .int .u8 23, .int .u8 21, .int .u8 19, .int .u8 16, .int .u8 7, .int .u8 26, .int .u8 12, .int .u8 18, .int .u8 6, .int .u8 11, .int .u8 5, .int .u8 10, .int .u8 9] t frozen
      | o => o).modify 5 fun
      | .cells _ t frozen => .cells #[.int .u8 0, .int .u8 1, .int .u8 56, .int .u8 2, .int .u8 57, .int .u8 49, .int .u8 28, .int .u8 3, .int .u8 61, .int .u8 58, .int .u8 42, .int .u8 50, .int .u8 38, .int .u8 29, .int .u8 17, .int .u8 4, .int .u8 62, .int .u8 47, .int .u8 59, .int .u8 36, .int .u8 45, .int .u8 43, .int .u8 51, .int .u8 22, .int .u8 53, .int .u8 39, .int .u8 33, .int .u8 30, .int .u8 24, .int .u8 18, .int .u8 12, .int .u8 5, .int .u8 63, .int .u8 55, .int .u8 48, .int .u8 27, .int .u8 60, .int .u8 41, .int .u8 37, .int .u8 16, .int .u8 46, .int .u8 35, .int .u8 44, .int .u8 21, .int .u8 52, .int .u8 32, .int .u8 23, .int .u8 11, .int .u8 54, .int .u8 26, .int .u8 40, .int .u8 15, .int .u8 34, .int .u8 20, .int .u8 31, .int .u8 10, .int .u8 25, .int .u8 14, .int .u8 19, .int .u8 9, .int .u8 13, .int .u8 8, .int .u8 7, .int .u8 6] t frozen
      | o => o).modify 3 fun
      | .cells _ t frozen => .cells #[.int .u64 1, .int .u64 10, .int .u64 100, .int .u64 1000, .int .u64 10000, .int .u64 100000, .int .u64 1000000, .int .u64 10000000, .int .u64 100000000, .int .u64 1000000000, .int .u64 10000000000, .int .u64 100000000000, .int .u64 1000000000000, .int .u64 10000000000000, .int .u64 100000000000000, .int .u64 1000000000000000, .int .u64 10000000000000000, .int .u64 100000000000000000, .int .u64 1000000000000000000, .int .u64 10000000000000000000] t frozen
      | o => o).modify 1 fun
      | .cells _ t frozen => .cells #[.int .u8 128, .int .u8 191, .int .u8 160, .int .u8 191, .int .u8 128, .int .u8 159, .int .u8 144, .int .u8 191, .int .u8 128, .int .u8 143, .int .u8 0, .int .u8 0, .int .u8 0, .int .u8 0, .int .u8 0, .int .u8 0, .int .u8 0, .int .u8 0, .int .u8 0, .int .u8 0, .int .u8 0, .int .u8 0, .int .u8 0, .int .u8 0, .int .u8 0, .int .u8 0, .int .u8 0, .int .u8 0, .int .u8 0, .int .u8 0, .int .u8 0, .int .u8 0] t frozen
      | o => o).modify 0 fun
      | .cells _ t frozen => .cells (Go.Pinned.utf8FirstZ.map fun (n : Nat) => Value.int .u8 (n : Int)).toArray t frozen
      | o => o) }
set_option maxRecDepth 100000 in
theorem laid_met_delimitedSteps (os : Os) (args : Array Value) : laidMet Tryz.prog [("math/bits.deBruijn32tab", Rows.laid_math_bits_deBruijn32tab), ("math/bits.deBruijn64tab", Rows.laid_math_bits_deBruijn64tab), ("internal/strconv.uint64pow10", Rows.laid_internal_strconv_uint64pow10), ("unicode/utf8.acceptRanges", Rows.laid_unicode_utf8_acceptRanges), ("unicode/utf8.first", Rows.laid_unicode_utf8_first)] ((laidWorld_delimitedSteps os).forCall (fun _ _ => 0) ⟨#[], args, []⟩).memory :=
  laidMet_of_run' 8 (by kernel_rfl) (by kernel_rfl)
end Go.Proofs.YtjjanbljkoaojaaGreatDoor

namespace Go.Proofs.YtjjanbljkoaojaaGreatDoor
open Go Go.Proofs Go.Abs Go.RowKit Go.Shelf Go.Lib
variable {G : Globals}
/-! strings.Builder: contracts over the machine's blocks. -/
theorem append_str {P : Program} {w : World} (t u ty e : TypeId) (i : TypeInfo) (ht : P.underlying t = some (.slice e)) (hu : P.underlying u = some .string) (hi : P.info? e = some i) (hz : i.zero = some (.int .u8 0))
    (hsize : i.size = 1) (hby : i.bytes = 1) (v : Value) (n : Nat) (xs : List Value) (hown : w.ownsRow 0 e 1 v n xs) (s : ByteArray) (h63 : n + s.size ≤ maxLen) (hbytes : n + s.size ≤ 140737488355328) :
    ∃ v' w', (Builtin.append_ #[t, u] ty #[v, .string s]).run P w = .ok v' w' ∧ w'.ownsRow 0 e 1 v' (n + s.size) (xs ++ strCells s) ∧ w.grownBy w' v.ownBlock ∧ (v'.ownBlock = v.ownBlock ∨ ∀ g, v'.ownBlock = some g → w.heap.size ≤ g) := by
  obtain ⟨v', w', hr, h2, h3, h4⟩ := run_append_own_string (P := P) w 0 t u ty e i ht hu hi hz hsize hby v n xs hown s h63 hbytes (Nat.zero_le _)
  refine ⟨v', w', hr, h2, h3, ?_⟩
  have hxl : xs.length = n := by simpa using hown.1
  rcases hown.2 with ⟨rfl, rfl⟩ | ⟨g, cap, cur, rfl, hbg, hg, hnc, hcm, hcs, htake⟩
  · right
    intro g hgv
    obtain rfl : xs = [] := List.eq_nil_of_length_eq_zero hxl
    obtain ⟨v2, w2, hr2, k2, _⟩ := run_append_own_string (P := P) w w.heap.size t u ty e i ht hu hi hz hsize hby (.slice none 0 0) 0 [] (World.ownsRow_nil w _ e 1) s h63 hbytes (Nat.le_refl _)
    rw [hr] at hr2
    cases hr2
    exact (k2.lt g hgv).1
  · by_cases hroom : n + s.size ≤ cap
    · left
      have hcs' : cur.size = cap := by simpa using hcs
      have hr2 := run_append_room_string (P := P) w t u ty e i ht hu hi hsize g n cap cur hg s hroom (by unfold maxLen at h63; omega)
      rw [hr] at hr2
      cases hr2
      rfl
    · right
      intro g' hg'
      have holds : ∀ j u, xs[j]? = some u → w.cell? ((⟨g, 0, none⟩ : Addr).add j) = some u := hown.cells (g := g) rfl
      have hr2 := run_append_grow_string (P := P) w t u ty e i (.int .u8 0) ht hu hi hz ⟨g, 0, none⟩ n cap xs (by rw [hsize]; simpa using hxl) holds s (by omega) (by unfold maxLen at h63; omega) (by rw [hby]; exact growslice_fits (by omega) (by omega))
      rw [hr] at hr2
      cases hr2
      simp [Value.ownBlock] at hg'
      omega
theorem wpList_append_str {P : Program} {w : World} {ops : Array Oper} {rest : List Oper} {o : Oper} {a : Act} {Q : Exit → Act → World → Prop} (hgd : o.guard = none) (sl x : Operand) (t u : TypeId)
    (ho : o.op = .call { callee := .builtin .append, args := #[sl, x], argTypes := #[t, u] })
    (e : TypeId) (i : TypeInfo) (ht : P.underlying t = some (.slice e)) (hu : P.underlying u = some .string) (hi : P.info? e = some i) (hz : i.zero = some (.int .u8 0))
    (hsize : i.size = 1) (hby : i.bytes = 1) (v : Value) (n : Nat) (xs : List Value) (hs : a.eval sl = v) (hown : w.ownsRow 0 e 1 v n xs) (s : ByteArray) (hx : a.eval x = .string s)
    (h63 : n + s.size ≤ maxLen) (hbytes : n + s.size ≤ 140737488355328)
    (h : ∀ v' w', w'.ownsRow 0 e 1 v' (n + s.size) (xs ++ strCells s) → w.grownBy w' v.ownBlock → (v'.ownBlock = v.ownBlock ∨ ∀ g, v'.ownBlock = some g → w.heap.size ≤ g) → wpList P ops Q rest (a.put o.dst v') w') : wpList P ops Q (o :: rest) a w := by
  refine wpList_plain hgd fun K hK => ?_
  obtain ⟨v', w', hr, h2, h3, h4⟩ := append_str (P := P) (w := w) t u o.type e i ht hu hi hz hsize hby v n xs hown s h63 hbytes
  unfold Oper.wp execOp
  simp only [ho, resolve, invoke, builtin, Sem.run_bind, Sem.run_pure, Result.andThen_ok, List.map_toArray, List.map_cons, List.map_nil, hs, hx, hr]
  exact hK _ _ (h v' w' h2 h3 h4)
theorem setCell_at_block {w : World} {b o : Nat} {v : Value} {c : Array Value} {T : TypeId} {fz : Nat × Nat} (h : w.heap[b]? = some (.cells c T fz)) : (w.setCell ⟨b, o, none⟩ v).heap[b]? = some (.cells (c.setIfInBounds o v) T fz) := by
  show (w.heap.modify b _)[b]? = _
  rw [Array.getElem?_modify, if_pos rfl, h]
  rfl
theorem setCell_at_other {w : World} {b o k : Nat} {v : Value} (h : k ≠ b) : (w.setCell ⟨b, o, none⟩ v).heap[k]? = w.heap[k]? := by
  show (w.heap.modify b _)[k]? = _
  rw [Array.getElem?_modify, if_neg (Ne.symm h)]
theorem setCell_at_size {w : World} {a : Addr} {v : Value} : (w.setCell a v).heap.size = w.heap.size := by simp [World.setCell]
/-- What a call on a builder leaves. -/
structure BldW (T e : TypeId) (b : Nat) (v : Value) (l : List Value) (w w' : World) : Prop where
  os : w'.os = w.os
  tape : w'.tape = w.tape
  output : w'.output = w.output
  size : w.heap.size ≤ w'.heap.size
  keep : ∀ k, k < w.heap.size → k ≠ b → some k ≠ v.ownBlock → w'.heap[k]? = w.heap[k]?
  left : ∃ v', w'.heap[b]? = some (.cells #[.pointer (some ⟨b, 0, none⟩), v'] T (0, 0)) ∧ w'.ownsRow 0 e 1 v' l.length l ∧ (v'.ownBlock = v.ownBlock ∨ ∀ g, v'.ownBlock = some g → w.heap.size ≤ g)
theorem bld_check {P : Program} {ρ : Ren} (L : Lays.n240 P ρ) (X : Builder.X72 P ρ) (b : Nat) (used : Bool) (v : Value) (w : World) (hbk : w.heap[b]? = some (.cells #[.pointer (if used then some ⟨b, 0, none⟩ else none), v] (ρ.t 72) (0, 0))) :
    Calls P (ρ.f 240) #[.pointer (some ⟨b, 0, none⟩)] w fun e w' => e = .returned (.tuple #[]) ∧ w'.os = w.os ∧ w'.tape = w.tape ∧ w'.output = w.output ∧ w'.heap.size = w.heap.size ∧ (∀ k, k ≠ b → w'.heap[k]? = w.heap[k]?) ∧
      w'.heap[b]? = some (.cells #[.pointer (some ⟨b, 0, none⟩), v] (ρ.t 72) (0, 0)) := by
  have c0 : w.cell? ⟨b, 0, none⟩ = some (.pointer (if used then some ⟨b, 0, none⟩ else none)) := by rw [Lib.cell_of_heap hbk]; rfl
  cases used
  · refine (Any.Builder_copyCheck_fresh L X b w c0 (by simp [World.shape?, hbk]) (Lib.frozen_of_heap hbk 0)).mono ?_
    rintro e w' ⟨rfl, rfl⟩
    exact ⟨rfl, rfl, rfl, rfl, setCell_at_size, fun k hk => setCell_at_other hk, by rw [setCell_at_block hbk]; rfl⟩
  · refine (Any.Builder_copyCheck_used L X b w c0).mono ?_
    rintro e w' ⟨rfl, rfl⟩
    exact ⟨rfl, rfl, rfl, rfl, rfl, fun _ _ => rfl, hbk⟩
theorem bld_same {T e : TypeId} {b : Nat} {v : Value} {l : List Value} {w w1 : World} (hown : w.ownsRow 0 e 1 v l.length l) (hne : v.ownBlock ≠ some b) (ho : ∀ k, k ≠ b → w1.heap[k]? = w.heap[k]?) : w1.ownsRow 0 e 1 v l.length l := by
  refine ⟨hown.1, ?_⟩
  rcases hown.2 with h | ⟨g, cap, cur, rfl, h1, h2, h3⟩
  · exact .inl h
  · exact .inr ⟨g, cap, cur, rfl, h1, (ho g (fun e => hne (by rw [e]; rfl))).trans h2, h3⟩
set_option maxHeartbeats 1000000 in
set_option maxRecDepth 100000 in
theorem bld_writeString {P : Program} {ρ : Ren} (L : Lays.n166 P ρ) (X : Builder.Extra P ρ) (b : Nat) (used : Bool) (v : Value) (l : List Value) (s : ByteArray) (w : World)
    (hbk : w.heap[b]? = some (.cells #[.pointer (if used then some ⟨b, 0, none⟩ else none), v] (ρ.t 72) (0, 0))) (hown : w.ownsRow 0 (ρ.t 5) 1 v l.length l) (hne : v.ownBlock ≠ some b) (hlen : l.length + s.size ≤ 140737488355328) :
    Calls P (ρ.f 166) #[.pointer (some ⟨b, 0, none⟩), .string s] w fun e w' => e = .returned (.tuple #[.int .i64 s.size, .nilIface]) ∧ BldW (ρ.t 72) (ρ.t 5) b v (l ++ strCells s) w w' := by
  obtain ⟨i0, hi, hz0, hz1, hz2⟩ := info_parts X.infoByte
  have mixed := L.mixed
  have t72 := L.t72; have a72 := L.a72; have z72 := L.z72; have v72 := L.v72; have u72 := run_underlying L.t72
  have t70 := L.t70; have a70 := L.a70; have z70 := L.z70; have v70 := L.v70; have u70 := run_underlying L.t70
  have t37 := L.t37; have a37 := L.a37; have z37 := L.z37; have v37 := L.v37; have u37 := run_underlying L.t37
  have t3 := L.t3; have a3 := L.a3; have z3 := L.z3; have v3 := L.v3; have u3 := run_underlying L.t3
  have t9 := L.t9; have a9 := L.a9; have z9 := L.z9; have v9 := L.v9; have u9 := run_underlying L.t9
  have t4 := L.t4; have a4 := L.a4; have z4 := L.z4; have v4 := L.v4; have u4 := run_underlying L.t4
  have t164 := L.t164; have a164 := L.a164; have z164 := L.z164; have v164 := L.v164; have u164 := run_underlying L.t164
  have t5 := X.t5; have a5 := X.a5; have z5 := X.z5; have v5 := X.v5; have u5 := run_underlying X.t5
  have e240 : ∀ args w, (callFunc (ρ.f 240) args).run P w = .ok (.enter (ρ.f 240) args) w := enters_of L.f240 (by kernel_rfl) rfl
  have cc := bld_check { L with } X.toX72 b used v w hbk
  go_enter L.f166, Body.n166_ntmps ρ
  go_wp2_with (go_at_fn (ρ.f 240); refine cc.mono ?_)
  rintro e w1 ⟨rfl, q1, q2, q3, q4, q5, hb1⟩
  have hown1 : w1.ownsRow 0 (ρ.t 5) 1 v l.length l := bld_same (T := ρ.t 72) hown hne q5
  clear cc hown
  have c0 : w1.cell? ⟨b, 0, none⟩ = some (.pointer (some ⟨b, 0, none⟩)) := by rw [Lib.cell_of_heap hb1]; rfl
  have c1 : w1.cell? ⟨b, 1, none⟩ = some v := by rw [Lib.cell_of_heap hb1]; rfl
  go_wp2_with (at_builtin; refine wpList_append_str rfl _ _ (ρ.t 37) (ρ.t 9) rfl (ρ.t 5) i0 L.t37 L.t9 hi hz0 hz1 hz2 _ _ _ rfl hown1 s rfl ?c3 ?c4 ?_)
  case c3 => unfold maxLen; omega
  case c4 => omega
  intro v' w2 hown' hgrow hor
  have hlt : b < w1.heap.size := (Array.getElem?_eq_some_iff.1 hb1).1
  have hb2 : w2.heap[b]? = some (.cells #[.pointer (some ⟨b, 0, none⟩), v] (ρ.t 72) (0, 0)) := by
    rw [hgrow.block b hlt (fun e => hne e.symm)]
    exact hb1
  have d0 : w2.cell? ⟨b, 0, none⟩ = some (.pointer (some ⟨b, 0, none⟩)) := by rw [Lib.cell_of_heap hb2]; rfl
  have d1 : w2.cell? ⟨b, 1, none⟩ = some v := by rw [Lib.cell_of_heap hb2]; rfl
  have f1 : w2.frozen? ⟨b, 1, none⟩ = false := Lib.frozen_of_heap hb2 1
  obtain ⟨ao, n', cap, rfl⟩ : ∃ ao n' cap, v' = .slice ao n' cap := by
    rcases hown'.2 with ⟨hv, _⟩ | ⟨g, cap, cur, hv, _⟩
    · exact ⟨_, _, _, hv⟩
    · exact ⟨_, _, _, hv⟩
  go_wp2
  go_ret2
  refine ⟨rfl, hgrow.os.trans q1, hgrow.tape.trans q2, hgrow.output.trans q3, ?_, fun k hk h1 h2 => ?_, .slice ao n' cap, ?_, ?_, ?_⟩
  · rw [setCell_at_size]; have := hgrow.size; omega
  · rw [setCell_at_other h1, hgrow.block k (by omega) h2, q5 k h1]
  · rw [setCell_at_block hb2]; rfl
  · rw [show (l ++ strCells s).length = l.length + s.size by rw [List.length_append, Lib.strCells_length]]
    have hnb : Value.ownBlock (.slice ao n' cap) ≠ some b := by
      intro e
      rcases hor with h | h
      · rw [h] at e; exact hne e
      · have := h b e; omega
    refine ⟨hown'.1, ?_⟩
    rcases hown'.2 with h | ⟨g, cp, cur, e1, k1, k2, k3⟩
    · exact .inl h
    · refine .inr ⟨g, cp, cur, e1, k1, ?_, k3⟩
      rw [setCell_at_other (fun e => hnb (by rw [e1, ← e]; rfl))]
      exact k2
  · rcases hor with h | h
    · exact .inl h
    · exact .inr fun g hg => by have := h g hg; omega
theorem append_one {P : Program} {w : World} (t ty e : TypeId) (i : TypeInfo) (ht : P.underlying t = some (.slice e)) (hi : P.info? e = some i) (hz : i.zero = some (.int .u8 0))
    (hsize : i.size = 1) (hby : i.bytes = 1) (v : Value) (n : Nat) (xs : List Value) (hown : w.ownsRow 0 e 1 v n xs) (ad : Addr) (k : Nat) (u : Value) (hu : w.cell? ad = some u) (h1 : u.oneCell' = true) (hbytes : n + 1 ≤ 140737488355328) :
    ∃ v' w', (Builtin.append_ #[t, t] ty #[v, .slice (some ad) 1 k]).run P w = .ok v' w' ∧ w'.ownsRow 0 e 1 v' (n + 1) (xs ++ [u]) ∧ w.grownBy w' v.ownBlock ∧ (v'.ownBlock = v.ownBlock ∨ ∀ g, v'.ownBlock = some g → w.heap.size ≤ g) := by
  have hnews : ∀ j x, [u][j]? = some x → w.cell? (ad.add j) = some x := by
    intro j x hj
    match j, hj with
    | 0, hj => simp at hj; subst hj; simpa [Addr.add] using hu
  have hone : ∀ x ∈ [u], x.oneCell' = true := by intro x hx; simp at hx; subst hx; exact h1
  have h63 : n + 1 ≤ maxLen := by unfold maxLen; omega
  obtain ⟨v', w', hr, h2, h3, h4⟩ := run_append_own (P := P) w 0 t ty e i (.int .u8 0) 1 1 ht hi hz hsize hby rfl (by decide) v n xs hown ad 1 k [u] rfl hnews hone h63 (by omega) (Nat.zero_le _)
  refine ⟨v', w', hr, h2, h3, ?_⟩
  have hxl : xs.length = n := by simpa using hown.1
  rcases hown.2 with ⟨rfl, rfl⟩ | ⟨g, cap, cur, rfl, hbg, hg, hnc, hcm, hcs, htake⟩
  · right
    intro g hgv
    obtain rfl : xs = [] := List.eq_nil_of_length_eq_zero hxl
    obtain ⟨v2, w2, hr2, k2, _⟩ := run_append_own (P := P) w w.heap.size t ty e i (.int .u8 0) 1 1 ht hi hz hsize hby rfl (by decide) (.slice none 0 0) 0 [] (World.ownsRow_nil w _ e 1) ad 1 k [u] rfl hnews hone h63 (by omega) (Nat.le_refl _)
    rw [hr] at hr2
    cases hr2
    exact (k2.lt g hgv).1
  · by_cases hroom : n + 1 ≤ cap
    · left
      have hcs' : cur.size = cap := by simpa using hcs
      have hr2 := run_append_room (P := P) w t ty e i ht hi g n cap cur hg ad 1 k [u] (by rw [hsize]; rfl) hnews hone hroom (by rw [hsize]; simp; omega)
      rw [hr] at hr2
      cases hr2
      rfl
    · right
      intro g' hg'
      have holds : ∀ j u, xs[j]? = some u → w.cell? ((⟨g, 0, none⟩ : Addr).add j) = some u := hown.cells (g := g) rfl
      have hr2 := run_append_grow (P := P) w t ty e i (.int .u8 0) ht hi hz ⟨g, 0, none⟩ n cap xs (by rw [hsize]; simpa using hxl) holds ad 1 k [u] (by rw [hsize]; rfl) hnews (by omega) (by omega) (by rw [hby]; exact growslice_fits (by omega) (by omega))
      rw [hr] at hr2
      cases hr2
      simp [Value.ownBlock] at hg'
      omega
theorem wpList_append_one {P : Program} {w : World} {ops : Array Oper} {rest : List Oper} {o : Oper} {a : Act} {Q : Exit → Act → World → Prop} (hgd : o.guard = none) (sl x : Operand) (t : TypeId)
    (ho : o.op = .call { callee := .builtin .append, args := #[sl, x], argTypes := #[t, t] })
    (e : TypeId) (i : TypeInfo) (ht : P.underlying t = some (.slice e)) (hi : P.info? e = some i) (hz : i.zero = some (.int .u8 0))
    (hsize : i.size = 1) (hby : i.bytes = 1) (v : Value) (n : Nat) (xs : List Value) (hs : a.eval sl = v) (hown : w.ownsRow 0 e 1 v n xs) (ad : Addr) (k : Nat) (u : Value) (hx : a.eval x = .slice (some ad) 1 k) (hu : w.cell? ad = some u) (h1 : u.oneCell' = true)
    (hbytes : n + 1 ≤ 140737488355328)
    (h : ∀ v' w', w'.ownsRow 0 e 1 v' (n + 1) (xs ++ [u]) → w.grownBy w' v.ownBlock → (v'.ownBlock = v.ownBlock ∨ ∀ g, v'.ownBlock = some g → w.heap.size ≤ g) → wpList P ops Q rest (a.put o.dst v') w') : wpList P ops Q (o :: rest) a w := by
  refine wpList_plain hgd fun K hK => ?_
  obtain ⟨v', w', hr, h2, h3, h4⟩ := append_one (P := P) (w := w) t o.type e i ht hi hz hsize hby v n xs hown ad k u hu h1 hbytes
  unfold Oper.wp execOp
  simp only [ho, resolve, invoke, builtin, Sem.run_bind, Sem.run_pure, Result.andThen_ok, List.map_toArray, List.map_cons, List.map_nil, hs, hx, hr]
  exact hK _ _ (h v' w' h2 h3 h4)
theorem alloc_at_old (w : World) (o : Obj) (k : Nat) (h : k < w.heap.size) : (w.alloc o).heap[k]? = w.heap[k]? := by
  show (w.heap.push o)[k]? = _
  rw [Array.getElem?_push]
  split
  · omega
  · rfl
set_option maxHeartbeats 1000000 in
set_option maxRecDepth 100000 in
theorem bld_writeByte {P : Program} {ρ : Ren} (L : Lays.n167 P ρ) (X : Builder.Extra P ρ) (b : Nat) (used : Bool) (v : Value) (l : List Value) (c : Int) (w : World)
    (hbk : w.heap[b]? = some (.cells #[.pointer (if used then some ⟨b, 0, none⟩ else none), v] (ρ.t 72) (0, 0))) (hown : w.ownsRow 0 (ρ.t 5) 1 v l.length l) (hne : v.ownBlock ≠ some b) (hlen : l.length + 1 ≤ 140737488355328) :
    Calls P (ρ.f 167) #[.pointer (some ⟨b, 0, none⟩), .int .u8 c] w fun e w' => e = .returned .nilIface ∧ BldW (ρ.t 72) (ρ.t 5) b v (l ++ [.int .u8 c]) w w' := by
  obtain ⟨i0, hi, hz0, hz1, hz2⟩ := info_parts X.infoByte
  have mixed := L.mixed
  have t72 := L.t72; have a72 := L.a72; have z72 := L.z72; have v72 := L.v72; have u72 := run_underlying L.t72
  have t70 := L.t70; have a70 := L.a70; have z70 := L.z70; have v70 := L.v70; have u70 := run_underlying L.t70
  have t5 := L.t5; have a5 := L.a5; have z5 := L.z5; have v5 := L.v5; have u5 := run_underlying L.t5
  have t37 := L.t37; have a37 := L.a37; have z37 := L.z37; have v37 := L.v37; have u37 := run_underlying L.t37
  have t9 := L.t9; have a9 := L.a9; have z9 := L.z9; have v9 := L.v9; have u9 := run_underlying L.t9
  have t4 := L.t4; have a4 := L.a4; have z4 := L.z4; have v4 := L.v4; have u4 := run_underlying L.t4
  have t164 := L.t164; have a164 := L.a164; have z164 := L.z164; have v164 := L.v164; have u164 := run_underlying L.t164
  have e240 : ∀ args w, (callFunc (ρ.f 240) args).run P w = .ok (.enter (ρ.f 240) args) w := enters_of L.f240 (by kernel_rfl) rfl
  have cc := bld_check { L with } X.toX72 b used v w hbk
  go_enter L.f167, Body.n167_ntmps ρ
  go_wp2_with (go_at_fn (ρ.f 240); refine cc.mono ?_)
  rintro e w1 ⟨rfl, q1, q2, q3, q4, q5, hb1⟩
  have hown1 : w1.ownsRow 0 (ρ.t 5) 1 v l.length l := bld_same (T := ρ.t 72) hown hne q5
  clear cc hown
  have hlt : b < w1.heap.size := (Array.getElem?_eq_some_iff.1 hb1).1
  have c0 : w1.cell? ⟨b, 0, none⟩ = some (.pointer (some ⟨b, 0, none⟩)) := by rw [Lib.cell_of_heap hb1]; rfl
  have c1 : w1.cell? ⟨b, 1, none⟩ = some v := by rw [Lib.cell_of_heap hb1]; rfl
  go_wp2_with (at_builtin; refine wpList_append_one rfl _ _ (ρ.t 37) rfl (ρ.t 5) i0 L.t37 hi hz0 hz1 hz2 _ _ _ rfl (hown1.alloc _) ⟨w.heap.size, 0, none⟩ 1 (.int .u8 c) rfl ?c1 ?c2 ?c4 ?_)
  case c1 => rw [← q4]; simp
  case c2 => rfl
  case c4 => omega
  intro v' w2 hown' hgrow hor
  have hb2 : w2.heap[b]? = some (.cells #[.pointer (some ⟨b, 0, none⟩), v] (ρ.t 72) (0, 0)) := by
    rw [hgrow.block b (by simp; omega) (fun e => hne e.symm), alloc_at_old w1 _ b hlt]
    exact hb1
  have d0 : w2.cell? ⟨b, 0, none⟩ = some (.pointer (some ⟨b, 0, none⟩)) := by rw [Lib.cell_of_heap hb2]; rfl
  have d1 : w2.cell? ⟨b, 1, none⟩ = some v := by rw [Lib.cell_of_heap hb2]; rfl
  have f1 : w2.frozen? ⟨b, 1, none⟩ = false := Lib.frozen_of_heap hb2 1
  obtain ⟨ao, n', cap, rfl⟩ : ∃ ao n' cap, v' = .slice ao n' cap := by
    rcases hown'.2 with ⟨hv, _⟩ | ⟨g, cap, cur, hv, _⟩
    · exact ⟨_, _, _, hv⟩
    · exact ⟨_, _, _, hv⟩
  go_wp2
  go_ret
  refine ⟨rfl, hgrow.os.trans q1, hgrow.tape.trans q2, hgrow.output.trans q3, ?_, fun k hk h1 h2 => ?_, .slice ao n' cap, ?_, ?_, ?_⟩
  · rw [setCell_at_size]; have := hgrow.size; first | omega | (simp at this; omega)
  · rw [setCell_at_other h1, hgrow.block k (by simp; omega) h2, alloc_at_old w1 _ k (by omega), q5 k h1]
  · rw [setCell_at_block hb2]; rfl
  · rw [show (l ++ [Value.int .u8 c]).length = l.length + 1 by simp]
    have hnb : Value.ownBlock (.slice ao n' cap) ≠ some b := by
      intro e
      rcases hor with h | h
      · rw [h] at e; exact hne e
      · have := h b e; first | omega | (simp at this; omega)
    refine ⟨hown'.1, ?_⟩
    rcases hown'.2 with h | ⟨g, cp, cur, e1, k1, k2, k3⟩
    · exact .inl h
    · refine .inr ⟨g, cp, cur, e1, k1, ?_, k3⟩
      rw [setCell_at_other (fun e => hnb (by rw [e1, ← e]; rfl))]
      exact k2
  · rcases hor with h | h
    · exact .inl h
    · exact .inr fun g hg => by have := h g hg; first | omega | (simp at this; omega)
/-- What a reading of a builder leaves. -/
structure BldR (v : Value) (w w' : World) : Prop where
  os : w'.os = w.os
  tape : w'.tape = w.tape
  output : w'.output = w.output
  size : w.heap.size ≤ w'.heap.size
  keep : ∀ k, k < w.heap.size → some k ≠ v.ownBlock → w'.heap[k]? = w.heap[k]?
theorem BldR.of {v : Value} {w w' : World} (h : Below w.heap.size w w') : BldR v w w' := ⟨h.os, h.tape, h.output, h.size, fun k hk _ => h.block k hk⟩
theorem bld_len {P : Program} {ρ : Ren} (L : Lays.n170 P ρ) (b : Nat) (used : Bool) (v : Value) (l : List Value) (w : World)
    (hbk : w.heap[b]? = some (.cells #[.pointer (if used then some ⟨b, 0, none⟩ else none), v] (ρ.t 72) (0, 0))) (hown : w.ownsRow 0 (ρ.t 5) 1 v l.length l) (hne : v.ownBlock ≠ some b) :
    Calls P (ρ.f 170) #[.pointer (some ⟨b, 0, none⟩)] w fun e w' => e = .returned (.int .i64 l.length) ∧ w' = w := by
  refine Any.Builder_Len L 0 b l w ?_
  cases used
  · exact .inl ⟨Nat.zero_le _, v, hbk, hown, hne⟩
  · exact .inr ⟨Nat.zero_le _, v, hbk, hown, hne⟩
set_option maxHeartbeats 1000000 in
set_option maxRecDepth 100000 in
theorem bld_string {P : Program} {ρ : Ren} (L : Lays.n169 P ρ) (X : Builder.Extra P ρ) (b : Nat) (p v : Value) (l : List UInt8) (w : World)
    (hbk : w.heap[b]? = some (.cells #[p, v] (ρ.t 72) (0, 0))) (hown : w.ownsRow 0 (ρ.t 5) 1 v l.length (Lib.byteCells l)) :
    Calls P (ρ.f 169) #[.pointer (some ⟨b, 0, none⟩)] w fun e w' => e = .returned (.string ⟨l.toArray⟩) ∧ BldR v w w' := by
  by_cases h0 : l = []
  · subst h0
    rcases hown.2 with ⟨rfl, _⟩ | ⟨g, cap, cur, rfl, hbg, hg, hnc, hcm, hcs, htake⟩
    · refine (Any.Builder_String_nil L X w.heap.size b p w hbk).mono ?_
      rintro e w' ⟨rfl, hb⟩
      exact ⟨rfl, .of hb⟩
    · by_cases hc : cap = 0
      · subst hc
        refine (Any.Builder_String_noroom L X w.heap.size b g p cur w (Nat.le_refl _) hbk hg).mono ?_
        rintro e w' ⟨rfl, hb⟩
        exact ⟨rfl, .of hb⟩
      · refine (Any.Builder_String_room L X w.heap.size b g cap p w hc hbk).mono ?_
        rintro e w' ⟨rfl, hb⟩
        exact ⟨rfl, .of hb⟩
  · have hl0 : l.length ≠ 0 := by simpa using h0
    obtain ⟨g, cap, cur, rfl, hbg, hg, hnc, hcm, hcs, htake⟩ : ∃ g cap cur, v = .slice (some ⟨g, 0, none⟩) l.length cap ∧ 0 ≤ g ∧ w.heap[g]? = some (.cells cur (ρ.t 5) (0, 0)) ∧ l.length ≤ cap ∧ cap ≤ maxLen ∧ cur.size = cap * 1 ∧ cur.toList.take (l.length * 1) = Lib.byteCells l := by
      rcases hown.2 with ⟨_, hz⟩ | ⟨g, cap, cur, hv, r⟩
      · exact absurd hz hl0
      · exact ⟨g, cap, cur, hv, r⟩
    have c1 : w.drew.cell? ⟨b, 1, none⟩ = some (.slice (some ⟨g, 0, none⟩) l.length cap) := by
      have : w.drew.heap[b]? = some (.cells #[p, .slice (some ⟨g, 0, none⟩) l.length cap] (ρ.t 72) (0, 0)) := hbk
      rw [Lib.cell_of_heap this]; rfl
    have hSD : (Builtin.unsafeSliceData_ #[(ρ.t 37)] (ρ.t 127) #[.slice (some ⟨g, 0, none⟩) l.length cap]).run P w.drew = .ok (.pointer (some ⟨g, 0, none⟩)) w.drew :=
      Lib.run_unsafeSliceData_row _ _ _ _ _ _ (by omega)
    have hUS : (Builtin.unsafeString_ #[(ρ.t 127), (ρ.t 3)] (ρ.t 9) #[.pointer (some ⟨g, 0, none⟩), .int .i64 l.length]).run P w.drew = .ok (.string ⟨l.toArray⟩) (w.drew.freeze ⟨g, 0, none⟩ l.length) := by
      refine Lib.run_unsafeString_row w.drew (ρ.t 127) (ρ.t 3) (ρ.t 9) (ρ.t 5) L.t127 X.cellsByte g cur.size (by have hg' : w.drew.heap[g]? = some (.cells cur (ρ.t 5) (0, 0)) := hg; simp [World.shape?, hg']) l h0 (by omega) (by unfold maxLen at hcm; omega) ?_
      intro j x hx
      exact hown.cells (g := g) rfl j (.int .u8 x.toNat) (by simp [Lib.byteCells, hx])
    have mixed := L.mixed
    have t72 := L.t72; have a72 := L.a72; have z72 := L.z72; have v72 := L.v72; have u72 := run_underlying L.t72
    have t70 := L.t70; have a70 := L.a70; have z70 := L.z70; have v70 := L.v70; have u70 := run_underlying L.t70
    have t37 := L.t37; have a37 := L.a37; have z37 := L.z37; have v37 := L.v37; have u37 := run_underlying L.t37
    have t127 := L.t127; have a127 := L.a127; have z127 := L.z127; have v127 := L.v127; have u127 := run_underlying L.t127
    have t3 := L.t3; have a3 := L.a3; have z3 := L.z3; have v3 := L.v3; have u3 := run_underlying L.t3
    have t9 := L.t9; have a9 := L.a9; have z9 := L.z9; have v9 := L.v9; have u9 := run_underlying L.t9
    have t5 := X.t5; have a5 := X.a5; have z5 := X.z5; have v5 := X.v5; have u5 := run_underlying X.t5
    have fin : BldR (.slice (some ⟨g, 0, none⟩) l.length cap) w (w.drew.freeze ⟨g, 0, none⟩ l.length) := by
      unfold World.freeze
      rw [if_neg hl0]
      refine ⟨rfl, rfl, rfl, by simp, fun k hk hne => ?_⟩
      show (w.heap.modify g _)[k]? = _
      rw [Array.getElem?_modify, if_neg (fun e => hne (by rw [← e]; rfl))]
    go_enter L.f169, Body.n169_ntmps ρ
    go_wp2
    go_region_o
    all_goals (go_wp2; go_ret; exact ⟨rfl, fin⟩)
end Go.Proofs.YtjjanbljkoaojaaGreatDoor

namespace Go.Proofs.YtjjanbljkoaojaaGreatDoor
open Go Go.Proofs Go.Abs Go.RowKit Go.Shelf Go.Lib
variable {G : Globals}
/-! strings.Builder: the contracts. -/
theorem ptr_inv {h : Held} {ρ : Abs.Place} {u : Value} {g S : Nat} (r : R h ρ u (.ptr 0 0)) (hρ : ρ 0 = some (g, S)) : u = .pointer (some ⟨g, 0, none⟩) := by
  cases r with
  | ptr b off g' S' h1 => rw [hρ] at h1; cases h1; rfl
theorem bld_fin {h : Held} {ρ : Abs.Place} {H : List ABlk} {w w' : World} {T e : TypeId} {g S : Nat} {v : Value} {l : List UInt8} (s : Sim G h ρ (hp H) w) (hm : 0 < H.length) (hρ0 : ρ 0 = some (g, S)) (hh : ∀ j, h g j = none)
    (hv : ∀ g1, v.ownBlock = some g1 → (∃ i S1, ρ i = some (g1, S1)) ∧ g1 ≠ g ∧ ∀ j, h g1 j = none) (bw : BldW T e g v (byteCells l) w w') :
    ∃ ρ', Sim G h ρ' (hp (.bld T true l.length (some H.length) :: (List.replicate (H.length - 1) .dead ++ [.buf e l]))) w' ∧ Step h ρ w h ρ' w' := by
  obtain ⟨v', b1, b2, b3⟩ := bw.left
  have bl : (byteCells l).length = l.length := byteCells_length l
  rw [bl] at b2
  have hgl : g < w.heap.size := (s.dom 0 g S hρ0).1
  have hρm : ρ H.length = none := by
    cases hx : ρ H.length with
    | none => rfl
    | some x => obtain ⟨_, b, hb⟩ := s.dom _ x.1 x.2 hx; simp [hp] at hb
  have hkept : ∀ b o u, h b o = some u → w'.heap[b]? = w.heap[b]? := by
    intro b o u hbu
    refine bw.keep b (s.held_lt hbu) (fun e => by rw [e, hh] at hbu; cases hbu) (fun e => ?_)
    have := (hv b e.symm).2.2 o
    rw [hbu] at this; cases this
  have hprom : ∀ b o u, h b o = some u → w'.cell? ⟨b, o, none⟩ = some u := by
    intro b o u hbu
    have := s.prom b o u hbu
    rw [← this]
    simp [World.cell?, hkept b o u hbu]
  have key : ∃ ρ' : Abs.Place, ρ.le ρ' ∧ (∀ i g2 S2, ρ' i = some (g2, S2) → i = H.length ∨ ρ i = some (g2, S2)) ∧ (∀ i, i ≠ H.length → ρ' i = ρ i) ∧ BufR ρ' v' l.length (some H.length) ∧ BlkR h ρ' w' H.length (.buf e l) ∧
      (∀ g2 S2, ρ' H.length = some (g2, S2) → g2 ≠ g ∧ g2 < w'.heap.size ∧ ((∃ i S1, ρ i = some (g2, S1)) ∨ w.heap.size ≤ g2)) := by
    rcases b2.2 with ⟨rfl, h0⟩ | ⟨g2, cap, cur, rfl, _, k1, k2, k3, k4, k5⟩
    · refine ⟨ρ, Place.le_refl _, fun i g2 S2 e => .inr e, fun _ _ => rfl, .inl ⟨rfl, h0⟩, .inl ⟨hρm, List.eq_nil_of_length_eq_zero h0⟩, fun g2 S2 e => by rw [hρm] at e; cases e⟩
    · have hg2 : g2 ≠ g ∧ ((∃ i S1, ρ i = some (g2, S1)) ∨ w.heap.size ≤ g2) ∧ ∀ j, h g2 j = none := by
        rcases b3 with b3 | b3
        · obtain ⟨c1, c2, c3⟩ := hv g2 b3.symm
          exact ⟨c2, .inl c1, c3⟩
        · have := b3 g2 rfl
          refine ⟨by omega, .inr this, fun j => ?_⟩
          cases hj : h g2 j with
          | none => rfl
          | some u => have := s.held_lt hj; omega
      have hlt : g2 < w'.heap.size := (Array.getElem?_eq_some_iff.1 k1).1
      refine ⟨updP ρ H.length (g2, cap), fun i x e => ?_, fun i g3 S3 e => ?_, fun i hi => by simp [updP, hi], .inr ⟨g2, cap, rfl, updP_same _ _ _, k2⟩, .inr ⟨g2, cap, cur, updP_same _ _ _, k1, by simpa using k4, k3, by omega, fun j x hx => ?_, hg2.2.2⟩, fun g3 S3 e => ?_⟩
      · by_cases hi : i = H.length
        · subst hi; rw [hρm] at e; cases e
        · simp [updP, hi, e]
      · by_cases hi : i = H.length
        · exact .inl hi
        · simp [updP, hi] at e; exact .inr e
      · have hj : j < l.length := (List.getElem?_eq_some_iff.1 hx).1
        have h1 : (cur.toList.take (l.length * 1))[j]? = (byteCells l)[j]? := by rw [k5]
        rw [List.getElem?_take, if_pos (by omega)] at h1
        rw [← Array.getElem?_toList, h1]
        simp [byteCells, hx]
      · rw [updP_same] at e
        cases e
        exact ⟨hg2.1, hlt, hg2.2.1⟩
  obtain ⟨ρ', p1, p2, p3, p4, p5, p6⟩ := key
  have hρ0' : ρ' 0 = some (g, S) := p1 _ _ hρ0
  have hlen : (ABlk.bld T true l.length (some H.length) :: (List.replicate (H.length - 1) ABlk.dead ++ [.buf e l])).length = H.length + 1 := by simp; omega
  have hat : ∀ i b, (ABlk.bld T true l.length (some H.length) :: (List.replicate (H.length - 1) ABlk.dead ++ [.buf e l]))[i]? = some b → (i = 0 ∧ b = .bld T true l.length (some H.length)) ∨ (i = H.length ∧ b = .buf e l) ∨ (0 < i ∧ i < H.length ∧ b = .dead) := by
    intro i b hi
    rcases i with _ | i
    · simp at hi; exact .inl ⟨rfl, hi.symm⟩
    · rw [List.getElem?_cons_succ] at hi
      by_cases hc : i < H.length - 1
      · rw [List.getElem?_append_left (by simpa using hc), List.getElem?_replicate, if_pos hc] at hi
        cases hi
        exact .inr (.inr ⟨by omega, by omega, rfl⟩)
      · rw [List.getElem?_append_right (by simpa using hc)] at hi
        have : i - (List.replicate (H.length - 1) ABlk.dead).length = 0 := by
          have := (List.getElem?_eq_some_iff.1 hi).1
          simp at this ⊢; omega
        rw [this] at hi
        simp at hi this
        exact .inr (.inl ⟨by omega, hi.symm⟩)
  have hex : ∀ i, i < H.length + 1 → ∃ b, hp (ABlk.bld T true l.length (some H.length) :: (List.replicate (H.length - 1) ABlk.dead ++ [.buf e l])) i = some b := by
    intro i hi
    refine ⟨_, List.getElem?_eq_getElem (by rw [hlen]; exact hi)⟩
  refine ⟨ρ', ⟨hprom, s.glob, fun i b hb => ?_, fun i g2 S2 e2 => ?_, fun i j g2 S2 S2' e1 e2 l1 l2 => ?_⟩, ⟨bw.os, bw.tape, bw.output, bw.size, fun k hk hn => ?_, Held.le_refl _, fun _ _ _ _ => rfl, p1, fun i g2 S2 e2 => ?_⟩⟩
  · rcases hat i b hb with ⟨rfl, rfl⟩ | ⟨rfl, rfl⟩ | ⟨_, _, rfl⟩
    · exact ⟨g, S, v', hρ0', b1, p4, hh⟩
    · exact p5
    · trivial
  · rcases p2 i g2 S2 e2 with rfl | e3
    · exact ⟨(p6 _ _ e2).2.1, hex _ (by omega)⟩
    · obtain ⟨c1, b, c2⟩ := s.dom i g2 S2 e3
      have : i < H.length := (List.getElem?_eq_some_iff.1 c2).1
      exact ⟨by have := bw.size; omega, hex _ (by omega)⟩
  · have lv : ∀ i, live (hp (ABlk.bld T true l.length (some H.length) :: (List.replicate (H.length - 1) ABlk.dead ++ [.buf e l]))) i → i = 0 ∨ i = H.length := by
      intro i ⟨b, hb, hne⟩
      rcases hat i b hb with ⟨h1, _⟩ | ⟨h1, _⟩ | ⟨_, _, h1⟩
      · exact .inl h1
      · exact .inr h1
      · exact absurd h1 hne
    rcases lv i l1 with rfl | rfl <;> rcases lv j l2 with rfl | rfl
    · rfl
    · rw [hρ0'] at e1; cases e1; exact absurd rfl (p6 _ _ e2).1
    · rw [hρ0'] at e2; cases e2; exact absurd rfl (p6 _ _ e1).1
    · rfl
  · refine bw.keep k hk (fun e => hn 0 S (e ▸ hρ0)) (fun e => ?_)
    obtain ⟨⟨i, S1, c⟩, _⟩ := hv k e.symm
    exact hn i S1 c
  · rcases p2 i g2 S2 e2 with rfl | e3
    · exact (p6 _ _ e2).2.2
    · exact .inl ⟨i, S2, e3⟩
end Go.Proofs.YtjjanbljkoaojaaGreatDoor

namespace Go.Proofs.YtjjanbljkoaojaaGreatDoor
open Go Go.Proofs Go.Abs Go.RowKit Go.Shelf Go.Lib
variable {G : Globals}
/-! strings.Builder: WriteString, WriteByte, Len, String. -/
theorem Tryz.laysWriteString : Lays.n166 Tryz.prog Tryz.laysReplaceAll_ren := { Tryz.laysReplaceAll with }
theorem Tryz.laysString : Lays.n169 Tryz.prog Tryz.laysReplaceAll_ren := { Tryz.laysReplaceAll with }
def Tryz.laysLen_ren : Go.Shelf.Ren := ⟨fun | 170 => 30 | n => n, fun | 70 => 55 | 3 => 3 | 0 => 0 | 72 => 57 | 37 => 22 | 5 => 5 | n => n, fun | n => n⟩
theorem Tryz.laysLen : Go.Proofs.Lays.n170 Tryz.prog Tryz.laysLen_ren where
  mixed := by kernel_rfl
  f170 := Tryz.func30.trans (congrArg some (by kernel_rfl))
  t0 := Tryz.underlying0
  a0 := Tryz.isAgg0
  z0 := Tryz.sizeOf0
  v0 := Tryz.zeroValue0
  t3 := Tryz.underlying3
  a3 := Tryz.isAgg3
  z3 := Tryz.sizeOf3
  v3 := Tryz.zeroValue3
  t37 := Tryz.underlying22
  a37 := Tryz.isAgg22
  z37 := Tryz.sizeOf22
  v37 := Tryz.zeroValue22
  t70 := Tryz.underlying55
  a70 := Tryz.isAgg55
  z70 := Tryz.sizeOf55
  v70 := Tryz.zeroValue55
  t72 := Tryz.underlying57
  a72 := Tryz.isAgg57
  z72 := Tryz.sizeOf57
  v72 := Tryz.zeroValue57

abbrev BL (used : Bool) (l : List UInt8) : List ABlk := [.bld 57 used l.length (some 1), .buf 5 l]
/-- What memory holds of a builder. -/
theorem bl_own {h : Held} {ρ : Abs.Place} {w : World} {used : Bool} {l : List UInt8} {T e : TypeId} (s : Sim G h ρ (hp [.bld T used l.length (some 1), .buf e l]) w) :
    ∃ g S v, ρ 0 = some (g, S) ∧ (∀ j, h g j = none) ∧ w.heap[g]? = some (.cells #[.pointer (if used then some ⟨g, 0, none⟩ else none), v] T (0, 0)) ∧ w.ownsRow 0 e 1 v l.length (byteCells l) ∧
      ∀ g1, v.ownBlock = some g1 → (∃ i S1, ρ i = some (g1, S1)) ∧ g1 ≠ g ∧ ∀ j, h g1 j = none := by
  obtain ⟨g, S, v, h1, h2, h3, h4⟩ := s.blk 0 _ rfl
  refine ⟨g, S, v, h1, h4, h2, ?_⟩
  have bl : (byteCells l).length = l.length * 1 := by rw [byteCells_length, Nat.mul_one]
  rcases h3 with ⟨rfl, h0⟩ | ⟨g1, cap, rfl, h5, h6⟩
  · exact ⟨⟨bl, .inl ⟨rfl, h0⟩⟩, fun g1 e => by cases e⟩
  · rcases s.blk 1 _ rfl with ⟨k1, _⟩ | ⟨g2, S2, c, k1, k2, k3, k4, k5, k6, k7⟩
    · rw [h5] at k1; cases k1
    · rw [h5] at k1; cases k1
      refine ⟨⟨bl, .inr ⟨g1, cap, c, rfl, Nat.zero_le _, k2, h6, k4, by omega, ?_⟩⟩, fun g3 e => ?_⟩
      · apply List.ext_getElem?
        intro j
        rw [List.getElem?_take]
        split
        · rename_i hj
          have hj' : j < l.length := by omega
          rw [Array.getElem?_toList, k6 j l[j] (List.getElem?_eq_getElem hj')]
          simp [byteCells, hj']
        · rename_i hj
          rw [List.getElem?_eq_none (by rw [byteCells_length]; omega)]
      · have : g1 = g3 := Option.some.inj e
        subst this
        refine ⟨⟨1, _, h5⟩, fun e => ?_, k7⟩
        subst e
        have := s.inj 0 1 g1 _ _ h1 h5 ⟨_, rfl, by simp⟩ ⟨_, rfl, by simp⟩
        cases this
theorem writeString_next (used : Bool) (l x : List UInt8) (hl : l.length ≤ 10000000000000) (hx : x.length ≤ 10000000000000) :
    Ctr Tryz.prog G 29 [.ptr 0 0, .d (S x)] (BL used l) (.tup [.d (.int .i64 x.length), .undef]) [.bld 57 true (l ++ x).length (some 2), .dead, .buf 5 (l ++ x)] := by
  refine ⟨go29, fun h ρ w vs s r => ?_⟩
  obtain ⟨v, u, rfl, hv, hu⟩ := r.inv2
  obtain ⟨g, S, vb, h1, h4, h2, h3, h5⟩ := bl_own s
  rw [ptr_inv hv h1, hu.str_inv]
  have hne : vb.ownBlock ≠ some g := fun e => (h5 g e).2.1 rfl
  refine (bld_writeString Tryz.laysWriteString extraB g used vb (byteCells l) (bs x) w h2 (by rw [byteCells_length]; exact h3) hne (by rw [bs_size, byteCells_length]; omega)).mono ?_
  rintro e w' ⟨rfl, bw⟩
  obtain ⟨ρ', s1, s2⟩ := bld_fin (l := l ++ x) s (by simp) h1 h4 h5 (by rw [byteCells_append]; exact bw)
  refine ⟨_, h, ρ', rfl, s1, ?_, s2⟩
  refine .tup _ _ rfl fun i v y hv hy => ?_
  rcases i with _ | _ | i <;> simp at hv hy
  · subst hv; subst hy; rw [bs_size]; exact .d _ _ (.int _ _)
  · subst hv; subst hy; exact .undef _
theorem len_spec (used : Bool) (l : List UInt8) : Ctr Tryz.prog G 30 [.ptr 0 0] (BL used l) (.d (.int .i64 l.length)) (BL used l) := by
  refine ⟨go30, fun h ρ w vs s r => ?_⟩
  obtain ⟨v, rfl, hv⟩ := r.inv1
  obtain ⟨g, S, vb, h1, h4, h2, h3, h5⟩ := bl_own s
  rw [ptr_inv hv h1]
  have hne : vb.ownBlock ≠ some g := fun e => (h5 g e).2.1 rfl
  refine (bld_len Tryz.laysLen g used vb (byteCells l) w h2 (by rw [byteCells_length]; exact h3) hne).mono ?_
  rintro e w' ⟨rfl, rfl⟩
  rw [byteCells_length]
  exact ⟨_, h, ρ, rfl, s, .d _ _ (.int _ _), Step.refl _ _ _⟩
end Go.Proofs.YtjjanbljkoaojaaGreatDoor

namespace Go.Proofs.YtjjanbljkoaojaaGreatDoor
open Go Go.Proofs Go.Abs Go.RowKit Go.Shelf Go.Lib
variable {G : Globals}
/-! strings.Builder: WriteByte, String. -/
def Tryz.laysWriteByte_ren : Go.Shelf.Ren := ⟨fun | 167 => 28 | n => Tryz.laysReplaceAll_ren.f n, Tryz.laysReplaceAll_ren.t, Tryz.laysReplaceAll_ren.g⟩
theorem Tryz.laysWriteByte : Lays.n167 Tryz.prog Tryz.laysWriteByte_ren :=
  { Tryz.laysReplaceAll with f167 := Tryz.func28.trans (congrArg some (by kernel_rfl)) }
theorem extraY : Builder.Extra Tryz.prog Tryz.laysWriteByte_ren where
  sizeBuilder := by kernel_rfl
  liesBuilder := by kernel_rfl
  t5 := Tryz.underlying5
  a5 := Tryz.isAgg5
  z5 := Tryz.sizeOf5
  v5 := Tryz.zeroValue5
  infoByte := by kernel_rfl
  cellsByte := by kernel_rfl
  sizeByte := by kernel_rfl
  neB5 := by decide
theorem writeByte_next (used : Bool) (l : List UInt8) (c : UInt8) (hl : l.length ≤ 10000000000000) :
    Ctr Tryz.prog G 28 [.ptr 0 0, .d (.int .u8 c.toNat)] (BL used l) .undef [.bld 57 true (l ++ [c]).length (some 2), .dead, .buf 5 (l ++ [c])] := by
  refine ⟨go28, fun h ρ w vs s r => ?_⟩
  obtain ⟨v, u, rfl, hv, hu⟩ := r.inv2
  obtain ⟨g, S, vb, h1, h4, h2, h3, h5⟩ := bl_own s
  rw [ptr_inv hv h1, hu.int_inv]
  have hne : vb.ownBlock ≠ some g := fun e => (h5 g e).2.1 rfl
  refine (bld_writeByte Tryz.laysWriteByte extraY g used vb (byteCells l) c.toNat w h2 (by rw [byteCells_length]; exact h3) hne (by rw [byteCells_length]; omega)).mono ?_
  rintro e w' ⟨rfl, bw⟩
  obtain ⟨ρ', s1, s2⟩ := bld_fin (l := l ++ [c]) s (by simp) h1 h4 h5 (by rw [byteCells_append]; exact bw)
  exact ⟨_, h, ρ', rfl, s1, .undef _, s2⟩
/-- String freezes the bytes: the buffer is given up. -/
theorem string_spec (used : Bool) (l : List UInt8) : Ctr Tryz.prog G 31 [.ptr 0 0] (BL used l) (.d (S l)) [.dead, .dead] := by
  refine ⟨go31, fun h ρ w vs s r => ?_⟩
  obtain ⟨v, rfl, hv⟩ := r.inv1
  obtain ⟨g, S, vb, h1, h4, h2, h3, h5⟩ := bl_own s
  rw [ptr_inv hv h1]
  refine (bld_string Tryz.laysString extraB g _ vb l w h2 h3).mono ?_
  rintro e w' ⟨rfl, hb⟩
  have hpr : ∀ b o u, h b o = some u → w'.cell? ⟨b, o, none⟩ = some u := fun b o u e => by
    rw [← s.prom b o u e]
    have : w'.heap[b]? = w.heap[b]? := hb.keep b (s.held_lt e) (fun e2 => by have := (h5 b e2.symm).2.2 o; rw [e] at this; cases this)
    simp [World.cell?, this]
  have st : Step h ρ w h ρ w' := ⟨hb.os, hb.tape, hb.output, hb.size, fun k hk1 hn => hb.keep k hk1 (fun e2 => by obtain ⟨⟨i, S1, c⟩, _⟩ := h5 k e2.symm; exact hn i S1 c), Held.le_refl _, fun _ _ _ _ => rfl, Place.le_refl _, fun i g S e => .inl ⟨i, S, e⟩⟩
  have hd : ∀ i b, hp [ABlk.dead, ABlk.dead] i = some b → b = .dead := by
    intro i b e
    rcases i with _ | _ | i <;> simp [hp] at e
    · exact e.symm
    · exact e.symm
  refine ⟨_, h, ρ, rfl, ⟨hpr, s.glob, fun i b e => by rw [hd i b e]; trivial, fun i g S e => ?_, fun i j g S S' e1 e2 l1 l2 => ?_⟩, .d _ _ (.str _), st⟩
  · obtain ⟨c1, b, c2⟩ := s.dom i g S e
    have hi : i < 2 := (List.getElem?_eq_some_iff.1 c2).1
    refine ⟨by have := hb.size; omega, .dead, ?_⟩
    rcases (by omega : i = 0 ∨ i = 1) with rfl | rfl <;> rfl
  · obtain ⟨b, c1, c2⟩ := l1
    exact absurd (hd i b c1) c2
end Go.Proofs.YtjjanbljkoaojaaGreatDoor

namespace Go.Proofs.YtjjanbljkoaojaaGreatDoor
open Go Go.Proofs Go.Abs
variable {G : Globals}
/-! The dice; the words. -/
def strs (l : List (List UInt8)) : List D := l.map fun s => S s
theorem strs_length {l : List (List UInt8)} : (strs l).length = l.length := by simp [strs]
theorem strs_unf {l : List (List UInt8)} : (strs l).map unf0 = strs l := by simp [strs, unf0]
theorem strs_getD {l : List (List UInt8)} {i : Nat} (h : i < l.length) : (strs l).getD i .nilp = S (l.getD i []) := by
  simp [strs, List.getD_eq_getElem?_getD, h]
abbrev Ss (l : List (List UInt8)) (full : Bool) : D := .sl l.length full (strs l)
def wordsL : List (List UInt8) := [[97, 110, 110], [98, 111, 98], [99, 121], [66, 101, 114, 110], [85, 108, 109], [78, 101, 119, 32, 89, 111, 114, 107], [121, 111, 114, 107, 32, 110, 101, 119], [97, 45, 49], [98, 45, 50, 50], [120], [122, 195, 188, 114, 105, 99, 104], [65, 110, 110], [98, 111], [99, 97, 116], [98, 97, 116], [114, 97, 116]]
abbrev DiceM (t : List Int) (k : Nat) : ABlk := .box [.d (.sl t.length false (ints .u8 t)), .d (.int .i64 (min k t.length : Nat))]
def OkM (t : List Int) : Prop := t.length ≤ 300 ∧ ∀ i, 0 ≤ t.getD i 0 ∧ t.getD i 0 ≤ 255
theorem new_spec (t : List Int) (ht : t.length ≤ 9223372036854775807) : Ctr Tryz.prog G 5 [.d (.sl t.length false (ints .u8 t))] [] (.ptr 0 0) [DiceM (t.take 300) 0] := by
  refine Ctr.body (M := M0) hmix Tryz.func5 rfl go5 ?_
  rcases Nat.lt_or_ge 300 t.length with h | h
  · have e : (t.take 300).length = 300 := by rw [List.length_take]; omega
    simp (config := { maxSteps := 1000000 }) (disch := ((try simp only [awL]); omega)) only [Tryz.f5, e, ↓awU, awV, awF, ofVal, ofVal0, isShift, aggK, forall_const, ↓reduceIte, ↓reduceDIte, ↓purePost, combine, idsA, cellsA, numsOf, srcA, calleeA, refsA, isScalar, scalarD, scalar0, AV.one, putL, unfA, implies_true, IntKind.signed, Nat.reduceAdd, Nat.reduceSub, Nat.reduceMul, Nat.reducePow, Nat.reduceDiv, Nat.reduceMod, Int.reduceAdd, Int.reduceSub, Int.reduceMul, Int.reducePow, Int.reduceNeg, Int.reduceToNat, Int.reduceLT, Int.reduceLE, Nat.reduceEqDiff, sidsB, Nat.reduceBEq, keyKD, isIntK, aggD, aggL, eqKs]
    exact ⟨[some 0], rfl, by simp, by simp [HWeak, BWeak, SWeak, AWeak]; omega, .inl (by simp [AWeak])⟩
  · have e : t.take 300 = t := List.take_of_length_le h
    simp (config := { maxSteps := 1000000 }) (disch := ((try simp only [awL]); omega)) only [Tryz.f5, e, ↓awU, awV, awF, ofVal, ofVal0, isShift, aggK, forall_const, ↓reduceIte, ↓reduceDIte, ↓purePost, combine, idsA, cellsA, numsOf, srcA, calleeA, refsA, isScalar, scalarD, scalar0, AV.one, putL, unfA, implies_true, IntKind.signed, Nat.reduceAdd, Nat.reduceSub, Nat.reduceMul, Nat.reducePow, Nat.reduceDiv, Nat.reduceMod, Int.reduceAdd, Int.reduceSub, Int.reduceMul, Int.reducePow, Int.reduceNeg, Int.reduceToNat, Int.reduceLT, Int.reduceLE, Nat.reduceEqDiff, sidsB, Nat.reduceBEq, keyKD, isIntK, aggD, aggL, eqKs]
    exact ⟨[some 0], rfl, by simp, by simp [HWeak, BWeak, SWeak, AWeak], .inl (by simp [AWeak, SWeak])⟩
def pk (t : List Int) (k : Nat) (n : Int) : Int := t.getD k 0 % n
theorem pk_range {t : List Int} {k : Nat} {n : Int} (h : 0 < n) : 0 ≤ pk t k n ∧ pk t k n < n := ⟨Int.emod_nonneg _ (by omega), Int.emod_lt_of_pos _ h⟩
theorem pk_nat (t : List Int) (k : Nat) (n : Int) (h : 0 < n) : ∃ c : Nat, pk t k n = c ∧ (c : Int) < n := ⟨(pk t k n).toNat, by have := @pk_range t k n h; omega, by have := @pk_range t k n h; omega⟩
set_option maxHeartbeats 4000000 in
set_option maxRecDepth 100000 in
theorem pick_spec (t : List Int) (k : Nat) (n : Int) (ht : OkM t) (h0 : 0 < n) (h1 : n ≤ 1000) :
    Ctr Tryz.prog G 18 [.ptr 0 0, .d (.int .i64 n)] [DiceM t k] (.d (.int .i64 (pk t k n))) [DiceM t (k + 1)] := by
  obtain ⟨ht, htt⟩ := ht
  refine Ctr.body (M := M0) hmix Tryz.func18 rfl go18 ?_
  rcases Nat.lt_or_ge k t.length with h | h
  · have e1 : min k t.length = k := by omega
    have e2 : min (k + 1) t.length = k + 1 := by omega
    obtain ⟨b1, b2⟩ := htt k
    have e3 : (t.getD k 0).tmod n = pk t k n := Int.tmod_eq_emod_of_nonneg b1
    simp only [e1, e2, DiceM]
    simp (config := { maxSteps := 1000000 }) (disch := ((try simp only [awL]); omega)) only [Tryz.f18, e3, ↓awU, awV, awF, ofVal, ofVal0, isShift, aggK, forall_const, ↓reduceIte, ↓reduceDIte, ↓purePost, combine, idsA, cellsA, numsOf, srcA, calleeA, refsA, isScalar, scalarD, scalar0, AV.one, putL, unfA, implies_true, IntKind.signed, Nat.reduceAdd, Nat.reduceSub, Nat.reduceMul, Nat.reducePow, Nat.reduceDiv, Nat.reduceMod, Int.reduceAdd, Int.reduceSub, Int.reduceMul, Int.reducePow, Int.reduceNeg, Int.reduceToNat, Int.reduceLT, Int.reduceLE, Nat.reduceEqDiff, sidsB, Nat.reduceBEq, keyKD, isIntK, aggD, aggL, eqKs]
    refine ⟨by rfl, by rfl, ?_⟩
    exact ⟨[some 0], rfl, by simp, by simp [HWeak, BWeak, SWeak, AWeak], .inl (by simp [AWeak, SWeak])⟩
  · have e1 : min k t.length = t.length := by omega
    have e2 : min (k + 1) t.length = t.length := by omega
    have e3 : pk t k n = 0 := by rw [pk, List.getD_eq_getElem?_getD, List.getElem?_eq_none h]; simp
    simp only [e1, e2, e3, DiceM]
    simp (config := { maxSteps := 1000000 }) (disch := ((try simp only [awL]); omega)) only [Tryz.f18, ↓awU, awV, awF, ofVal, ofVal0, isShift, aggK, forall_const, ↓reduceIte, ↓reduceDIte, ↓purePost, combine, idsA, cellsA, numsOf, srcA, calleeA, refsA, isScalar, scalarD, scalar0, AV.one, putL, unfA, implies_true, IntKind.signed, Nat.reduceAdd, Nat.reduceSub, Nat.reduceMul, Nat.reducePow, Nat.reduceDiv, Nat.reduceMod, Int.reduceAdd, Int.reduceSub, Int.reduceMul, Int.reducePow, Int.reduceNeg, Int.reduceToNat, Int.reduceLT, Int.reduceLE, Nat.reduceEqDiff, sidsB, Nat.reduceBEq, keyKD, isIntK, aggD, aggL, eqKs]
    refine ⟨by rfl, ?_⟩
    exact ⟨[some 0], rfl, by simp, by simp [HWeak, BWeak, SWeak, AWeak], .inl (by simp [AWeak, SWeak])⟩
set_option maxRecDepth 100000 in
theorem words_spec : Ctr Tryz.prog G 41 [] [] (.d (Ss wordsL false)) [] := by
  refine Ctr.pure (M := M0) hmix Tryz.func41 rfl go41 ?_
  simp (config := { maxSteps := 1000000 }) (disch := ((try simp only [awL]); omega)) only [Option.toList_some, Option.toList_none, nextC_more, nextC_over, bs_size, bs_extract, bs_toList, bs_append, byteAt_bs, bs_cells, nums_length, nums_getD, Tryz.f41, ↓awU, awV, awF, ofVal, ofVal0, isShift, aggK, forall_const, ↓reduceIte, ↓reduceDIte, ↓purePost, combine, idsA, cellsA, numsOf, srcA, calleeA, refsA, isScalar, scalarD, scalar0, AV.one, putL, unfA, implies_true, IntKind.signed, Nat.reduceAdd, Nat.reduceSub, Nat.reduceMul, Nat.reducePow, Nat.reduceDiv, Nat.reduceMod, Int.reduceAdd, Int.reduceSub, Int.reduceMul, Int.reducePow, Int.reduceNeg, Int.reduceToNat, Int.reduceLT, Int.reduceLE, Nat.reduceEqDiff, sidsB, Nat.reduceBEq, keyKD, isIntK, aggD, aggL, eqKs]
  try rfl
end Go.Proofs.YtjjanbljkoaojaaGreatDoor

namespace Go.Proofs.YtjjanbljkoaojaaGreatDoor
open Go Go.Proofs Go.Abs
variable {G : Globals}
/-! The known dialects. -/
abbrev Dia.D (d : Dia) : D := .agg [.int .u8 d.del.toNat, .int .u8 d.quo.toNat, .bool d.trim]
def diaC : List Dia → List D
  | [] => []
  | d :: l => .int .u8 d.del.toNat :: .int .u8 d.quo.toNat :: .bool d.trim :: diaC l
theorem diaC_length : ∀ l : List Dia, (diaC l).length = 3 * l.length
  | [] => rfl
  | d :: l => by simp only [diaC, List.length_cons, diaC_length l]; omega
theorem diaC_get {l : List Dia} {k : Nat} {d : Dia} (h : k < l.length) : ((diaC l).drop (k * 3)).take 3 = [.int .u8 (l.getD k d).del.toNat, .int .u8 (l.getD k d).quo.toNat, .bool (l.getD k d).trim] := by
  induction l generalizing k with
  | nil => cases h
  | cons p r ih =>
    cases k with
    | zero => rfl
    | succ k =>
      have := ih (k := k) (by simpa using h)
      rw [show (k + 1) * 3 = k * 3 + 1 + 1 + 1 by omega]
      simpa [diaC] using this
def dialL : List Dia := [44, 59, 9, 124].flatMap fun c => [34, 39, 0].flatMap fun q => [⟨c, q, false⟩, ⟨c, q, true⟩]
theorem dialL_length : dialL.length = 24 := rfl
abbrev dlsR (l : List Dia) : D := .sl l.length false (diaC l)
def dialT (n : Nat) : List D := diaC (dialL.take n)
theorem dialT_length {n : Nat} (h : n ≤ 24) : (dialT n).length = 3 * n := by
  rw [dialT, diaC_length, List.length_take, dialL_length]; omega
set_option maxRecDepth 100000 in
theorem dialT_step : ∀ i : Fin 4, ∀ j : Fin 3, dialT (6 * i.val + 2 * j.val) ++ [.int .u8 (([44, 59, 9, 124] : List Int).getD i.val 0), .int .u8 (([34, 39, 0] : List Int).getD j.val 0), .bool false, .int .u8 (([44, 59, 9, 124] : List Int).getD i.val 0), .int .u8 (([34, 39, 0] : List Int).getD j.val 0), .bool true] = dialT (6 * i.val + 2 * (j.val + 1)) := by
  intro i j
  obtain ⟨i, hi⟩ := i
  obtain ⟨j, hj⟩ := j
  rcases (by omega : i = 0 ∨ i = 1 ∨ i = 2 ∨ i = 3) with rfl | rfl | rfl | rfl <;> rcases (by omega : j = 0 ∨ j = 1 ∨ j = 2) with rfl | rfl | rfl <;> rfl
set_option maxHeartbeats 8000000 in
set_option maxRecDepth 100000 in
theorem rdialects_spec : Ctr Tryz.prog G 19 [] [] (.d (dlsR dialL)) [] := by
  refine Ctr.pure (M := M0) hmix Tryz.func19 rfl go19 ?_
  simp (config := { maxSteps := 1000000 }) (disch := ((try simp only [awL]); omega)) only [Tryz.f19, ↓awU, awV, awF, ofVal, ofVal0, isShift, aggK, forall_const, ↓reduceIte, ↓reduceDIte, ↓purePost, combine, idsA, cellsA, numsOf, srcA, calleeA, refsA, isScalar, scalarD, scalar0, AV.one, putL, unfA, implies_true, IntKind.signed, Nat.reduceAdd, Nat.reduceSub, Nat.reduceMul, Nat.reducePow, Nat.reduceDiv, Nat.reduceMod, Int.reduceAdd, Int.reduceSub, Int.reduceMul, Int.reducePow, Int.reduceNeg, Int.reduceToNat, Int.reduceLT, Int.reduceLE, Nat.reduceEqDiff, sidsB, Nat.reduceBEq, keyKD, isIntK, aggD, aggL, eqKs]
  obtain ⟨cs, hcs⟩ : ∃ cs : List Int, cs = [44, 59, 9, 124] := ⟨_, rfl⟩
  have hcl : cs.length = 4 := by rw [hcs]; rfl
  have hcI : ints .u8 cs = [.int .u8 44, .int .u8 59, .int .u8 9, .int .u8 124] := by rw [hcs]; rfl
  have cl := @ints_length .u8 cs
  refine LoopC.fr 192 (α := Nat) (fun i => 4 - i) (fun i => [(1, .lsl 1 3 0 (6 * i)), (8, .d (.int .i64 i))]) (fun i => [.row false (ints .u8 cs), .row false (dialT (6 * i))]) (fun i => i ≤ 4) 0 (Nat.zero_le _) ?_ ?_
  · exact ⟨[some 0, none], rfl, by simp, by simp [setsA, keepA, SWeak, AWeak], by simp [HWeak, BWeak, SWeak, AWeak, hcI, dialT, diaC]⟩
  · intro i hi
    simp only [awK, Nat.reduceMod, Nat.reduceDiv, reduceIte]
    rcases Nat.lt_or_ge i 4 with h | h
    · generalize hv : cs.getD i 0 = v at *
      simp (config := { maxSteps := 1000000 }) (disch := ((try simp only [awL]); omega)) only [cl, hcl, hv, ↓awU, awV, awF, ofVal, ofVal0, isShift, aggK, forall_const, ↓reduceIte, ↓reduceDIte, ↓purePost, combine, idsA, cellsA, numsOf, srcA, calleeA, refsA, isScalar, scalarD, scalar0, AV.one, putL, unfA, implies_true, IntKind.signed, Nat.reduceAdd, Nat.reduceSub, Nat.reduceMul, Nat.reducePow, Nat.reduceDiv, Nat.reduceMod, Int.reduceAdd, Int.reduceSub, Int.reduceMul, Int.reducePow, Int.reduceNeg, Int.reduceToNat, Int.reduceLT, Int.reduceLE, Nat.reduceEqDiff, sidsB, Nat.reduceBEq, keyKD, isIntK, aggD, aggL, eqKs]
      obtain ⟨qs, hqs⟩ : ∃ qs : List Int, qs = [34, 39, 0] := ⟨_, rfl⟩
      have hql : qs.length = 3 := by rw [hqs]; rfl
      have hqI : ints .u8 qs = [.int .u8 34, .int .u8 39, .int .u8 0] := by rw [hqs]; rfl
      have ql := @ints_length .u8 qs
      refine LoopC.fr 12744 (α := Nat) (fun j => 3 - j) (fun j => [(1, .lsl 1 3 0 (6 * i + 2 * j)), (14, .d (.int .i64 j))]) (fun j => [.row false (ints .u8 cs), .row false (dialT (6 * i + 2 * j)), .row false (ints .u8 qs)]) (fun j => j ≤ 3) 0 (Nat.zero_le _) ?_ ?_
      · exact ⟨[some 0, some 1, some 2], rfl, by simp, by simp [setsA, keepA, SWeak, AWeak], by simp [HWeak, BWeak, SWeak, AWeak, hqI]⟩
      · intro j hj
        simp only [awK, Nat.reduceMod, Nat.reduceDiv, reduceIte]
        rcases Nat.lt_or_ge j 3 with h2 | h2
        · have st := dialT_step ⟨i, h⟩ ⟨j, h2⟩
          simp only [← hcs, ← hqs] at st
          rw [hv] at st
          have tl := @dialT_length (6 * i + 2 * j) (by omega)
          generalize hu : qs.getD j 0 = u at *
          simp (config := { maxSteps := 1000000 }) (disch := ((try simp only [awL]); omega)) only [ql, hql, hu, tl, st, ↓awU, awV, awF, ofVal, ofVal0, isShift, aggK, forall_const, ↓reduceIte, ↓reduceDIte, ↓purePost, combine, idsA, cellsA, numsOf, srcA, calleeA, refsA, isScalar, scalarD, scalar0, AV.one, putL, unfA, implies_true, IntKind.signed, Nat.reduceAdd, Nat.reduceSub, Nat.reduceMul, Nat.reducePow, Nat.reduceDiv, Nat.reduceMod, Int.reduceAdd, Int.reduceSub, Int.reduceMul, Int.reducePow, Int.reduceNeg, Int.reduceToNat, Int.reduceLT, Int.reduceLE, Nat.reduceEqDiff, sidsB, Nat.reduceBEq, keyKD, isIntK, aggD, aggL, eqKs]
          refine ⟨by first | rfl | decide, j + 1, h2, by simp only; omega, ⟨[some 0, some 4, some 2], rfl, by simp, ?_, ?_⟩⟩
          · simp [setsA, keepA, SWeak, AWeak]; try omega
          · simp [HWeak, BWeak, SWeak, AWeak, cut, st]
        · obtain rfl : j = 3 := by omega
          simp (config := { maxSteps := 1000000 }) (disch := ((try simp only [awL]); omega)) only [ql, hql, ↓awU, awV, awF, ofVal, ofVal0, isShift, aggK, forall_const, ↓reduceIte, ↓reduceDIte, ↓purePost, combine, idsA, cellsA, numsOf, srcA, calleeA, refsA, isScalar, scalarD, scalar0, AV.one, putL, unfA, implies_true, IntKind.signed, Nat.reduceAdd, Nat.reduceSub, Nat.reduceMul, Nat.reducePow, Nat.reduceDiv, Nat.reduceMod, Int.reduceAdd, Int.reduceSub, Int.reduceMul, Int.reducePow, Int.reduceNeg, Int.reduceToNat, Int.reduceLT, Int.reduceLE, Nat.reduceEqDiff, sidsB, Nat.reduceBEq, keyKD, isIntK, aggD, aggL, eqKs]
          have e6 : 6 * i + 6 = 6 * (i + 1) := by omega
          exact ⟨i + 1, h, by simp only; omega, ⟨[some 0, some 1], rfl, by simp, by simp [setsA, keepA, SWeak, AWeak, e6], by simp [HWeak, BWeak, SWeak, AWeak, e6]⟩⟩
    · obtain rfl : i = 4 := by omega
      simp (config := { maxSteps := 1000000 }) (disch := ((try simp only [awL]); omega)) only [cl, hcl, ↓awU, awV, awF, ofVal, ofVal0, isShift, aggK, forall_const, ↓reduceIte, ↓reduceDIte, ↓purePost, combine, idsA, cellsA, numsOf, srcA, calleeA, refsA, isScalar, scalarD, scalar0, AV.one, putL, unfA, implies_true, IntKind.signed, Nat.reduceAdd, Nat.reduceSub, Nat.reduceMul, Nat.reducePow, Nat.reduceDiv, Nat.reduceMod, Int.reduceAdd, Int.reduceSub, Int.reduceMul, Int.reducePow, Int.reduceNeg, Int.reduceToNat, Int.reduceLT, Int.reduceLE, Nat.reduceEqDiff, sidsB, Nat.reduceBEq, keyKD, isIntK, aggD, aggL, eqKs]
      rfl
end Go.Proofs.YtjjanbljkoaojaaGreatDoor

namespace Go.Proofs.YtjjanbljkoaojaaGreatDoor
open Go Go.Proofs Go.Abs
variable {G : Globals}
/-! The dice's dialects. -/
def diaM (t : List Int) (k : Nat) : Dia := if 0 < pk t k 4 then dialL.getD (pk t (k + 1) 24).toNat ⟨0, 0, false⟩
  else ⟨([44, 59, 9, 124, 58, 97, 32, 34] : List UInt8).getD (pk t (k + 1) 8).toNat 0, ([0, 34, 39] : List UInt8).getD (pk t (k + 2) 3).toNat 0, decide (pk t (k + 3) 2 = 0)⟩
def diaK (t : List Int) (k : Nat) : Nat := if 0 < pk t k 4 then k + 2 else k + 4
set_option maxHeartbeats 8000000 in
set_option maxRecDepth 100000 in
theorem dialect_spec (t : List Int) (k : Nat) (ht : OkM t) : Ctr Tryz.prog G 6 [.ptr 0 0] [DiceM t k] (.d (diaM t k).D) [DiceM t (diaK t k)] := by
  have h0 := @pk_range t k 4 (by decide)
  unfold diaM diaK
  refine Ctr.body (M := M0) hmix Tryz.func6 rfl go6 ?_
  simp (config := { maxSteps := 1000000 }) (disch := ((try simp only [awL]); omega)) only [Tryz.f6, ↓awU, awV, awF, ofVal, ofVal0, isShift, aggK, forall_const, ↓reduceIte, ↓reduceDIte, ↓purePost, combine, idsA, cellsA, numsOf, srcA, calleeA, refsA, isScalar, scalarD, scalar0, AV.one, putL, unfA, implies_true, IntKind.signed, Nat.reduceAdd, Nat.reduceSub, Nat.reduceMul, Nat.reducePow, Nat.reduceDiv, Nat.reduceMod, Int.reduceAdd, Int.reduceSub, Int.reduceMul, Int.reducePow, Int.reduceNeg, Int.reduceToNat, Int.reduceLT, Int.reduceLE, Nat.reduceEqDiff, sidsB, Nat.reduceBEq, keyKD, isIntK, aggD, aggL, eqKs]
  refine CallC.by (pick_spec t k 4 ht (by decide) (by decide)) (by rfl) (by rfl) (Nat.le_refl _) ?_
  generalize pk t k 4 = z at *
  rcases (by omega : 0 < z ∨ z = 0) with h | rfl
  · rw [if_pos h, if_pos h]
    simp (config := { maxSteps := 1000000 }) (disch := ((try simp only [awL]); omega)) only [↓awU, awV, awF, ofVal, ofVal0, isShift, aggK, forall_const, ↓reduceIte, ↓reduceDIte, ↓purePost, combine, idsA, cellsA, numsOf, srcA, calleeA, refsA, isScalar, scalarD, scalar0, AV.one, putL, unfA, implies_true, IntKind.signed, Nat.reduceAdd, Nat.reduceSub, Nat.reduceMul, Nat.reducePow, Nat.reduceDiv, Nat.reduceMod, Int.reduceAdd, Int.reduceSub, Int.reduceMul, Int.reducePow, Int.reduceNeg, Int.reduceToNat, Int.reduceLT, Int.reduceLE, Nat.reduceEqDiff, sidsB, Nat.reduceBEq, keyKD, isIntK, aggD, aggL, eqKs]
    refine CallC.of rdialects_spec (by rfl) ?_
    simp (config := { maxSteps := 1000000 }) (disch := ((try simp only [awL]); omega)) only [↓awU, awV, awF, ofVal, ofVal0, isShift, aggK, forall_const, ↓reduceIte, ↓reduceDIte, ↓purePost, combine, idsA, cellsA, numsOf, srcA, calleeA, refsA, isScalar, scalarD, scalar0, AV.one, putL, unfA, implies_true, IntKind.signed, Nat.reduceAdd, Nat.reduceSub, Nat.reduceMul, Nat.reducePow, Nat.reduceDiv, Nat.reduceMod, Int.reduceAdd, Int.reduceSub, Int.reduceMul, Int.reducePow, Int.reduceNeg, Int.reduceToNat, Int.reduceLT, Int.reduceLE, Nat.reduceEqDiff, sidsB, Nat.reduceBEq, keyKD, isIntK, aggD, aggL, eqKs]
    refine CallC.by (pick_spec t (k + 1) 24 ht (by decide) (by decide)) (by rfl) (by rfl) (Nat.le_refl _) ?_
    obtain ⟨c, hc, hc2⟩ := pk_nat t (k + 1) 24 (by decide)
    rw [hc, Int.toNat_natCast]
    have hcl : c < dialL.length := by rw [dialL_length]; omega
    have dg := diaC_get (d := ⟨0, 0, false⟩) hcl
    have dl := diaC_length dialL
    generalize dialL.getD c ⟨0, 0, false⟩ = x at *
    have l24 := dialL_length
    simp (config := { maxSteps := 1000000 }) (disch := ((try simp only [awL]); omega)) only [dl, l24, dg, ↓awU, awV, awF, ofVal, ofVal0, isShift, aggK, forall_const, ↓reduceIte, ↓reduceDIte, ↓purePost, combine, idsA, cellsA, numsOf, srcA, calleeA, refsA, isScalar, scalarD, scalar0, AV.one, putL, unfA, implies_true, IntKind.signed, Nat.reduceAdd, Nat.reduceSub, Nat.reduceMul, Nat.reducePow, Nat.reduceDiv, Nat.reduceMod, Int.reduceAdd, Int.reduceSub, Int.reduceMul, Int.reducePow, Int.reduceNeg, Int.reduceToNat, Int.reduceLT, Int.reduceLE, Nat.reduceEqDiff, sidsB, Nat.reduceBEq, keyKD, isIntK, aggD, aggL, eqKs]
    refine ⟨[some 0], rfl, by simp, by simp [HWeak, BWeak, SWeak, AWeak], .inr ⟨_, rfl, ?_, rfl⟩⟩
    simp (config := { maxSteps := 1000000 }) (disch := ((try simp only [awL]); omega)) only [↓awU, awV, awF, ofVal, ofVal0, isShift, aggK, forall_const, ↓reduceIte, ↓reduceDIte, ↓purePost, combine, idsA, cellsA, numsOf, srcA, calleeA, refsA, isScalar, scalarD, scalar0, AV.one, putL, unfA, implies_true, IntKind.signed, Nat.reduceAdd, Nat.reduceSub, Nat.reduceMul, Nat.reducePow, Nat.reduceDiv, Nat.reduceMod, Int.reduceAdd, Int.reduceSub, Int.reduceMul, Int.reducePow, Int.reduceNeg, Int.reduceToNat, Int.reduceLT, Int.reduceLE, Nat.reduceEqDiff, sidsB, Nat.reduceBEq, keyKD, isIntK, aggD, aggL, eqKs]
    try rfl
  · rw [if_neg (by decide), if_neg (by decide)]
    simp (config := { maxSteps := 1000000 }) (disch := ((try simp only [awL]); omega)) only [↓awU, awV, awF, ofVal, ofVal0, isShift, aggK, forall_const, ↓reduceIte, ↓reduceDIte, ↓purePost, combine, idsA, cellsA, numsOf, srcA, calleeA, refsA, isScalar, scalarD, scalar0, AV.one, putL, unfA, implies_true, IntKind.signed, Nat.reduceAdd, Nat.reduceSub, Nat.reduceMul, Nat.reducePow, Nat.reduceDiv, Nat.reduceMod, Int.reduceAdd, Int.reduceSub, Int.reduceMul, Int.reducePow, Int.reduceNeg, Int.reduceToNat, Int.reduceLT, Int.reduceLE, Nat.reduceEqDiff, sidsB, Nat.reduceBEq, keyKD, isIntK, aggD, aggL, eqKs]
    obtain ⟨ds, hds⟩ : ∃ ds : List Int, ds = [44, 59, 9, 124, 58, 97, 32, 34] := ⟨_, rfl⟩
    have hdl : ds.length = 8 := by rw [hds]; rfl
    have hdI : ints .u8 ds = [.int .u8 44, .int .u8 59, .int .u8 9, .int .u8 124, .int .u8 58, .int .u8 97, .int .u8 32, .int .u8 34] := by rw [hds]; rfl
    have dl := @ints_length .u8 ds
    rw [← hdI]
    refine CallC.by (pick_spec t (k + 1) 8 ht (by decide) (by decide)) (by rfl) (by rfl) (Nat.le_refl _) ?_
    obtain ⟨c, hc, hc2⟩ := pk_nat t (k + 1) 8 (by decide)
    rw [hc, Int.toNat_natCast]
    have e1 : (([44, 59, 9, 124, 58, 97, 32, 34] : List UInt8).getD c 0).toNat = ds.getD c 0 := by
      rw [hds]
      rcases (by omega : c = 0 ∨ c = 1 ∨ c = 2 ∨ c = 3 ∨ c = 4 ∨ c = 5 ∨ c = 6 ∨ c = 7) with rfl | rfl | rfl | rfl | rfl | rfl | rfl | rfl <;> rfl
    generalize ([44, 59, 9, 124, 58, 97, 32, 34] : List UInt8).getD c 0 = x at *
    generalize hv : ds.getD c 0 = v at *
    simp (config := { maxSteps := 1000000 }) (disch := ((try simp only [awL]); omega)) only [dl, hdl, hv, ↓awU, awV, awF, ofVal, ofVal0, isShift, aggK, forall_const, ↓reduceIte, ↓reduceDIte, ↓purePost, combine, idsA, cellsA, numsOf, srcA, calleeA, refsA, isScalar, scalarD, scalar0, AV.one, putL, unfA, implies_true, IntKind.signed, Nat.reduceAdd, Nat.reduceSub, Nat.reduceMul, Nat.reducePow, Nat.reduceDiv, Nat.reduceMod, Int.reduceAdd, Int.reduceSub, Int.reduceMul, Int.reducePow, Int.reduceNeg, Int.reduceToNat, Int.reduceLT, Int.reduceLE, Nat.reduceEqDiff, sidsB, Nat.reduceBEq, keyKD, isIntK, aggD, aggL, eqKs]
    obtain ⟨es, hes⟩ : ∃ es : List Int, es = [0, 34, 39] := ⟨_, rfl⟩
    have hel : es.length = 3 := by rw [hes]; rfl
    have heI : ints .u8 es = [.int .u8 0, .int .u8 34, .int .u8 39] := by rw [hes]; rfl
    have el := @ints_length .u8 es
    rw [← heI]
    refine CallC.by (pick_spec t (k + 1 + 1) 3 ht (by decide) (by decide)) (by rfl) (by rfl) (Nat.le_refl _) ?_
    rw [show k + 1 + 1 = k + 2 from rfl]
    obtain ⟨f, hf, hf2⟩ := pk_nat t (k + 2) 3 (by decide)
    rw [hf, Int.toNat_natCast]
    have e2 : (([0, 34, 39] : List UInt8).getD f 0).toNat = es.getD f 0 := by
      rw [hes]
      rcases (by omega : f = 0 ∨ f = 1 ∨ f = 2) with rfl | rfl | rfl <;> rfl
    generalize ([0, 34, 39] : List UInt8).getD f 0 = y at *
    generalize hu : es.getD f 0 = u at *
    simp (config := { maxSteps := 1000000 }) (disch := ((try simp only [awL]); omega)) only [el, hel, hu, ↓awU, awV, awF, ofVal, ofVal0, isShift, aggK, forall_const, ↓reduceIte, ↓reduceDIte, ↓purePost, combine, idsA, cellsA, numsOf, srcA, calleeA, refsA, isScalar, scalarD, scalar0, AV.one, putL, unfA, implies_true, IntKind.signed, Nat.reduceAdd, Nat.reduceSub, Nat.reduceMul, Nat.reducePow, Nat.reduceDiv, Nat.reduceMod, Int.reduceAdd, Int.reduceSub, Int.reduceMul, Int.reducePow, Int.reduceNeg, Int.reduceToNat, Int.reduceLT, Int.reduceLE, Nat.reduceEqDiff, sidsB, Nat.reduceBEq, keyKD, isIntK, aggD, aggL, eqKs]
    refine CallC.by (pick_spec t (k + 2 + 1) 2 ht (by decide) (by decide)) (by rfl) (by rfl) (Nat.le_refl _) ?_
    rw [show k + 2 + 1 = k + 3 from rfl]
    have h3 := @pk_range t (k + 3) 2 (by decide)
    generalize pk t (k + 3) 2 = q at *
    simp (config := { maxSteps := 1000000 }) (disch := ((try simp only [awL]); omega)) only [↓awU, awV, awF, ofVal, ofVal0, isShift, aggK, forall_const, ↓reduceIte, ↓reduceDIte, ↓purePost, combine, idsA, cellsA, numsOf, srcA, calleeA, refsA, isScalar, scalarD, scalar0, AV.one, putL, unfA, implies_true, IntKind.signed, Nat.reduceAdd, Nat.reduceSub, Nat.reduceMul, Nat.reducePow, Nat.reduceDiv, Nat.reduceMod, Int.reduceAdd, Int.reduceSub, Int.reduceMul, Int.reducePow, Int.reduceNeg, Int.reduceToNat, Int.reduceLT, Int.reduceLE, Nat.reduceEqDiff, sidsB, Nat.reduceBEq, keyKD, isIntK, aggD, aggL, eqKs]
    rcases (by omega : q = 0 ∨ q = 1) with rfl | rfl
    all_goals
      simp (config := { maxSteps := 1000000 }) (disch := ((try simp only [awL]); omega)) only [↓awU, awV, awF, ofVal, ofVal0, isShift, aggK, forall_const, ↓reduceIte, ↓reduceDIte, ↓purePost, combine, idsA, cellsA, numsOf, srcA, calleeA, refsA, isScalar, scalarD, scalar0, AV.one, putL, unfA, implies_true, IntKind.signed, Nat.reduceAdd, Nat.reduceSub, Nat.reduceMul, Nat.reducePow, Nat.reduceDiv, Nat.reduceMod, Int.reduceAdd, Int.reduceSub, Int.reduceMul, Int.reducePow, Int.reduceNeg, Int.reduceToNat, Int.reduceLT, Int.reduceLE, Nat.reduceEqDiff, sidsB, Nat.reduceBEq, keyKD, isIntK, aggD, aggL, eqKs]
      first
      | (refine ⟨by rfl, ?_⟩; refine ⟨[some 0], rfl, by simp, by simp [HWeak, BWeak, SWeak, AWeak], .inr ⟨_, rfl, ?_, rfl⟩⟩)
      | refine ⟨[some 0], rfl, by simp, by simp [HWeak, BWeak, SWeak, AWeak], .inr ⟨_, rfl, ?_, rfl⟩⟩
      simp (config := { maxSteps := 1000000 }) (disch := ((try simp only [awL]); omega)) only [↓awU, awV, awF, ofVal, ofVal0, isShift, aggK, forall_const, ↓reduceIte, ↓reduceDIte, ↓purePost, combine, idsA, cellsA, numsOf, srcA, calleeA, refsA, isScalar, scalarD, scalar0, AV.one, putL, unfA, implies_true, IntKind.signed, Nat.reduceAdd, Nat.reduceSub, Nat.reduceMul, Nat.reducePow, Nat.reduceDiv, Nat.reduceMod, Int.reduceAdd, Int.reduceSub, Int.reduceMul, Int.reducePow, Int.reduceNeg, Int.reduceToNat, Int.reduceLT, Int.reduceLE, Nat.reduceEqDiff, sidsB, Nat.reduceBEq, keyKD, isIntK, aggD, aggL, eqKs]
      simp only [Dia.D, e1, e2]
end Go.Proofs.YtjjanbljkoaojaaGreatDoor

namespace Go.Proofs.YtjjanbljkoaojaaGreatDoor
open Go Go.Proofs Go.Abs
variable {G : Globals}
/-! Which dialects are valid. -/
theorem okDia_nat (d : Dia) : okDia d = decide ((d.del.toNat = 9 ∨ 32 ≤ d.del.toNat ∧ d.del.toNat ≤ 126) ∧ (d.quo.toNat = 0 ∨ d.quo.toNat = 34 ∨ d.quo.toNat = 39) ∧ d.del.toNat ≠ d.quo.toNat ∧ ¬ (d.trim = true ∧ d.del.toNat = 32)) := by
  have key : ∀ (x : UInt8) (n : Nat) (h : n < 256), x = UInt8.ofNat n ↔ x.toNat = n := fun x n h => ⟨fun e => by rw [e]; simp; omega, fun e => by rw [← e]; simp⟩
  unfold okDia
  congr 1
  rw [show (d.del = 9) = (d.del.toNat = 9) from propext (key _ 9 (by decide)), show (d.quo = 0) = (d.quo.toNat = 0) from propext (key _ 0 (by decide)), show (d.quo = 34) = (d.quo.toNat = 34) from propext (key _ 34 (by decide)),
    show (d.quo = 39) = (d.quo.toNat = 39) from propext (key _ 39 (by decide)), show (d.del = 32) = (d.del.toNat = 32) from propext (key _ 32 (by decide)), show (d.del ≠ d.quo) = (d.del.toNat ≠ d.quo.toNat) from by rw [ne_eq, ne_eq, UInt8.toNat_inj]]
set_option maxHeartbeats 8000000 in
set_option maxRecDepth 100000 in
theorem dvalid_spec (d : Dia) : Ctr Tryz.prog G 8 [.d d.D] [] (.d (.bool (okDia d))) [] := by
  rw [okDia_nat]
  obtain ⟨del, quo, trim⟩ := d
  have ha := del.toNat_lt
  have hb := quo.toNat_lt
  simp only [Dia.D]
  generalize del.toNat = a at *
  generalize quo.toNat = b at *
  refine Ctr.pure (M := M0) hmix Tryz.func8 rfl go8 ?_
  rcases (by omega : a = 9 ∨ a = 32 ∨ (32 < a ∧ a ≤ 126) ∨ (a < 32 ∧ a ≠ 9) ∨ 126 < a) with h1 | h1 | h1 | h1 | h1 <;>
  rcases (by omega : b = 0 ∨ b = 34 ∨ b = 39 ∨ (b ≠ 0 ∧ b ≠ 34 ∧ b ≠ 39)) with h2 | h2 | h2 | h2 <;>
  rcases (by omega : a = b ∨ a ≠ b) with h3 | h3 <;>
  first | (exfalso; omega) | (cases trim <;> (simp (config := { maxSteps := 1000000 }) (disch := ((try simp only [awL]); omega)) only [Tryz.f8, ↓awU, awV, awF, ofVal, ofVal0, isShift, aggK, forall_const, ↓reduceIte, ↓reduceDIte, ↓purePost, combine, idsA, cellsA, numsOf, srcA, calleeA, refsA, isScalar, scalarD, scalar0, AV.one, putL, unfA, implies_true, IntKind.signed, Nat.reduceAdd, Nat.reduceSub, Nat.reduceMul, Nat.reducePow, Nat.reduceDiv, Nat.reduceMod, Int.reduceAdd, Int.reduceSub, Int.reduceMul, Int.reducePow, Int.reduceNeg, Int.reduceToNat, Int.reduceLT, Int.reduceLE, Nat.reduceEqDiff, sidsB, Nat.reduceBEq, keyKD, isIntK, aggD, aggL, eqKs]; first | done | (congr 2; apply Eq.symm; simp only [decide_eq_true_eq, decide_eq_false_iff_not]; omega) | (simp <;> omega)))
set_option maxHeartbeats 8000000 in
set_option maxRecDepth 100000 in
theorem drvalid_spec (d : Dia) : Ctr Tryz.prog G 9 [.d d.D] [] (.d (.bool (okDia d))) [] := by
  rw [okDia_nat]
  obtain ⟨del, quo, trim⟩ := d
  have ha := del.toNat_lt
  have hb := quo.toNat_lt
  simp only [Dia.D]
  generalize del.toNat = a at *
  generalize quo.toNat = b at *
  refine Ctr.pure (M := M0) hmix Tryz.func9 rfl go9 ?_
  rcases (by omega : a = 9 ∨ a = 32 ∨ (32 < a ∧ a ≤ 126) ∨ (a < 32 ∧ a ≠ 9) ∨ 126 < a) with h1 | h1 | h1 | h1 | h1 <;>
  rcases (by omega : b = 0 ∨ b = 34 ∨ b = 39 ∨ (b ≠ 0 ∧ b ≠ 34 ∧ b ≠ 39)) with h2 | h2 | h2 | h2 <;>
  rcases (by omega : a = b ∨ a ≠ b) with h3 | h3 <;>
  first | (exfalso; omega) | (cases trim <;> (simp (config := { maxSteps := 1000000 }) (disch := ((try simp only [awL]); omega)) only [Tryz.f9, ↓awU, awV, awF, ofVal, ofVal0, isShift, aggK, forall_const, ↓reduceIte, ↓reduceDIte, ↓purePost, combine, idsA, cellsA, numsOf, srcA, calleeA, refsA, isScalar, scalarD, scalar0, AV.one, putL, unfA, implies_true, IntKind.signed, Nat.reduceAdd, Nat.reduceSub, Nat.reduceMul, Nat.reducePow, Nat.reduceDiv, Nat.reduceMod, Int.reduceAdd, Int.reduceSub, Int.reduceMul, Int.reducePow, Int.reduceNeg, Int.reduceToNat, Int.reduceLT, Int.reduceLE, Nat.reduceEqDiff, sidsB, Nat.reduceBEq, keyKD, isIntK, aggD, aggL, eqKs]; first | done | (congr 2; apply Eq.symm; simp only [decide_eq_true_eq, decide_eq_false_iff_not]; omega) | (simp <;> omega)))
end Go.Proofs.YtjjanbljkoaojaaGreatDoor

namespace Go.Proofs.YtjjanbljkoaojaaGreatDoor
open Go Go.Proofs Go.Abs
variable {G : Globals}
/-! The reference: where a line, where a field ends. -/
theorem drop_at {l : List UInt8} {i : Nat} (h : i < l.length) : l.drop i = l.getD i 0 :: l.drop (i + 1) := by
  rw [List.drop_eq_getElem_cons h, List.getD_eq_getElem?_getD, List.getElem?_eq_getElem h]; rfl
theorem u8_of {x : UInt8} {n : Nat} (h : n < 256) : x = UInt8.ofNat n ↔ x.toNat = n := ⟨fun e => by rw [e]; simp; omega, fun e => by rw [← e]; simp⟩
theorem endL_at {l : List UInt8} {i : Nat} : endL (l.drop i) = if i < l.length ∧ (l.getD i 0).toNat = 10 then 1 else if i + 1 < l.length ∧ (l.getD i 0).toNat = 13 ∧ (l.getD (i + 1) 0).toNat = 10 then 2 else 0 := by
  have e10 : ∀ x : UInt8, x = 10 ↔ x.toNat = 10 := fun x => u8_of (n := 10) (by decide)
  have e13 : ∀ x : UInt8, x = 13 ↔ x.toNat = 13 := fun x => u8_of (n := 13) (by decide)
  rcases Nat.lt_or_ge i l.length with h | h
  · rw [drop_at h]
    unfold endL
    simp only [List.head?_cons, Option.some.injEq, e10, e13, List.drop_succ_cons, List.drop_zero, h, true_and]
    rcases Nat.lt_or_ge (i + 1) l.length with h2 | h2
    · rw [drop_at h2]
      simp only [List.head?_cons, Option.some.injEq, e10, h2, true_and]
    · rw [List.drop_eq_nil_of_le h2]
      simp [show ¬ i + 1 < l.length by omega]
  · rw [List.drop_eq_nil_of_le h]
    simp [endL, show ¬ i < l.length by omega, show ¬ i + 1 < l.length by omega]
set_option maxHeartbeats 4000000 in
set_option maxRecDepth 100000 in
theorem ended_spec (l : List UInt8) (i : Nat) (hi : i ≤ 100000000) (hl : l.length ≤ 100000000) : Ctr Tryz.prog G 36 [.d (S l), .d (.int .i64 i)] [] (.d (.int .i64 (endL (l.drop i) : Nat))) [] := by
  rw [endL_at]
  refine Ctr.pure (M := M0) hmix Tryz.func36 rfl go36 ?_
  have b1 := (l.getD i 0).toNat_lt
  have b2 := (l.getD (i + 1) 0).toNat_lt
  rcases Nat.lt_or_ge i l.length with h | h
  · rcases (by omega : (l.getD i 0).toNat = 10 ∨ (l.getD i 0).toNat = 13 ∨ ((l.getD i 0).toNat ≠ 10 ∧ (l.getD i 0).toNat ≠ 13)) with h2 | h2 | h2
    · rw [if_pos ⟨h, h2⟩]
      simp (config := { maxSteps := 1000000 }) (disch := ((try simp only [awL]); omega)) only [Option.toList_some, Option.toList_none, nextC_more, nextC_over, bs_size, bs_extract, bs_toList, bs_append, byteAt_bs, bs_cells, nums_length, nums_getD, Tryz.f36, h2, ↓awU, awV, awF, ofVal, ofVal0, isShift, aggK, forall_const, ↓reduceIte, ↓reduceDIte, ↓purePost, combine, idsA, cellsA, numsOf, srcA, calleeA, refsA, isScalar, scalarD, scalar0, AV.one, putL, unfA, implies_true, IntKind.signed, Nat.reduceAdd, Nat.reduceSub, Nat.reduceMul, Nat.reducePow, Nat.reduceDiv, Nat.reduceMod, Int.reduceAdd, Int.reduceSub, Int.reduceMul, Int.reducePow, Int.reduceNeg, Int.reduceToNat, Int.reduceLT, Int.reduceLE, Nat.reduceEqDiff, sidsB, Nat.reduceBEq, keyKD, isIntK, aggD, aggL, eqKs]
      try rfl
    · rw [if_neg (by omega)]
      rcases Nat.lt_or_ge (i + 1) l.length with h3 | h3
      · rcases (by omega : (l.getD (i + 1) 0).toNat = 10 ∨ (l.getD (i + 1) 0).toNat ≠ 10) with h4 | h4
        · rw [if_pos ⟨h3, h2, h4⟩]
          simp (config := { maxSteps := 1000000 }) (disch := ((try simp only [awL]); omega)) only [Option.toList_some, Option.toList_none, nextC_more, nextC_over, bs_size, bs_extract, bs_toList, bs_append, byteAt_bs, bs_cells, nums_length, nums_getD, Tryz.f36, h2, h4, ↓awU, awV, awF, ofVal, ofVal0, isShift, aggK, forall_const, ↓reduceIte, ↓reduceDIte, ↓purePost, combine, idsA, cellsA, numsOf, srcA, calleeA, refsA, isScalar, scalarD, scalar0, AV.one, putL, unfA, implies_true, IntKind.signed, Nat.reduceAdd, Nat.reduceSub, Nat.reduceMul, Nat.reducePow, Nat.reduceDiv, Nat.reduceMod, Int.reduceAdd, Int.reduceSub, Int.reduceMul, Int.reducePow, Int.reduceNeg, Int.reduceToNat, Int.reduceLT, Int.reduceLE, Nat.reduceEqDiff, sidsB, Nat.reduceBEq, keyKD, isIntK, aggD, aggL, eqKs]
          try rfl
        · rw [if_neg (by omega)]
          simp (config := { maxSteps := 1000000 }) (disch := ((try simp only [awL]); omega)) only [Option.toList_some, Option.toList_none, nextC_more, nextC_over, bs_size, bs_extract, bs_toList, bs_append, byteAt_bs, bs_cells, nums_length, nums_getD, Tryz.f36, h2, ↓awU, awV, awF, ofVal, ofVal0, isShift, aggK, forall_const, ↓reduceIte, ↓reduceDIte, ↓purePost, combine, idsA, cellsA, numsOf, srcA, calleeA, refsA, isScalar, scalarD, scalar0, AV.one, putL, unfA, implies_true, IntKind.signed, Nat.reduceAdd, Nat.reduceSub, Nat.reduceMul, Nat.reducePow, Nat.reduceDiv, Nat.reduceMod, Int.reduceAdd, Int.reduceSub, Int.reduceMul, Int.reducePow, Int.reduceNeg, Int.reduceToNat, Int.reduceLT, Int.reduceLE, Nat.reduceEqDiff, sidsB, Nat.reduceBEq, keyKD, isIntK, aggD, aggL, eqKs]
          try rfl
      · rw [if_neg (by omega)]
        simp (config := { maxSteps := 1000000 }) (disch := ((try simp only [awL]); omega)) only [Option.toList_some, Option.toList_none, nextC_more, nextC_over, bs_size, bs_extract, bs_toList, bs_append, byteAt_bs, bs_cells, nums_length, nums_getD, Tryz.f36, h2, ↓awU, awV, awF, ofVal, ofVal0, isShift, aggK, forall_const, ↓reduceIte, ↓reduceDIte, ↓purePost, combine, idsA, cellsA, numsOf, srcA, calleeA, refsA, isScalar, scalarD, scalar0, AV.one, putL, unfA, implies_true, IntKind.signed, Nat.reduceAdd, Nat.reduceSub, Nat.reduceMul, Nat.reducePow, Nat.reduceDiv, Nat.reduceMod, Int.reduceAdd, Int.reduceSub, Int.reduceMul, Int.reducePow, Int.reduceNeg, Int.reduceToNat, Int.reduceLT, Int.reduceLE, Nat.reduceEqDiff, sidsB, Nat.reduceBEq, keyKD, isIntK, aggD, aggL, eqKs]
        try rfl
    · rw [if_neg (by omega), if_neg (by omega)]
      rcases Nat.lt_or_ge (i + 1) l.length with h3 | h3
      · simp (config := { maxSteps := 1000000 }) (disch := ((try simp only [awL]); omega)) only [Option.toList_some, Option.toList_none, nextC_more, nextC_over, bs_size, bs_extract, bs_toList, bs_append, byteAt_bs, bs_cells, nums_length, nums_getD, Tryz.f36, ↓awU, awV, awF, ofVal, ofVal0, isShift, aggK, forall_const, ↓reduceIte, ↓reduceDIte, ↓purePost, combine, idsA, cellsA, numsOf, srcA, calleeA, refsA, isScalar, scalarD, scalar0, AV.one, putL, unfA, implies_true, IntKind.signed, Nat.reduceAdd, Nat.reduceSub, Nat.reduceMul, Nat.reducePow, Nat.reduceDiv, Nat.reduceMod, Int.reduceAdd, Int.reduceSub, Int.reduceMul, Int.reducePow, Int.reduceNeg, Int.reduceToNat, Int.reduceLT, Int.reduceLE, Nat.reduceEqDiff, sidsB, Nat.reduceBEq, keyKD, isIntK, aggD, aggL, eqKs]
        try rfl
      · simp (config := { maxSteps := 1000000 }) (disch := ((try simp only [awL]); omega)) only [Option.toList_some, Option.toList_none, nextC_more, nextC_over, bs_size, bs_extract, bs_toList, bs_append, byteAt_bs, bs_cells, nums_length, nums_getD, Tryz.f36, ↓awU, awV, awF, ofVal, ofVal0, isShift, aggK, forall_const, ↓reduceIte, ↓reduceDIte, ↓purePost, combine, idsA, cellsA, numsOf, srcA, calleeA, refsA, isScalar, scalarD, scalar0, AV.one, putL, unfA, implies_true, IntKind.signed, Nat.reduceAdd, Nat.reduceSub, Nat.reduceMul, Nat.reducePow, Nat.reduceDiv, Nat.reduceMod, Int.reduceAdd, Int.reduceSub, Int.reduceMul, Int.reducePow, Int.reduceNeg, Int.reduceToNat, Int.reduceLT, Int.reduceLE, Nat.reduceEqDiff, sidsB, Nat.reduceBEq, keyKD, isIntK, aggD, aggL, eqKs]
        try rfl
  · rw [if_neg (by omega), if_neg (by omega)]
    simp (config := { maxSteps := 1000000 }) (disch := ((try simp only [awL]); omega)) only [Option.toList_some, Option.toList_none, nextC_more, nextC_over, bs_size, bs_extract, bs_toList, bs_append, byteAt_bs, bs_cells, nums_length, nums_getD, Tryz.f36, ↓awU, awV, awF, ofVal, ofVal0, isShift, aggK, forall_const, ↓reduceIte, ↓reduceDIte, ↓purePost, combine, idsA, cellsA, numsOf, srcA, calleeA, refsA, isScalar, scalarD, scalar0, AV.one, putL, unfA, implies_true, IntKind.signed, Nat.reduceAdd, Nat.reduceSub, Nat.reduceMul, Nat.reducePow, Nat.reduceDiv, Nat.reduceMod, Int.reduceAdd, Int.reduceSub, Int.reduceMul, Int.reducePow, Int.reduceNeg, Int.reduceToNat, Int.reduceLT, Int.reduceLE, Nat.reduceEqDiff, sidsB, Nat.reduceBEq, keyKD, isIntK, aggD, aggL, eqKs]
    try rfl
end Go.Proofs.YtjjanbljkoaojaaGreatDoor

namespace Go.Proofs.YtjjanbljkoaojaaGreatDoor
open Go Go.Proofs Go.Abs
variable {G : Globals}
/-! Trimming by a set of bytes below 128. -/
def setD (l : List UInt8) : List D := (List.range 256).map fun i => .bool (l.any fun b => b.toNat == i)
def setB (l : List UInt8) : List AV := (setD l).map .d
theorem setB_length {l : List UInt8} : (setB l).length = 256 := by simp [setB, setD]
theorem setD_length {l : List UInt8} : (setD l).length = 256 := by simp [setD]
set_option maxRecDepth 10000 in
theorem setB_nil : setB [] = List.replicate 256 (.d (.bool false)) := by rfl
theorem setD_get {l : List UInt8} {c : UInt8} {d : D} : (setD l).getD c.toNat d = .bool (l.contains c) := by
  have hc := c.toNat_lt
  simp only [setD, List.getD_eq_getElem?_getD, List.getElem?_map, List.getElem?_range (show c.toNat < 256 by omega), Option.map_some, Option.getD_some]
  rw [List.contains_eq_any_beq]
  refine congrArg (fun f => D.bool (l.any f)) ?_
  funext b
  show (b.toNat == c.toNat) = _
  by_cases h : b = c
  · subst h; simp
  · have : ¬ b.toNat = c.toNat := fun e => h (UInt8.toNat_inj.1 e)
    have h' : ¬ c = b := fun e => h e.symm
    rw [beq_eq_false_iff_ne.2 this]; exact (beq_eq_false_iff_ne.2 h').symm
theorem setB_get {l : List UInt8} {c : UInt8} {d : AV} : (setB l).getD c.toNat d = .d (.bool (l.contains c)) := by
  have hc := c.toNat_lt
  have := @setD_get l c .nilp
  rw [List.getD_eq_getElem?_getD, List.getElem?_eq_getElem (by rw [setD_length]; omega)] at this
  rw [setB, List.getD_eq_getElem?_getD, List.getElem?_map, List.getElem?_eq_getElem (by rw [setD_length]; omega)]
  simp only [Option.getD_some] at this
  rw [Option.map_some, Option.getD_some, this]
theorem setB_set {l : List UInt8} {c : UInt8} : (setB l).set c.toNat (.d (.bool true)) = setB (l ++ [c]) := by
  have hc := c.toNat_lt
  apply List.ext_getElem
  · rw [List.length_set, setB_length, setB_length]
  · intro i h1 h2
    rw [List.length_set, setB_length] at h1
    rw [List.getElem_set]
    simp only [setB, setD, List.getElem_map, List.getElem_range, List.any_append, List.any_cons, List.any_nil, Bool.or_false]
    split
    · rename_i e; subst e; simp
    · rename_i e
      have : (c.toNat == i) = false := by simpa using e
      rw [this, Bool.or_false]
theorem SWeak_map {fl : List (Option Nat)} : ∀ l : List D, SWeak fl (l.map .d) (l.map .d)
  | [] => by simp [SWeak]
  | x :: l => by simp only [List.map_cons, SWeak]; exact ⟨by simp [AWeak], SWeak_map l⟩
theorem setB_weak {fl : List (Option Nat)} {l : List UInt8} : SWeak fl (setB l) (setB l) = True := eq_true (SWeak_map _)
theorem mem_getDU {α : Type} {l : List α} {i : Nat} {d : α} (h : i < l.length) : l.getD i d ∈ l := by
  rw [List.getD_eq_getElem?_getD, List.getElem?_eq_getElem h]; exact List.getElem_mem h
theorem setB_two (l : List UInt8) : ∃ a b cs, setB l = a :: b :: cs := by
  have := @setB_length l
  match h : setB l with
  | [] => rw [h] at this; cases this
  | [_] => rw [h] at this; cases this
  | a :: b :: cs => exact ⟨a, b, cs, rfl⟩
theorem setB_one {l : List UInt8} : (setB l).all AV.one = true := by
  simp [setB, setD, AV.one, D.one]
theorem setB_seal {H : List ABlk} {l : List UInt8} : sealL H (setB l) = some (setD l) := by
  have : ∀ m : List D, sealL H (m.map .d) = some m := fun m => by
    induction m with
    | nil => rfl
    | cons x m ih => simp only [List.map_cons, sealL, sealA, ih]
  exact this _
theorem setB_refs {l : List UInt8} : refsL (setB l) = [] := by
  have : ∀ m : List D, refsL (m.map .d) = [] := fun m => by
    induction m with
    | nil => rfl
    | cons x m ih => simp only [List.map_cons, refsL, refsA, ih, List.append_nil]
  exact this _
theorem setB_pass {H : List ABlk} {L : List Nat} {l : List UInt8} : passL H L (setB l) = some (setB l) := by
  have : ∀ m : List D, passL H L (m.map .d) = some (m.map .d) := fun m => by
    induction m with
    | nil => rfl
    | cons x m ih => simp only [List.map_cons, passL, passA, ih]
  exact this _
theorem setB_sids {H : List ABlk} {L : List Nat} {l : List UInt8} : sidsL H L (setB l) = [] := by
  have : ∀ m : List D, sidsL H L (m.map .d) = [] := fun m => by
    induction m with
    | nil => rfl
    | cons x m ih => simp only [List.map_cons, sidsL, sidsA, ih, List.append_nil]
  exact this _
theorem setB_ren {f : Nat → Nat} {l : List UInt8} : renL f (setB l) = setB l := by
  have : ∀ m : List D, renL f (m.map .d) = m.map .d := fun m => by
    induction m with
    | nil => rfl
    | cons x m ih => simp only [List.map_cons, renL, renA, ih]
  exact this _
theorem take_succ_getD {s : List UInt8} {i : Nat} (h : i < s.length) : s.take i ++ [s.getD i 0] = s.take (i + 1) := by
  rw [List.take_add_one, List.getElem?_eq_getElem h, List.getD_eq_getElem?_getD, List.getElem?_eq_getElem h]; rfl
theorem contains_spec (l : List UInt8) (c : UInt8) : Ctr Tryz.prog G 69 [.ptr 0 0, .d (.int .u8 c.toNat)] [.box (setB l)] (.d (.bool (l.contains c))) [.box (setB l)] := by
  have hc := c.toNat_lt
  have hl := @setB_length l
  refine Ctr.body (M := M0) hmix Tryz.func69 rfl go69 ?_
  simp (config := { maxSteps := 1000000 }) (disch := ((try simp only [awL]); omega)) only [Option.toList_some, Option.toList_none, nextC_more, nextC_over, bs_size, bs_extract, bs_toList, bs_append, byteAt_bs, bs_cells, nums_length, nums_getD, hl, setB_get, Tryz.f69, ↓awU, awV, awF, ofVal, ofVal0, isShift, aggK, forall_const, ↓reduceIte, ↓reduceDIte, ↓purePost, combine, idsA, cellsA, numsOf, srcA, calleeA, refsA, isScalar, scalarD, scalar0, AV.one, putL, unfA, implies_true, IntKind.signed, Nat.reduceAdd, Nat.reduceSub, Nat.reduceMul, Nat.reducePow, Nat.reduceDiv, Nat.reduceMod, Int.reduceAdd, Int.reduceSub, Int.reduceMul, Int.reducePow, Int.reduceNeg, Int.reduceToNat, Int.reduceLT, Int.reduceLE, Nat.reduceEqDiff, sidsB, Nat.reduceBEq, keyKD, isIntK, aggD, aggL, eqKs]
  exact ⟨[some 0], rfl, by simp, by simp [HWeak, BWeak, setB_weak], .inl (by simp [AWeak])⟩
set_option maxRecDepth 100000 in
theorem makeSet_spec (l : List UInt8) (hl : l.length < 2 ^ 62) (ha : ∀ b ∈ l, b.toNat < 128) : Ctr Tryz.prog G 68 [.d (S l)] [] (.d (.tup [.agg (setD l), .bool true])) [] := by
  refine Ctr.pure (M := M0) hmix Tryz.func68 rfl go68 ?_
  simp (config := { maxSteps := 1000000 }) (disch := ((try simp only [awL]); omega)) only [Option.toList_some, Option.toList_none, nextC_more, nextC_over, bs_size, bs_extract, bs_toList, bs_append, byteAt_bs, bs_cells, nums_length, nums_getD, Tryz.f68, ↓awU, awV, awF, ofVal, ofVal0, isShift, aggK, forall_const, ↓reduceIte, ↓reduceDIte, ↓purePost, combine, idsA, cellsA, numsOf, srcA, calleeA, refsA, isScalar, scalarD, scalar0, AV.one, putL, unfA, implies_true, IntKind.signed, Nat.reduceAdd, Nat.reduceSub, Nat.reduceMul, Nat.reducePow, Nat.reduceDiv, Nat.reduceMod, Int.reduceAdd, Int.reduceSub, Int.reduceMul, Int.reducePow, Int.reduceNeg, Int.reduceToNat, Int.reduceLT, Int.reduceLE, Nat.reduceEqDiff, sidsB, Nat.reduceBEq, keyKD, isIntK, aggD, aggL, eqKs]
  refine LoopC.fr 5 (α := Nat) (fun i => l.length - i) (fun i => [(4, .d (.int .i64 i))]) (fun i => [.box (setB (l.take i))]) (fun i => i ≤ l.length) 0 (Nat.zero_le _) ?_ ?_
  · refine ⟨[some 0], rfl, by simp, by simp [setsA, keepA, SWeak, AWeak], ?_⟩
    rw [List.take_zero, setB_nil]
    simp only [HWeak, BWeak, List.getElem?_cons_zero]
    refine ⟨SWeak_map (List.replicate 256 (.bool false)), trivial⟩
  · intro i hi
    have sl := @setB_length (l.take i)
    simp only [awK, Nat.reduceMod, Nat.reduceDiv, reduceIte]
    rcases Nat.lt_or_ge i l.length with h1 | h1
    · have hb := ha _ (mem_getDU (d := 0) h1)
      have hs := take_succ_getD h1
      simp (config := { maxSteps := 1000000 }) (disch := ((try simp only [awL]); omega)) only [Option.toList_some, Option.toList_none, nextC_more, nextC_over, bs_size, bs_extract, bs_toList, bs_append, byteAt_bs, bs_cells, nums_length, nums_getD, sl, ↓awU, awV, awF, ofVal, ofVal0, isShift, aggK, forall_const, ↓reduceIte, ↓reduceDIte, ↓purePost, combine, idsA, cellsA, numsOf, srcA, calleeA, refsA, isScalar, scalarD, scalar0, AV.one, putL, unfA, implies_true, IntKind.signed, Nat.reduceAdd, Nat.reduceSub, Nat.reduceMul, Nat.reducePow, Nat.reduceDiv, Nat.reduceMod, Int.reduceAdd, Int.reduceSub, Int.reduceMul, Int.reducePow, Int.reduceNeg, Int.reduceToNat, Int.reduceLT, Int.reduceLE, Nat.reduceEqDiff, sidsB, Nat.reduceBEq, keyKD, isIntK, aggD, aggL, eqKs]
      exact ⟨i + 1, h1, by simp only; omega, [some 0], rfl, by simp, by simp [setsA, keepA, SWeak, AWeak], by simp only [HWeak, BWeak, List.getElem?_cons_zero]; rw [setB_set, hs]; exact ⟨by rw [setB_weak]; trivial, trivial⟩⟩
    · have sl := @setB_length l
      have tk : (setB l).take 256 = setB l := List.take_of_length_le (by omega)
      obtain ⟨a, b, cs, e⟩ := setB_two l
      have lc : cs.length = 254 := by rw [e] at sl; simpa using sl
      have tc : cs.take 254 = cs := List.take_of_length_le (by omega)
      have dc : cs.drop cs.length = [] := List.drop_length
      simp (config := { maxSteps := 1000000 }) (disch := ((try simp only [awL]); omega)) only [Option.toList_some, Option.toList_none, nextC_more, nextC_over, bs_size, bs_extract, bs_toList, bs_append, byteAt_bs, bs_cells, nums_length, nums_getD, sl, tk, ↓awU, awV, awF, ofVal, ofVal0, isShift, aggK, forall_const, ↓reduceIte, ↓reduceDIte, ↓purePost, combine, idsA, cellsA, numsOf, srcA, calleeA, refsA, isScalar, scalarD, scalar0, AV.one, putL, unfA, implies_true, IntKind.signed, Nat.reduceAdd, Nat.reduceSub, Nat.reduceMul, Nat.reducePow, Nat.reduceDiv, Nat.reduceMod, Int.reduceAdd, Int.reduceSub, Int.reduceMul, Int.reducePow, Int.reduceNeg, Int.reduceToNat, Int.reduceLT, Int.reduceLE, Nat.reduceEqDiff, sidsB, Nat.reduceBEq, keyKD, isIntK, aggD, aggL, eqKs]
      refine ⟨setB_one, ?_⟩
      have pm : putL (setB l) 0 (setB l) = setB l := by
        rw [e]
        simp only [putL, putL, List.take_zero, List.nil_append, Nat.zero_add, List.length_cons, List.drop_succ_cons, dc, List.append_nil]
      simp only [putL, putL, List.take_zero, List.nil_append, Nat.zero_add] at pm
      rw [pm, sl, tk]
      simp only [Nat.le_refl, if_true, sealA, sealL, setB_seal]
      rfl
theorem setB_fold {l : List UInt8} : (setD l).map AV.d = setB l := rfl
theorem setB_putL {L : List AV} {l : List UInt8} (h : L.length = 256) : putL L 0 ((setD l).map AV.d) = setB l := by
  rw [setB_fold]
  obtain ⟨a, b, cs, e⟩ := setB_two l
  have q := @setB_length l
  rw [e] at q ⊢
  have hd : L.drop (0 + (a :: b :: cs).length) = [] := List.drop_eq_nil_of_le (by omega)
  simp only [putL, hd, List.take_zero, List.nil_append, List.append_nil]
set_option maxRecDepth 10000 in
theorem setB_putL' {l : List UInt8} : putL ([.d (.bool false), .d (.bool false), .d (.bool false), .d (.bool false), .d (.bool false), .d (.bool false), .d (.bool false), .d (.bool false), .d (.bool false), .d (.bool false), .d (.bool false), .d (.bool false), .d (.bool false), .d (.bool false), .d (.bool false), .d (.bool false), .d (.bool false), .d (.bool false), .d (.bool false), .d (.bool false), .d (.bool false), .d (.bool false), .d (.bool false), .d (.bool false), .d (.bool false), .d (.bool false), .d (.bool false), .d (.bool false), .d (.bool false), .d (.bool false), .d (.bool false), .d (.bool false), .d (.bool false), .d (.bool false), .d (.bool false), .d (.bool false), .d (.bool false), .d (.bool false), .d (.bool false), .d (.bool false), .d (.bool false), .d (.bool false), .d (.bool false), .d (.bool false), .d (.bool false), .d (.bool false), .d (.bool false), .d (.bool false), .d (.bool false), .d (.bool false), .d (.bool false), .d (.bool false), .d (.bool false), .d (.bool false), .d (.bool false), .d (.bool false), .d (.bool false), .d (.bool false), .d (.bool false), .d (.bool false), .d (.bool false), .d (.bool false), .d (.bool false), .d (.bool false), .d (.bool false), .d (.bool false), .d (.bool false), .d (.bool false), .d (.bool false), .d (.bool false), .d (.bool false), .d (.bool false), .d (.bool false), .d (.bool false), .d (.bool false), .d (.bool false), .d (.bool false), .d (.bool false), .d (.bool false), .d (.bool false), .d (.bool false), .d (.bool false), .d (.bool false), .d (.bool false), .d (.bool false), .d (.bool false), .d (.bool false), .d (.bool false), .d (.bool false), .d (.bool false), .d (.bool false), .d (.bool false), .d (.bool false), .d (.bool false), .d (.bool false), .d (.bool false), .d (.bool false), .d (.bool false), .d (.bool false), .d (.bool false), .d (.bool false), .d (.bool false), .d (.bool false), .d (.bool false), .d (.bool false), .d (.bool false), .d (.bool false), .d (.bool false), .d (.bool false), .d (.bool false), .d (.bool false), .d (.bool false), .d (.bool false), .d (.bool false), .d (.bool false), .d (.bool false), .d (.bool false), .d (.bool false), .d (.bool false), .d (.bool false), .d (.bool false), .d (.bool false), .d (.bool false), .d (.bool false), .d (.bool false), .d (.bool false), .d (.bool false), .d (.bool false), .d (.bool false), .d (.bool false), .d (.bool false), .d (.bool false), .d (.bool false), .d (.bool false), .d (.bool false), .d (.bool false), .d (.bool false), .d (.bool false), .d (.bool false), .d (.bool false), .d (.bool false), .d (.bool false), .d (.bool false), .d (.bool false), .d (.bool false), .d (.bool false), .d (.bool false), .d (.bool false), .d (.bool false), .d (.bool false), .d (.bool false), .d (.bool false), .d (.bool false), .d (.bool false), .d (.bool false), .d (.bool false), .d (.bool false), .d (.bool false), .d (.bool false), .d (.bool false), .d (.bool false), .d (.bool false), .d (.bool false), .d (.bool false), .d (.bool false), .d (.bool false), .d (.bool false), .d (.bool false), .d (.bool false), .d (.bool false), .d (.bool false), .d (.bool false), .d (.bool false), .d (.bool false), .d (.bool false), .d (.bool false), .d (.bool false), .d (.bool false), .d (.bool false), .d (.bool false), .d (.bool false), .d (.bool false), .d (.bool false), .d (.bool false), .d (.bool false), .d (.bool false), .d (.bool false), .d (.bool false), .d (.bool false), .d (.bool false), .d (.bool false), .d (.bool false), .d (.bool false), .d (.bool false), .d (.bool false), .d (.bool false), .d (.bool false), .d (.bool false), .d (.bool false), .d (.bool false), .d (.bool false), .d (.bool false), .d (.bool false), .d (.bool false), .d (.bool false), .d (.bool false), .d (.bool false), .d (.bool false), .d (.bool false), .d (.bool false), .d (.bool false), .d (.bool false), .d (.bool false), .d (.bool false), .d (.bool false), .d (.bool false), .d (.bool false), .d (.bool false), .d (.bool false), .d (.bool false), .d (.bool false), .d (.bool false), .d (.bool false), .d (.bool false), .d (.bool false), .d (.bool false), .d (.bool false), .d (.bool false), .d (.bool false), .d (.bool false), .d (.bool false), .d (.bool false), .d (.bool false), .d (.bool false), .d (.bool false), .d (.bool false), .d (.bool false), .d (.bool false), .d (.bool false), .d (.bool false), .d (.bool false), .d (.bool false), .d (.bool false), .d (.bool false), .d (.bool false), .d (.bool false), .d (.bool false), .d (.bool false), .d (.bool false), .d (.bool false), .d (.bool false), .d (.bool false), .d (.bool false), .d (.bool false), .d (.bool false), .d (.bool false)] : List AV) 0 (setB l) = setB l := setB_putL rfl
end Go.Proofs.YtjjanbljkoaojaaGreatDoor

namespace Go.Proofs.YtjjanbljkoaojaaGreatDoor
open Go Go.Proofs Go.Abs
variable {G : Globals}
/-! Whether a text holds a line end's byte. -/
theorem decw (l : List UInt8) (p : Nat) (h : p < l.length) : ((l.getD p 0).toNat < 128 ∧ dec l p = ((l.getD p 0).toNat, 1)) ∨
    (128 ≤ (dec l p).1 ∧ 1 ≤ (dec l p).2 ∧ p + (dec l p).2 ≤ l.length ∧ ∀ i, i < (dec l p).2 → 128 ≤ (l.getD (p + i) 0).toNat) := by
  by_cases h0 : (l.getD p 0).toNat < 128
  · exact .inl ⟨h0, dec_ascii h h0⟩
  · right
    have hget : ∀ k, ((bs l).get! (p + k)).toNat = (l.getD (p + k) 0).toNat := fun k => by
      show (l.toArray.getD (p + k) default).toNat = _
      simp [List.getD_eq_getElem?_getD]; rfl
    have hsz : (bs l).size = l.length := bs_size
    unfold dec Utf8.decode
    have hget0 : ((bs l).get! p).toNat = (l.getD p 0).toNat := hget 0
    simp only [hget, hsz, Nat.add_zero, hget0]
    have hb : ∀ k, (l.getD (p + k) 0).toNat < 256 := fun k => (l.getD (p + k) 0).toNat_lt
    have hb1 := hb 1
    have hb2 := hb 2
    have hb3 := hb 3
    have hb0 := hb 0
    rw [Nat.add_zero] at hb0
    rw [if_neg h0]
    have one : ∀ i, i < 1 → 128 ≤ (l.getD (p + i) 0).toNat := fun i hi => by obtain rfl : i = 0 := by omega
                                                                             rw [Nat.add_zero]; omega
    split
    · rename_i h1
      simp only [Bool.and_eq_true, beq_iff_eq, decide_eq_true_eq] at h1
      split
      · rename_i h2
        refine ⟨by omega, by omega, by omega, fun i hi => ?_⟩
        rcases (by omega : i = 0 ∨ i = 1) with rfl | rfl
        · rw [Nat.add_zero]; omega
        · omega
      · exact ⟨by simp [Utf8.runeError], by omega, by omega, one⟩
    · split
      · rename_i h1
        simp only [Bool.and_eq_true, beq_iff_eq, decide_eq_true_eq] at h1
        split
        · rename_i h2
          simp only [Bool.and_eq_true, decide_eq_true_eq] at h2
          refine ⟨by omega, by omega, by omega, fun i hi => ?_⟩
          rcases (by omega : i = 0 ∨ i = 1 ∨ i = 2) with rfl | rfl | rfl
          · rw [Nat.add_zero]; omega
          · omega
          · omega
        · exact ⟨by simp [Utf8.runeError], by omega, by omega, one⟩
      · split
        · rename_i h1
          simp only [Bool.and_eq_true, beq_iff_eq, decide_eq_true_eq] at h1
          split
          · rename_i h2
            simp only [Bool.and_eq_true, decide_eq_true_eq] at h2
            refine ⟨by omega, by omega, by omega, fun i hi => ?_⟩
            rcases (by omega : i = 0 ∨ i = 1 ∨ i = 2 ∨ i = 3) with rfl | rfl | rfl | rfl
            · rw [Nat.add_zero]; omega
            · omega
            · omega
            · omega
          · exact ⟨by simp [Utf8.runeError], by omega, by omega, one⟩
        · exact ⟨by simp [Utf8.runeError], by omega, by omega, one⟩
/-- A wide rune's bytes: more than one, the last one is none of ASCII. -/
theorem enc_wide (r : Nat) (h : 128 ≤ r) : ∃ e : List UInt8, Utf8.encode (r : Int) = bs e ∧ 2 ≤ e.length ∧ e.length ≤ 4 ∧ 128 ≤ (e.getD (e.length - 1) 0).toNat := by
  have key : ∃ e : List UInt8, (Utf8.encode (r : Int)).data.toList = e ∧ 2 ≤ e.length ∧ e.length ≤ 4 ∧ 128 ≤ (e.getD (e.length - 1) 0).toNat := by
    by_cases c2 : r < 2048
    · refine ⟨[UInt8.ofNat (192 + r / 64), UInt8.ofNat (128 + r % 64)], ?_, by simp, by simp, ?_⟩
      · have : Utf8.valid (r : Int) = true := by simp [Utf8.valid]; omega
        simp [Utf8.encode, this, c2, show ¬ r < 128 by omega]
      · simp; omega
    · by_cases hv : (55296 ≤ r ∧ r ≤ 57343) ∨ 1114111 < r
      · refine ⟨[239, 191, 189], ?_, by simp, by simp, by decide⟩
        have : Utf8.valid (r : Int) = false := by simp [Utf8.valid]; omega
        simp [Utf8.encode, this, Utf8.runeError]
      · by_cases c3 : r < 65536
        · refine ⟨[UInt8.ofNat (224 + r / 4096), UInt8.ofNat (128 + r / 64 % 64), UInt8.ofNat (128 + r % 64)], ?_, by simp, by simp, ?_⟩
          · have : Utf8.valid (r : Int) = true := by simp [Utf8.valid]; omega
            simp [Utf8.encode, this, c2, c3, show ¬ r < 128 by omega]
          · simp; omega
        · refine ⟨[UInt8.ofNat (240 + r / 262144), UInt8.ofNat (128 + r / 4096 % 64), UInt8.ofNat (128 + r / 64 % 64), UInt8.ofNat (128 + r % 64)], ?_, by simp, by simp, ?_⟩
          · have : Utf8.valid (r : Int) = true := by simp [Utf8.valid]; omega
            simp [Utf8.encode, this, c2, c3, show ¬ r < 128 by omega]
          · simp; omega
  obtain ⟨e, h1, h2⟩ := key
  exact ⟨e, bs_ext (by rw [h1]), h2⟩
def nlL : List UInt8 := [13, 10]
theorem validRune_spec (r : Nat) (hr : r ≤ 2147483647) : Ctr Tryz.prog G 85 [.d (.int .i32 r)] [] (.d (.bool (decide (r < 55296 ∨ 57343 < r ∧ r ≤ 1114111)))) [] := by
  refine Ctr.pure (M := M0) hmix Tryz.func85 rfl go85 ?_
  rcases (by omega : r < 55296 ∨ (55296 ≤ r ∧ r ≤ 57343) ∨ (57343 < r ∧ r ≤ 1114111) ∨ 1114111 < r) with h | h | h | h
  all_goals
    simp (config := { maxSteps := 1000000 }) (disch := ((try simp only [awL]); omega)) only [Option.toList_some, Option.toList_none, nextC_more, nextC_over, bs_size, bs_extract, bs_toList, bs_append, byteAt_bs, bs_cells, nums_length, nums_getD, Tryz.f85, ↓awU, awV, awF, ofVal, ofVal0, isShift, aggK, forall_const, ↓reduceIte, ↓reduceDIte, ↓purePost, combine, idsA, cellsA, numsOf, srcA, calleeA, refsA, isScalar, scalarD, scalar0, AV.one, putL, unfA, implies_true, IntKind.signed, Nat.reduceAdd, Nat.reduceSub, Nat.reduceMul, Nat.reducePow, Nat.reduceDiv, Nat.reduceMod, Int.reduceAdd, Int.reduceSub, Int.reduceMul, Int.reducePow, Int.reduceNeg, Int.reduceToNat, Int.reduceLT, Int.reduceLE, Nat.reduceEqDiff, sidsB, Nat.reduceBEq, keyKD, isIntK, aggD, aggL, eqKs]
  all_goals (first | done | (simp <;> omega))
set_option maxHeartbeats 4000000 in
set_option maxRecDepth 100000 in
theorem indexRune_spec (r : Nat) (hr : r ≤ 2147483647) : Ctr Tryz.prog G 66 [.d (S nlL), .d (.int .i32 r)] [] (.d (.int .i64 (if r < 128 then Lib.indexByte nlL (UInt8.ofNat r) else -1))) [] := by
  refine Ctr.pure (M := M0) hmix Tryz.func66 rfl go66 ?_
  obtain ⟨L, hL⟩ : ∃ L : List UInt8, L = nlL := ⟨_, rfl⟩
  have ll : L.length = 2 := by rw [hL]; rfl
  have l0 : (L.getD 0 0).toNat = 13 := by rw [hL]; rfl
  have l1 : (L.getD 1 0).toNat = 10 := by rw [hL]; rfl
  rw [← hL]
  by_cases h : r < 128
  · rw [if_pos h]
    have e : (UInt8.ofNat r).toNat = r := by simp; omega
    have sp := sIndexByte_spec (G := G) L (UInt8.ofNat r)
    rw [e] at sp
    simp (config := { maxSteps := 1000000 }) (disch := ((try simp only [awL]); omega)) only [Option.toList_some, Option.toList_none, nextC_more, nextC_over, bs_size, bs_extract, bs_toList, bs_append, byteAt_bs, bs_cells, nums_length, nums_getD, Tryz.f66, ↓awU, awV, awF, ofVal, ofVal0, isShift, aggK, forall_const, ↓reduceIte, ↓reduceDIte, ↓purePost, combine, idsA, cellsA, numsOf, srcA, calleeA, refsA, isScalar, scalarD, scalar0, AV.one, putL, unfA, implies_true, IntKind.signed, Nat.reduceAdd, Nat.reduceSub, Nat.reduceMul, Nat.reducePow, Nat.reduceDiv, Nat.reduceMod, Int.reduceAdd, Int.reduceSub, Int.reduceMul, Int.reducePow, Int.reduceNeg, Int.reduceToNat, Int.reduceLT, Int.reduceLE, Nat.reduceEqDiff, sidsB, Nat.reduceBEq, keyKD, isIntK, aggD, aggL, eqKs]
    refine CallC.pure sp ?_
    simp (config := { maxSteps := 1000000 }) (disch := ((try simp only [awL]); omega)) only [Option.toList_some, Option.toList_none, nextC_more, nextC_over, bs_size, bs_extract, bs_toList, bs_append, byteAt_bs, bs_cells, nums_length, nums_getD, ↓awU, awV, awF, ofVal, ofVal0, isShift, aggK, forall_const, ↓reduceIte, ↓reduceDIte, ↓purePost, combine, idsA, cellsA, numsOf, srcA, calleeA, refsA, isScalar, scalarD, scalar0, AV.one, putL, unfA, implies_true, IntKind.signed, Nat.reduceAdd, Nat.reduceSub, Nat.reduceMul, Nat.reducePow, Nat.reduceDiv, Nat.reduceMod, Int.reduceAdd, Int.reduceSub, Int.reduceMul, Int.reducePow, Int.reduceNeg, Int.reduceToNat, Int.reduceLT, Int.reduceLE, Nat.reduceEqDiff, sidsB, Nat.reduceBEq, keyKD, isIntK, aggD, aggL, eqKs]
  · rw [if_neg h]
    by_cases h2 : r = 65533
    · subst h2
      simp (config := { maxSteps := 1000000 }) (disch := ((try simp only [awL]); omega)) only [Option.toList_some, Option.toList_none, nextC_more, nextC_over, bs_size, bs_extract, bs_toList, bs_append, byteAt_bs, bs_cells, nums_length, nums_getD, Tryz.f66, ↓awU, awV, awF, ofVal, ofVal0, isShift, aggK, forall_const, ↓reduceIte, ↓reduceDIte, ↓purePost, combine, idsA, cellsA, numsOf, srcA, calleeA, refsA, isScalar, scalarD, scalar0, AV.one, putL, unfA, implies_true, IntKind.signed, Nat.reduceAdd, Nat.reduceSub, Nat.reduceMul, Nat.reducePow, Nat.reduceDiv, Nat.reduceMod, Int.reduceAdd, Int.reduceSub, Int.reduceMul, Int.reducePow, Int.reduceNeg, Int.reduceToNat, Int.reduceLT, Int.reduceLE, Nat.reduceEqDiff, sidsB, Nat.reduceBEq, keyKD, isIntK, aggD, aggL, eqKs]
      refine LoopC.fr 47890485652059026823698344598447161988085597568237568 (α := Nat) (fun i => 2 - i) (fun _ => []) (fun i => [.iter (bs L) i]) (fun i => i ≤ 2) 0 (Nat.zero_le _) ?_ ?_
      · exact ⟨[some 0], rfl, by simp, by simp [setsA, keepA, SWeak, AWeak], by simp [HWeak, BWeak, SWeak, AWeak]⟩
      · intro i hi
        simp only [awK, Nat.reduceMod, Nat.reduceDiv, reduceIte]
        rcases (by omega : i = 0 ∨ i = 1 ∨ i = 2) with rfl | rfl | rfl
        · have d := dec_ascii (l := L) (p := 0) (by omega) (by omega)
          rw [l0] at d
          simp (config := { maxSteps := 1000000 }) (disch := ((try simp only [awL]); omega)) only [Option.toList_some, Option.toList_none, nextC_more, nextC_over, bs_size, bs_extract, bs_toList, bs_append, byteAt_bs, bs_cells, nums_length, nums_getD, d, ↓awU, awV, awF, ofVal, ofVal0, isShift, aggK, forall_const, ↓reduceIte, ↓reduceDIte, ↓purePost, combine, idsA, cellsA, numsOf, srcA, calleeA, refsA, isScalar, scalarD, scalar0, AV.one, putL, unfA, implies_true, IntKind.signed, Nat.reduceAdd, Nat.reduceSub, Nat.reduceMul, Nat.reducePow, Nat.reduceDiv, Nat.reduceMod, Int.reduceAdd, Int.reduceSub, Int.reduceMul, Int.reducePow, Int.reduceNeg, Int.reduceToNat, Int.reduceLT, Int.reduceLE, Nat.reduceEqDiff, sidsB, Nat.reduceBEq, keyKD, isIntK, aggD, aggL, eqKs]
          exact ⟨1, by decide, by simp only; omega, ⟨[some 0], rfl, by simp, by simp [setsA, keepA, SWeak, AWeak], by simp [HWeak, BWeak, SWeak, AWeak]⟩⟩
        · have d := dec_ascii (l := L) (p := 1) (by omega) (by omega)
          rw [l1] at d
          simp (config := { maxSteps := 1000000 }) (disch := ((try simp only [awL]); omega)) only [Option.toList_some, Option.toList_none, nextC_more, nextC_over, bs_size, bs_extract, bs_toList, bs_append, byteAt_bs, bs_cells, nums_length, nums_getD, d, ↓awU, awV, awF, ofVal, ofVal0, isShift, aggK, forall_const, ↓reduceIte, ↓reduceDIte, ↓purePost, combine, idsA, cellsA, numsOf, srcA, calleeA, refsA, isScalar, scalarD, scalar0, AV.one, putL, unfA, implies_true, IntKind.signed, Nat.reduceAdd, Nat.reduceSub, Nat.reduceMul, Nat.reducePow, Nat.reduceDiv, Nat.reduceMod, Int.reduceAdd, Int.reduceSub, Int.reduceMul, Int.reducePow, Int.reduceNeg, Int.reduceToNat, Int.reduceLT, Int.reduceLE, Nat.reduceEqDiff, sidsB, Nat.reduceBEq, keyKD, isIntK, aggD, aggL, eqKs]
          exact ⟨2, by decide, by simp only; omega, ⟨[some 0], rfl, by simp, by simp [setsA, keepA, SWeak, AWeak], by simp [HWeak, BWeak, SWeak, AWeak]⟩⟩
        · simp (config := { maxSteps := 1000000 }) (disch := ((try simp only [awL]); omega)) only [Option.toList_some, Option.toList_none, nextC_more, nextC_over, bs_size, bs_extract, bs_toList, bs_append, byteAt_bs, bs_cells, nums_length, nums_getD, ↓awU, awV, awF, ofVal, ofVal0, isShift, aggK, forall_const, ↓reduceIte, ↓reduceDIte, ↓purePost, combine, idsA, cellsA, numsOf, srcA, calleeA, refsA, isScalar, scalarD, scalar0, AV.one, putL, unfA, implies_true, IntKind.signed, Nat.reduceAdd, Nat.reduceSub, Nat.reduceMul, Nat.reducePow, Nat.reduceDiv, Nat.reduceMod, Int.reduceAdd, Int.reduceSub, Int.reduceMul, Int.reducePow, Int.reduceNeg, Int.reduceToNat, Int.reduceLT, Int.reduceLE, Nat.reduceEqDiff, sidsB, Nat.reduceBEq, keyKD, isIntK, aggD, aggL, eqKs]
    · simp (config := { maxSteps := 1000000 }) (disch := ((try simp only [awL]); omega)) only [Option.toList_some, Option.toList_none, nextC_more, nextC_over, bs_size, bs_extract, bs_toList, bs_append, byteAt_bs, bs_cells, nums_length, nums_getD, Tryz.f66, ↓awU, awV, awF, ofVal, ofVal0, isShift, aggK, forall_const, ↓reduceIte, ↓reduceDIte, ↓purePost, combine, idsA, cellsA, numsOf, srcA, calleeA, refsA, isScalar, scalarD, scalar0, AV.one, putL, unfA, implies_true, IntKind.signed, Nat.reduceAdd, Nat.reduceSub, Nat.reduceMul, Nat.reducePow, Nat.reduceDiv, Nat.reduceMod, Int.reduceAdd, Int.reduceSub, Int.reduceMul, Int.reducePow, Int.reduceNeg, Int.reduceToNat, Int.reduceLT, Int.reduceLE, Nat.reduceEqDiff, sidsB, Nat.reduceBEq, keyKD, isIntK, aggD, aggL, eqKs]
      refine CallC.pure (validRune_spec r hr) ?_
      by_cases hv : r < 55296 ∨ 57343 < r ∧ r ≤ 1114111
      · rw [decide_eq_true hv]
        obtain ⟨e, e1, e2, e3, e4⟩ := enc_wide r (by omega)
        have hb := (e.getD (e.length - 1) 0).toNat_lt
        simp (config := { maxSteps := 1000000 }) (disch := ((try simp only [awL]); omega)) only [Option.toList_some, Option.toList_none, nextC_more, nextC_over, bs_size, bs_extract, bs_toList, bs_append, byteAt_bs, bs_cells, nums_length, nums_getD, e1, ↓awU, awV, awF, ofVal, ofVal0, isShift, aggK, forall_const, ↓reduceIte, ↓reduceDIte, ↓purePost, combine, idsA, cellsA, numsOf, srcA, calleeA, refsA, isScalar, scalarD, scalar0, AV.one, putL, unfA, implies_true, IntKind.signed, Nat.reduceAdd, Nat.reduceSub, Nat.reduceMul, Nat.reducePow, Nat.reduceDiv, Nat.reduceMod, Int.reduceAdd, Int.reduceSub, Int.reduceMul, Int.reducePow, Int.reduceNeg, Int.reduceToNat, Int.reduceLT, Int.reduceLE, Nat.reduceEqDiff, sidsB, Nat.reduceBEq, keyKD, isIntK, aggD, aggL, eqKs]
        refine LoopC.fr 385 (α := Nat) (fun _ => 1) (fun _ => [(9, .d (.int .i64 (e.length - 1 : Int)))]) (fun _ => []) (fun _ => True) 0 trivial ?_ ?_
        · exact ⟨[], rfl, by simp, by simp [setsA, keepA, SWeak, AWeak], by simp [HWeak, BWeak, SWeak, AWeak]⟩
        · intro i hi
          simp only [awK, Nat.reduceMod, Nat.reduceDiv, reduceIte]
          rcases (by omega : e.length = 2 ∨ 2 < e.length) with h3 | h3
          · rw [h3] at e4 hb
            replace e4 : 128 ≤ (e.getD 1 0).toNat := e4
            have sp : Ctr Tryz.prog G 39 [.d (S []), .d (.int .u8 (e.getD 1 0).toNat)] [] (.d (.int .i64 (-1))) [] := sIndexByte_spec (G := G) [] (e.getD 1 0)
            simp (config := { maxSteps := 1000000 }) (disch := ((try simp only [awL]); omega)) only [Option.toList_some, Option.toList_none, nextC_more, nextC_over, bs_size, bs_extract, bs_toList, bs_append, byteAt_bs, bs_cells, nums_length, nums_getD, h3, ↓awU, awV, awF, ofVal, ofVal0, isShift, aggK, forall_const, ↓reduceIte, ↓reduceDIte, ↓purePost, combine, idsA, cellsA, numsOf, srcA, calleeA, refsA, isScalar, scalarD, scalar0, AV.one, putL, unfA, implies_true, IntKind.signed, Nat.reduceAdd, Nat.reduceSub, Nat.reduceMul, Nat.reducePow, Nat.reduceDiv, Nat.reduceMod, Int.reduceAdd, Int.reduceSub, Int.reduceMul, Int.reducePow, Int.reduceNeg, Int.reduceToNat, Int.reduceLT, Int.reduceLE, Nat.reduceEqDiff, sidsB, Nat.reduceBEq, keyKD, isIntK, aggD, aggL, eqKs]
            have hne : ¬ (((L.getD 1 0).toNat : Nat) : Int) = ((e.getD 1 0).toNat : Nat) := by omega
            refine ⟨by rfl, ?_⟩
            refine CallC.of sp (by rw [hL]; rfl) ?_
            simp (config := { maxSteps := 1000000 }) (disch := ((try simp only [awL]); omega)) only [Option.toList_some, Option.toList_none, nextC_more, nextC_over, bs_size, bs_extract, bs_toList, bs_append, byteAt_bs, bs_cells, nums_length, nums_getD, ↓awU, awV, awF, ofVal, ofVal0, isShift, aggK, forall_const, ↓reduceIte, ↓reduceDIte, ↓purePost, combine, idsA, cellsA, numsOf, srcA, calleeA, refsA, isScalar, scalarD, scalar0, AV.one, putL, unfA, implies_true, IntKind.signed, Nat.reduceAdd, Nat.reduceSub, Nat.reduceMul, Nat.reducePow, Nat.reduceDiv, Nat.reduceMod, Int.reduceAdd, Int.reduceSub, Int.reduceMul, Int.reducePow, Int.reduceNeg, Int.reduceToNat, Int.reduceLT, Int.reduceLE, Nat.reduceEqDiff, sidsB, Nat.reduceBEq, keyKD, isIntK, aggD, aggL, eqKs]
            try rfl
          · simp (config := { maxSteps := 1000000 }) (disch := ((try simp only [awL]); omega)) only [Option.toList_some, Option.toList_none, nextC_more, nextC_over, bs_size, bs_extract, bs_toList, bs_append, byteAt_bs, bs_cells, nums_length, nums_getD, ↓awU, awV, awF, ofVal, ofVal0, isShift, aggK, forall_const, ↓reduceIte, ↓reduceDIte, ↓purePost, combine, idsA, cellsA, numsOf, srcA, calleeA, refsA, isScalar, scalarD, scalar0, AV.one, putL, unfA, implies_true, IntKind.signed, Nat.reduceAdd, Nat.reduceSub, Nat.reduceMul, Nat.reducePow, Nat.reduceDiv, Nat.reduceMod, Int.reduceAdd, Int.reduceSub, Int.reduceMul, Int.reducePow, Int.reduceNeg, Int.reduceToNat, Int.reduceLT, Int.reduceLE, Nat.reduceEqDiff, sidsB, Nat.reduceBEq, keyKD, isIntK, aggD, aggL, eqKs]
      · rw [decide_eq_false hv]
        simp (config := { maxSteps := 1000000 }) (disch := ((try simp only [awL]); omega)) only [Option.toList_some, Option.toList_none, nextC_more, nextC_over, bs_size, bs_extract, bs_toList, bs_append, byteAt_bs, bs_cells, nums_length, nums_getD, ↓awU, awV, awF, ofVal, ofVal0, isShift, aggK, forall_const, ↓reduceIte, ↓reduceDIte, ↓purePost, combine, idsA, cellsA, numsOf, srcA, calleeA, refsA, isScalar, scalarD, scalar0, AV.one, putL, unfA, implies_true, IntKind.signed, Nat.reduceAdd, Nat.reduceSub, Nat.reduceMul, Nat.reducePow, Nat.reduceDiv, Nat.reduceMod, Int.reduceAdd, Int.reduceSub, Int.reduceMul, Int.reducePow, Int.reduceNeg, Int.reduceToNat, Int.reduceLT, Int.reduceLE, Nat.reduceEqDiff, sidsB, Nat.reduceBEq, keyKD, isIntK, aggD, aggL, eqKs]
/-- The place of the first line end's byte, from a place on. -/
def nlIx (l : List UInt8) (p : Nat) : Int := if h : p < l.length then (if (l.getD p 0).toNat = 13 ∨ (l.getD p 0).toNat = 10 then (p : Int) else nlIx l (p + 1)) else -1
termination_by l.length - p
theorem nlIx_end {l : List UInt8} {p : Nat} (h : ¬ p < l.length) : nlIx l p = -1 := by rw [nlIx, dif_neg h]
theorem nlIx_hit {l : List UInt8} {p : Nat} (h : p < l.length) (h2 : (l.getD p 0).toNat = 13 ∨ (l.getD p 0).toNat = 10) : nlIx l p = p := by rw [nlIx, dif_pos h, if_pos h2]
theorem nlIx_miss {l : List UInt8} {p : Nat} (h : p < l.length) (h2 : ¬ ((l.getD p 0).toNat = 13 ∨ (l.getD p 0).toNat = 10)) : nlIx l p = nlIx l (p + 1) := by rw [nlIx, dif_pos h, if_neg h2]
theorem nlIx_skip {l : List UInt8} {p : Nat} : ∀ w, p + w ≤ l.length → (∀ i, i < w → 128 ≤ (l.getD (p + i) 0).toNat) → nlIx l p = nlIx l (p + w)
  | 0, _, _ => rfl
  | w + 1, h, h2 => by
    rw [nlIx_skip w (by omega) (fun i hi => h2 i (by omega)), nlIx_miss (by omega) (by have := h2 w (by omega); omega)]; rfl
theorem nlIx_mem : ∀ (n : Nat) (l : List UInt8) (p : Nat), l.length - p = n → (0 ≤ nlIx l p ↔ 10 ∈ l.drop p ∨ 13 ∈ l.drop p)
  | 0, l, p, hn => by rw [nlIx_end (by omega), List.drop_eq_nil_of_le (by omega)]; simp
  | n + 1, l, p, hn => by
    have hp : p < l.length := by omega
    have e10 : ∀ x : UInt8, (10 : UInt8) = x ↔ x.toNat = 10 := fun x => ⟨fun e => by rw [← e]; rfl, fun e => UInt8.toNat_inj.1 e.symm⟩
    have e13 : ∀ x : UInt8, (13 : UInt8) = x ↔ x.toNat = 13 := fun x => ⟨fun e => by rw [← e]; rfl, fun e => UInt8.toNat_inj.1 e.symm⟩
    have ed : l.drop p = l.getD p 0 :: l.drop (p + 1) := by rw [List.drop_eq_getElem_cons hp, List.getD_eq_getElem?_getD, List.getElem?_eq_getElem hp]; rfl
    rw [ed, List.mem_cons, List.mem_cons, e10, e13]
    by_cases h : (l.getD p 0).toNat = 13 ∨ (l.getD p 0).toNat = 10
    · rw [nlIx_hit hp h]
      exact ⟨fun _ => by rcases h with h | h; exact .inr (.inl h); exact .inl (.inl h), fun _ => by omega⟩
    · rw [nlIx_miss hp h, nlIx_mem n l (p + 1) (by omega)]
      constructor
      · rintro (h2 | h2)
        · exact .inl (.inr h2)
        · exact .inr (.inr h2)
      · rintro ((h2 | h2) | (h2 | h2))
        · exact absurd (.inr h2) h
        · exact .inl h2
        · exact absurd (.inl h2) h
        · exact .inr h2
def hasNl (l : List UInt8) : Bool := decide (10 ∈ l ∨ 13 ∈ l)
theorem nl_contains (c : UInt8) : nlL.contains c = decide (c.toNat = 13 ∨ c.toNat = 10) := by
  have e10 : c = 10 ↔ c.toNat = 10 := ⟨fun e => by rw [e]; rfl, fun e => UInt8.toNat_inj.1 e⟩
  have e13 : c = 13 ↔ c.toNat = 13 := ⟨fun e => by rw [e]; rfl, fun e => UInt8.toNat_inj.1 e⟩
  simp [nlL, e10, e13]
theorem nl_index {r : Nat} (h : r < 128) : Lib.indexByte nlL (UInt8.ofNat r) = if r = 13 then 0 else if r = 10 then 1 else -1 := by
  have hr : (UInt8.ofNat r).toNat = r := by simp; omega
  have e10 : (10 : UInt8) = UInt8.ofNat r ↔ r = 10 := ⟨fun e => by rw [← e] at hr; exact hr.symm, fun e => by rw [e]; rfl⟩
  have e13 : (13 : UInt8) = UInt8.ofNat r ↔ r = 13 := ⟨fun e => by rw [← e] at hr; exact hr.symm, fun e => by rw [e]; rfl⟩
  simp only [nlL, Lib.indexByte, beq_iff_eq, e10, e13]
  by_cases h1 : r = 13 <;> by_cases h2 : r = 10 <;> simp [h1, h2]
set_option maxHeartbeats 4000000 in
set_option maxRecDepth 100000 in
theorem indexAny_spec (l : List UInt8) (hl : l.length ≤ 1000000000) : Ctr Tryz.prog G 54 [.d (S l), .d (S nlL)] [] (.d (.int .i64 (nlIx l 0))) [] := by
  refine Ctr.pure (M := M0) hmix Tryz.func54 rfl go54 ?_
  have us : ∀ n : Nat, n ≤ 1000000000 → Ctr Tryz.prog G 67 [.d (.int .i64 n)] [] (.d (.bool (decide (8 < n)))) [] := fun n hn => by
    refine Ctr.pure (M := M0) hmix Tryz.func67 rfl go67 ?_
    rcases Nat.lt_or_ge 8 n with h | h
    · simp (config := { maxSteps := 1000000 }) (disch := ((try simp only [awL]); omega)) only [Option.toList_some, Option.toList_none, nextC_more, nextC_over, bs_size, bs_extract, bs_toList, bs_append, byteAt_bs, bs_cells, nums_length, nums_getD, Tryz.f67, ↓awU, awV, awF, ofVal, ofVal0, isShift, aggK, forall_const, ↓reduceIte, ↓reduceDIte, ↓purePost, combine, idsA, cellsA, numsOf, srcA, calleeA, refsA, isScalar, scalarD, scalar0, AV.one, putL, unfA, implies_true, IntKind.signed, Nat.reduceAdd, Nat.reduceSub, Nat.reduceMul, Nat.reducePow, Nat.reduceDiv, Nat.reduceMod, Int.reduceAdd, Int.reduceSub, Int.reduceMul, Int.reducePow, Int.reduceNeg, Int.reduceToNat, Int.reduceLT, Int.reduceLE, Nat.reduceEqDiff, sidsB, Nat.reduceBEq, keyKD, isIntK, aggD, aggL, eqKs]
      try (simp <;> omega)
    · simp (config := { maxSteps := 1000000 }) (disch := ((try simp only [awL]); omega)) only [Option.toList_some, Option.toList_none, nextC_more, nextC_over, bs_size, bs_extract, bs_toList, bs_append, byteAt_bs, bs_cells, nums_length, nums_getD, Tryz.f67, ↓awU, awV, awF, ofVal, ofVal0, isShift, aggK, forall_const, ↓reduceIte, ↓reduceDIte, ↓purePost, combine, idsA, cellsA, numsOf, srcA, calleeA, refsA, isScalar, scalarD, scalar0, AV.one, putL, unfA, implies_true, IntKind.signed, Nat.reduceAdd, Nat.reduceSub, Nat.reduceMul, Nat.reducePow, Nat.reduceDiv, Nat.reduceMod, Int.reduceAdd, Int.reduceSub, Int.reduceMul, Int.reducePow, Int.reduceNeg, Int.reduceToNat, Int.reduceLT, Int.reduceLE, Nat.reduceEqDiff, sidsB, Nat.reduceBEq, keyKD, isIntK, aggD, aggL, eqKs]
      try (simp <;> omega)
  have nl2 : nlL.length = 2 := rfl
  obtain ⟨L, hL⟩ : ∃ L : List UInt8, L = nlL := ⟨_, rfl⟩
  rw [← hL] at nl2 ⊢
  have nlne : ¬ L = [] := by rw [hL]; decide
  simp (config := { maxSteps := 1000000 }) (disch := ((try simp only [awL]); omega)) only [Option.toList_some, Option.toList_none, nextC_more, nextC_over, bs_size, bs_extract, bs_toList, bs_append, byteAt_bs, bs_cells, nums_length, nums_getD, nl2, nlne, Tryz.f54, ↓awU, awV, awF, ofVal, ofVal0, isShift, aggK, forall_const, ↓reduceIte, ↓reduceDIte, ↓purePost, combine, idsA, cellsA, numsOf, srcA, calleeA, refsA, isScalar, scalarD, scalar0, AV.one, putL, unfA, implies_true, IntKind.signed, Nat.reduceAdd, Nat.reduceSub, Nat.reduceMul, Nat.reducePow, Nat.reduceDiv, Nat.reduceMod, Int.reduceAdd, Int.reduceSub, Int.reduceMul, Int.reducePow, Int.reduceNeg, Int.reduceToNat, Int.reduceLT, Int.reduceLE, Nat.reduceEqDiff, sidsB, Nat.reduceBEq, keyKD, isIntK, aggD, aggL, eqKs]
  refine CallC.pure (us _ hl) ?_
  rcases Nat.lt_or_ge 8 l.length with h | h
  · rw [decide_eq_true h]
    simp (config := { maxSteps := 1000000 }) (disch := ((try simp only [awL]); omega)) only [Option.toList_some, Option.toList_none, nextC_more, nextC_over, bs_size, bs_extract, bs_toList, bs_append, byteAt_bs, bs_cells, nums_length, nums_getD, ↓awU, awV, awF, ofVal, ofVal0, isShift, aggK, forall_const, ↓reduceIte, ↓reduceDIte, ↓purePost, combine, idsA, cellsA, numsOf, srcA, calleeA, refsA, isScalar, scalarD, scalar0, AV.one, putL, unfA, implies_true, IntKind.signed, Nat.reduceAdd, Nat.reduceSub, Nat.reduceMul, Nat.reducePow, Nat.reduceDiv, Nat.reduceMod, Int.reduceAdd, Int.reduceSub, Int.reduceMul, Int.reducePow, Int.reduceNeg, Int.reduceToNat, Int.reduceLT, Int.reduceLE, Nat.reduceEqDiff, sidsB, Nat.reduceBEq, keyKD, isIntK, aggD, aggL, eqKs]
    refine CallC.of (makeSet_spec nlL (by decide) (by decide)) (by rw [hL]) ?_
    have sl := @setD_length nlL
    have sb := @setB_length nlL
    have hal := (setB_one : (setB nlL).all AV.one = true)
    simp (config := { maxSteps := 1000000 }) (disch := ((try simp only [awL]); omega)) only [Option.toList_some, Option.toList_none, nextC_more, nextC_over, bs_size, bs_extract, bs_toList, bs_append, byteAt_bs, bs_cells, nums_length, nums_getD, sl, sb, ↓ setB_putL', setB_putL', setB_fold, setB_refs, setB_pass, setB_sids, setB_ren, ↓awU, awV, awF, ofVal, ofVal0, isShift, aggK, forall_const, ↓reduceIte, ↓reduceDIte, ↓purePost, combine, idsA, cellsA, numsOf, srcA, calleeA, refsA, isScalar, scalarD, scalar0, AV.one, putL, unfA, implies_true, IntKind.signed, Nat.reduceAdd, Nat.reduceSub, Nat.reduceMul, Nat.reducePow, Nat.reduceDiv, Nat.reduceMod, Int.reduceAdd, Int.reduceSub, Int.reduceMul, Int.reducePow, Int.reduceNeg, Int.reduceToNat, Int.reduceLT, Int.reduceLE, Nat.reduceEqDiff, sidsB, Nat.reduceBEq, keyKD, isIntK, aggD, aggL, eqKs]
    refine ⟨setB_one, ?_⟩
    refine LoopC.fr 65 (α := Nat) (fun p => l.length - p) (fun p => [(8, .d (.int .i64 p))]) (fun p => [.box (setB nlL)]) (fun p => p ≤ l.length ∧ nlIx l 0 = nlIx l p) 0 ⟨Nat.zero_le _, rfl⟩ ?_ ?_
    · exact ⟨[some 0], rfl, by simp, by simp [setsA, keepA, SWeak, AWeak], by simp [HWeak, BWeak, setB_weak]⟩
    · rintro p ⟨h1, h2⟩
      simp only [awK, Nat.reduceMod, Nat.reduceDiv, reduceIte]
      rw [h2]
      rcases Nat.lt_or_ge p l.length with h3 | h3
      · simp (config := { maxSteps := 1000000 }) (disch := ((try simp only [awL]); omega)) only [Option.toList_some, Option.toList_none, nextC_more, nextC_over, bs_size, bs_extract, bs_toList, bs_append, byteAt_bs, bs_cells, nums_length, nums_getD, setB_refs, setB_pass, setB_sids, setB_ren, ↓awU, awV, awF, ofVal, ofVal0, isShift, aggK, forall_const, ↓reduceIte, ↓reduceDIte, ↓purePost, combine, idsA, cellsA, numsOf, srcA, calleeA, refsA, isScalar, scalarD, scalar0, AV.one, putL, unfA, implies_true, IntKind.signed, Nat.reduceAdd, Nat.reduceSub, Nat.reduceMul, Nat.reducePow, Nat.reduceDiv, Nat.reduceMod, Int.reduceAdd, Int.reduceSub, Int.reduceMul, Int.reducePow, Int.reduceNeg, Int.reduceToNat, Int.reduceLT, Int.reduceLE, Nat.reduceEqDiff, sidsB, Nat.reduceBEq, keyKD, isIntK, aggD, aggL, eqKs]
        refine CallC.by (contains_spec nlL (l.getD p 0)) (by rfl) (by rfl) (Nat.le_refl _) ?_
        rw [nl_contains]
        by_cases n : (l.getD p 0).toNat = 13 ∨ (l.getD p 0).toNat = 10
        · rw [decide_eq_true n, nlIx_hit h3 n]
          simp (config := { maxSteps := 1000000 }) (disch := ((try simp only [awL]); omega)) only [Option.toList_some, Option.toList_none, nextC_more, nextC_over, bs_size, bs_extract, bs_toList, bs_append, byteAt_bs, bs_cells, nums_length, nums_getD, setB_refs, setB_pass, setB_sids, setB_ren, ↓awU, awV, awF, ofVal, ofVal0, isShift, aggK, forall_const, ↓reduceIte, ↓reduceDIte, ↓purePost, combine, idsA, cellsA, numsOf, srcA, calleeA, refsA, isScalar, scalarD, scalar0, AV.one, putL, unfA, implies_true, IntKind.signed, Nat.reduceAdd, Nat.reduceSub, Nat.reduceMul, Nat.reducePow, Nat.reduceDiv, Nat.reduceMod, Int.reduceAdd, Int.reduceSub, Int.reduceMul, Int.reducePow, Int.reduceNeg, Int.reduceToNat, Int.reduceLT, Int.reduceLE, Nat.reduceEqDiff, sidsB, Nat.reduceBEq, keyKD, isIntK, aggD, aggL, eqKs]
        · rw [decide_eq_false n]
          simp (config := { maxSteps := 1000000 }) (disch := ((try simp only [awL]); omega)) only [Option.toList_some, Option.toList_none, nextC_more, nextC_over, bs_size, bs_extract, bs_toList, bs_append, byteAt_bs, bs_cells, nums_length, nums_getD, setB_refs, setB_pass, setB_sids, setB_ren, ↓awU, awV, awF, ofVal, ofVal0, isShift, aggK, forall_const, ↓reduceIte, ↓reduceDIte, ↓purePost, combine, idsA, cellsA, numsOf, srcA, calleeA, refsA, isScalar, scalarD, scalar0, AV.one, putL, unfA, implies_true, IntKind.signed, Nat.reduceAdd, Nat.reduceSub, Nat.reduceMul, Nat.reducePow, Nat.reduceDiv, Nat.reduceMod, Int.reduceAdd, Int.reduceSub, Int.reduceMul, Int.reducePow, Int.reduceNeg, Int.reduceToNat, Int.reduceLT, Int.reduceLE, Nat.reduceEqDiff, sidsB, Nat.reduceBEq, keyKD, isIntK, aggD, aggL, eqKs]
          exact ⟨p + 1, ⟨h3, nlIx_miss h3 n⟩, by simp only; omega, ⟨[some 0], rfl, by simp, by simp [setsA, keepA, SWeak, AWeak], by simp [HWeak, BWeak, setB_weak]⟩⟩
      · rw [nlIx_end (by omega)]
        simp (config := { maxSteps := 1000000 }) (disch := ((try simp only [awL]); omega)) only [Option.toList_some, Option.toList_none, nextC_more, nextC_over, bs_size, bs_extract, bs_toList, bs_append, byteAt_bs, bs_cells, nums_length, nums_getD, ↓awU, awV, awF, ofVal, ofVal0, isShift, aggK, forall_const, ↓reduceIte, ↓reduceDIte, ↓purePost, combine, idsA, cellsA, numsOf, srcA, calleeA, refsA, isScalar, scalarD, scalar0, AV.one, putL, unfA, implies_true, IntKind.signed, Nat.reduceAdd, Nat.reduceSub, Nat.reduceMul, Nat.reducePow, Nat.reduceDiv, Nat.reduceMod, Int.reduceAdd, Int.reduceSub, Int.reduceMul, Int.reducePow, Int.reduceNeg, Int.reduceToNat, Int.reduceLT, Int.reduceLE, Nat.reduceEqDiff, sidsB, Nat.reduceBEq, keyKD, isIntK, aggD, aggL, eqKs]
  · rw [decide_eq_false (by omega)]
    simp (config := { maxSteps := 1000000 }) (disch := ((try simp only [awL]); omega)) only [Option.toList_some, Option.toList_none, nextC_more, nextC_over, bs_size, bs_extract, bs_toList, bs_append, byteAt_bs, bs_cells, nums_length, nums_getD, ↓awU, awV, awF, ofVal, ofVal0, isShift, aggK, forall_const, ↓reduceIte, ↓reduceDIte, ↓purePost, combine, idsA, cellsA, numsOf, srcA, calleeA, refsA, isScalar, scalarD, scalar0, AV.one, putL, unfA, implies_true, IntKind.signed, Nat.reduceAdd, Nat.reduceSub, Nat.reduceMul, Nat.reducePow, Nat.reduceDiv, Nat.reduceMod, Int.reduceAdd, Int.reduceSub, Int.reduceMul, Int.reducePow, Int.reduceNeg, Int.reduceToNat, Int.reduceLT, Int.reduceLE, Nat.reduceEqDiff, sidsB, Nat.reduceBEq, keyKD, isIntK, aggD, aggL, eqKs]
    refine LoopC.fr 35184372088834 (α := Nat) (fun p => l.length - p) (fun _ => []) (fun p => [.iter (bs l) p]) (fun p => p ≤ l.length ∧ nlIx l 0 = nlIx l p) 0 ⟨Nat.zero_le _, rfl⟩ ?_ ?_
    · exact ⟨[some 0], rfl, by simp, by simp [setsA, keepA, SWeak, AWeak], by simp [HWeak, BWeak, SWeak, AWeak]⟩
    · rintro p ⟨h1, h2⟩
      simp only [awK, Nat.reduceMod, Nat.reduceDiv, reduceIte]
      rw [h2]
      rcases Nat.lt_or_ge p l.length with h3 | h3
      · rcases decw l p h3 with ⟨d1, d2⟩ | ⟨d1, d2, d3, d4⟩
        · have sp := indexRune_spec (G := G) (l.getD p 0).toNat (by omega)
          rw [if_pos d1, nl_index d1] at sp
          simp (config := { maxSteps := 1000000 }) (disch := ((try simp only [awL]); omega)) only [Option.toList_some, Option.toList_none, nextC_more, nextC_over, bs_size, bs_extract, bs_toList, bs_append, byteAt_bs, bs_cells, nums_length, nums_getD, d2, ↓awU, awV, awF, ofVal, ofVal0, isShift, aggK, forall_const, ↓reduceIte, ↓reduceDIte, ↓purePost, combine, idsA, cellsA, numsOf, srcA, calleeA, refsA, isScalar, scalarD, scalar0, AV.one, putL, unfA, implies_true, IntKind.signed, Nat.reduceAdd, Nat.reduceSub, Nat.reduceMul, Nat.reducePow, Nat.reduceDiv, Nat.reduceMod, Int.reduceAdd, Int.reduceSub, Int.reduceMul, Int.reducePow, Int.reduceNeg, Int.reduceToNat, Int.reduceLT, Int.reduceLE, Nat.reduceEqDiff, sidsB, Nat.reduceBEq, keyKD, isIntK, aggD, aggL, eqKs]
          refine CallC.of sp (by rw [hL]) ?_
          by_cases n13 : (l.getD p 0).toNat = 13
          · rw [if_pos n13, nlIx_hit h3 (.inl n13)]
            simp (config := { maxSteps := 1000000 }) (disch := ((try simp only [awL]); omega)) only [Option.toList_some, Option.toList_none, nextC_more, nextC_over, bs_size, bs_extract, bs_toList, bs_append, byteAt_bs, bs_cells, nums_length, nums_getD, ↓awU, awV, awF, ofVal, ofVal0, isShift, aggK, forall_const, ↓reduceIte, ↓reduceDIte, ↓purePost, combine, idsA, cellsA, numsOf, srcA, calleeA, refsA, isScalar, scalarD, scalar0, AV.one, putL, unfA, implies_true, IntKind.signed, Nat.reduceAdd, Nat.reduceSub, Nat.reduceMul, Nat.reducePow, Nat.reduceDiv, Nat.reduceMod, Int.reduceAdd, Int.reduceSub, Int.reduceMul, Int.reducePow, Int.reduceNeg, Int.reduceToNat, Int.reduceLT, Int.reduceLE, Nat.reduceEqDiff, sidsB, Nat.reduceBEq, keyKD, isIntK, aggD, aggL, eqKs]
          · rw [if_neg n13]
            by_cases n10 : (l.getD p 0).toNat = 10
            · rw [if_pos n10, nlIx_hit h3 (.inr n10)]
              simp (config := { maxSteps := 1000000 }) (disch := ((try simp only [awL]); omega)) only [Option.toList_some, Option.toList_none, nextC_more, nextC_over, bs_size, bs_extract, bs_toList, bs_append, byteAt_bs, bs_cells, nums_length, nums_getD, ↓awU, awV, awF, ofVal, ofVal0, isShift, aggK, forall_const, ↓reduceIte, ↓reduceDIte, ↓purePost, combine, idsA, cellsA, numsOf, srcA, calleeA, refsA, isScalar, scalarD, scalar0, AV.one, putL, unfA, implies_true, IntKind.signed, Nat.reduceAdd, Nat.reduceSub, Nat.reduceMul, Nat.reducePow, Nat.reduceDiv, Nat.reduceMod, Int.reduceAdd, Int.reduceSub, Int.reduceMul, Int.reducePow, Int.reduceNeg, Int.reduceToNat, Int.reduceLT, Int.reduceLE, Nat.reduceEqDiff, sidsB, Nat.reduceBEq, keyKD, isIntK, aggD, aggL, eqKs]
            · rw [if_neg n10]
              simp (config := { maxSteps := 1000000 }) (disch := ((try simp only [awL]); omega)) only [Option.toList_some, Option.toList_none, nextC_more, nextC_over, bs_size, bs_extract, bs_toList, bs_append, byteAt_bs, bs_cells, nums_length, nums_getD, ↓awU, awV, awF, ofVal, ofVal0, isShift, aggK, forall_const, ↓reduceIte, ↓reduceDIte, ↓purePost, combine, idsA, cellsA, numsOf, srcA, calleeA, refsA, isScalar, scalarD, scalar0, AV.one, putL, unfA, implies_true, IntKind.signed, Nat.reduceAdd, Nat.reduceSub, Nat.reduceMul, Nat.reducePow, Nat.reduceDiv, Nat.reduceMod, Int.reduceAdd, Int.reduceSub, Int.reduceMul, Int.reducePow, Int.reduceNeg, Int.reduceToNat, Int.reduceLT, Int.reduceLE, Nat.reduceEqDiff, sidsB, Nat.reduceBEq, keyKD, isIntK, aggD, aggL, eqKs]
              exact ⟨p + 1, ⟨h3, nlIx_miss h3 (by omega)⟩, by simp only; omega, ⟨[some 0], rfl, by simp, by simp [setsA, keepA, SWeak, AWeak], by simp [HWeak, BWeak, SWeak, AWeak]⟩⟩
        · have hb := dec_bounds l p
          have sp := indexRune_spec (G := G) (dec l p).1 hb.2
          rw [if_neg (by omega)] at sp
          simp (config := { maxSteps := 1000000 }) (disch := ((try simp only [awL]); omega)) only [Option.toList_some, Option.toList_none, nextC_more, nextC_over, bs_size, bs_extract, bs_toList, bs_append, byteAt_bs, bs_cells, nums_length, nums_getD, ↓awU, awV, awF, ofVal, ofVal0, isShift, aggK, forall_const, ↓reduceIte, ↓reduceDIte, ↓purePost, combine, idsA, cellsA, numsOf, srcA, calleeA, refsA, isScalar, scalarD, scalar0, AV.one, putL, unfA, implies_true, IntKind.signed, Nat.reduceAdd, Nat.reduceSub, Nat.reduceMul, Nat.reducePow, Nat.reduceDiv, Nat.reduceMod, Int.reduceAdd, Int.reduceSub, Int.reduceMul, Int.reducePow, Int.reduceNeg, Int.reduceToNat, Int.reduceLT, Int.reduceLE, Nat.reduceEqDiff, sidsB, Nat.reduceBEq, keyKD, isIntK, aggD, aggL, eqKs]
          refine CallC.of sp (by rw [hL]) ?_
          simp (config := { maxSteps := 1000000 }) (disch := ((try simp only [awL]); omega)) only [Option.toList_some, Option.toList_none, nextC_more, nextC_over, bs_size, bs_extract, bs_toList, bs_append, byteAt_bs, bs_cells, nums_length, nums_getD, ↓awU, awV, awF, ofVal, ofVal0, isShift, aggK, forall_const, ↓reduceIte, ↓reduceDIte, ↓purePost, combine, idsA, cellsA, numsOf, srcA, calleeA, refsA, isScalar, scalarD, scalar0, AV.one, putL, unfA, implies_true, IntKind.signed, Nat.reduceAdd, Nat.reduceSub, Nat.reduceMul, Nat.reducePow, Nat.reduceDiv, Nat.reduceMod, Int.reduceAdd, Int.reduceSub, Int.reduceMul, Int.reducePow, Int.reduceNeg, Int.reduceToNat, Int.reduceLT, Int.reduceLE, Nat.reduceEqDiff, sidsB, Nat.reduceBEq, keyKD, isIntK, aggD, aggL, eqKs]
          exact ⟨p + (dec l p).2, ⟨d3, nlIx_skip _ d3 d4⟩, by simp only; omega, ⟨[some 0], rfl, by simp, by simp [setsA, keepA, SWeak, AWeak], by simp [HWeak, BWeak, SWeak, AWeak]⟩⟩
      · rw [nlIx_end (by omega)]
        simp (config := { maxSteps := 1000000 }) (disch := ((try simp only [awL]); omega)) only [Option.toList_some, Option.toList_none, nextC_more, nextC_over, bs_size, bs_extract, bs_toList, bs_append, byteAt_bs, bs_cells, nums_length, nums_getD, ↓awU, awV, awF, ofVal, ofVal0, isShift, aggK, forall_const, ↓reduceIte, ↓reduceDIte, ↓purePost, combine, idsA, cellsA, numsOf, srcA, calleeA, refsA, isScalar, scalarD, scalar0, AV.one, putL, unfA, implies_true, IntKind.signed, Nat.reduceAdd, Nat.reduceSub, Nat.reduceMul, Nat.reducePow, Nat.reduceDiv, Nat.reduceMod, Int.reduceAdd, Int.reduceSub, Int.reduceMul, Int.reducePow, Int.reduceNeg, Int.reduceToNat, Int.reduceLT, Int.reduceLE, Nat.reduceEqDiff, sidsB, Nat.reduceBEq, keyKD, isIntK, aggD, aggL, eqKs]
theorem containsAny_spec (l : List UInt8) (hl : l.length ≤ 1000000000) : Ctr Tryz.prog G 38 [.d (S l), .d (S nlL)] [] (.d (.bool (hasNl l))) [] := by
  have hm := nlIx_mem _ l 0 rfl
  rw [List.drop_zero] at hm
  refine Ctr.pure (M := M0) hmix Tryz.func38 rfl go38 ?_
  simp (config := { maxSteps := 1000000 }) (disch := ((try simp only [awL]); omega)) only [Option.toList_some, Option.toList_none, nextC_more, nextC_over, bs_size, bs_extract, bs_toList, bs_append, byteAt_bs, bs_cells, nums_length, nums_getD, Tryz.f38, ↓awU, awV, awF, ofVal, ofVal0, isShift, aggK, forall_const, ↓reduceIte, ↓reduceDIte, ↓purePost, combine, idsA, cellsA, numsOf, srcA, calleeA, refsA, isScalar, scalarD, scalar0, AV.one, putL, unfA, implies_true, IntKind.signed, Nat.reduceAdd, Nat.reduceSub, Nat.reduceMul, Nat.reducePow, Nat.reduceDiv, Nat.reduceMod, Int.reduceAdd, Int.reduceSub, Int.reduceMul, Int.reducePow, Int.reduceNeg, Int.reduceToNat, Int.reduceLT, Int.reduceLE, Nat.reduceEqDiff, sidsB, Nat.reduceBEq, keyKD, isIntK, aggD, aggL, eqKs]
  refine CallC.pure (indexAny_spec l hl) ?_
  unfold hasNl
  simp only [← hm]
  generalize nlIx l 0 = z at *
  rcases (by omega : 0 ≤ z ∨ z < 0) with h | h
  · simp (config := { maxSteps := 1000000 }) (disch := ((try simp only [awL]); omega)) only [Option.toList_some, Option.toList_none, nextC_more, nextC_over, bs_size, bs_extract, bs_toList, bs_append, byteAt_bs, bs_cells, nums_length, nums_getD, ↓awU, awV, awF, ofVal, ofVal0, isShift, aggK, forall_const, ↓reduceIte, ↓reduceDIte, ↓purePost, combine, idsA, cellsA, numsOf, srcA, calleeA, refsA, isScalar, scalarD, scalar0, AV.one, putL, unfA, implies_true, IntKind.signed, Nat.reduceAdd, Nat.reduceSub, Nat.reduceMul, Nat.reducePow, Nat.reduceDiv, Nat.reduceMod, Int.reduceAdd, Int.reduceSub, Int.reduceMul, Int.reducePow, Int.reduceNeg, Int.reduceToNat, Int.reduceLT, Int.reduceLE, Nat.reduceEqDiff, sidsB, Nat.reduceBEq, keyKD, isIntK, aggD, aggL, eqKs]
    try (simp <;> omega)
  · simp (config := { maxSteps := 1000000 }) (disch := ((try simp only [awL]); omega)) only [Option.toList_some, Option.toList_none, nextC_more, nextC_over, bs_size, bs_extract, bs_toList, bs_append, byteAt_bs, bs_cells, nums_length, nums_getD, ↓awU, awV, awF, ofVal, ofVal0, isShift, aggK, forall_const, ↓reduceIte, ↓reduceDIte, ↓purePost, combine, idsA, cellsA, numsOf, srcA, calleeA, refsA, isScalar, scalarD, scalar0, AV.one, putL, unfA, implies_true, IntKind.signed, Nat.reduceAdd, Nat.reduceSub, Nat.reduceMul, Nat.reducePow, Nat.reduceDiv, Nat.reduceMod, Int.reduceAdd, Int.reduceSub, Int.reduceMul, Int.reducePow, Int.reduceNeg, Int.reduceToNat, Int.reduceLT, Int.reduceLE, Nat.reduceEqDiff, sidsB, Nat.reduceBEq, keyKD, isIntK, aggD, aggL, eqKs]
    try (simp <;> omega)
end Go.Proofs.YtjjanbljkoaojaaGreatDoor

namespace Go.Proofs.YtjjanbljkoaojaaGreatDoor
open Go Go.Proofs Go.Abs
variable {G : Globals}
/-! Grids; whether one of a list's elements is so. -/
abbrev Row := List (List UInt8)
def rowsD (g : List Row) : List D := g.map fun r => Ss r false
abbrev Gr (g : List Row) (full : Bool) : D := .sl g.length full (rowsD g)
theorem rowsD_length {g : List Row} : (rowsD g).length = g.length := by simp [rowsD]
theorem rowsD_getD {g : List Row} {i : Nat} (h : i < g.length) : (rowsD g).getD i .nilp = Ss (g.getD i []) false := by
  simp [rowsD, List.getD_eq_getElem?_getD, h]
/-- The place of the first element of which p holds. -/
def ixF {α : Type} (p : α → Bool) : List α → Int → Int
  | [], _ => -1
  | x :: r, k => if p x then k else ixF p r (k + 1)
theorem ixF_any {α : Type} {p : α → Bool} : ∀ (l : List α) (k : Int), 0 ≤ k → (0 ≤ ixF p l k ↔ l.any p = true)
  | [], k, h => by simp [ixF]
  | x :: r, k, h => by
    rw [ixF, List.any_cons]
    cases hx : p x
    · simpa using ixF_any r (k + 1) (by omega)
    · simpa using h
theorem ixF_at {α : Type} {p : α → Bool} {l : List α} {i : Nat} {d : α} (h : i < l.length) : ixF p (l.drop i) i = if p (l.getD i d) then (i : Int) else ixF p (l.drop (i + 1)) (i + 1 : Nat) := by
  rw [List.drop_eq_getElem_cons h, ixF, List.getD_eq_getElem?_getD, List.getElem?_eq_getElem h]; rfl
theorem memD {α : Type} {l : List α} {i : Nat} {d : α} (h : i < l.length) : l.getD i d ∈ l := by
  rw [List.getD_eq_getElem?_getD, List.getElem?_eq_getElem h]; exact List.getElem_mem h
set_option maxHeartbeats 4000000 in
theorem indexFunc_spec (f : FuncId) (p : List UInt8 → Bool) (l : Row) (full : Bool) (hl : l.length ≤ 1000000000) (hp : ∀ s ∈ l, Ctr Tryz.prog G f [.d (S s)] [] (.d (.bool (p s))) []) :
    Ctr Tryz.prog G 45 [.d (Ss l full), .d (.fn (.func f) [] [])] [] (.d (.int .i64 (ixF p l 0))) [] := by
  refine Ctr.pure (M := M0) hmix Tryz.func45 rfl go45 ?_
  have sl := @strs_length l
  simp (config := { maxSteps := 1000000 }) (disch := ((try simp only [awL]); omega)) only [sl, Tryz.f45, ↓awU, awV, awF, ofVal, ofVal0, isShift, aggK, forall_const, ↓reduceIte, ↓reduceDIte, ↓purePost, combine, idsA, cellsA, numsOf, srcA, calleeA, refsA, isScalar, scalarD, scalar0, AV.one, putL, unfA, implies_true, IntKind.signed, Nat.reduceAdd, Nat.reduceSub, Nat.reduceMul, Nat.reducePow, Nat.reduceDiv, Nat.reduceMod, Int.reduceAdd, Int.reduceSub, Int.reduceMul, Int.reducePow, Int.reduceNeg, Int.reduceToNat, Int.reduceLT, Int.reduceLE, Nat.reduceEqDiff, sidsB, Nat.reduceBEq, keyKD, isIntK, aggD, aggL, eqKs]
  refine LoopC.fr 131 (α := Nat) (fun i => l.length - i) (fun i => [(8, .d (.int .i64 i))]) (fun _ => []) (fun i => i ≤ l.length ∧ ixF p l 0 = ixF p (l.drop i) i) 0 ⟨Nat.zero_le _, rfl⟩ ?_ ?_
  · exact ⟨[], rfl, by simp, by simp [setsA, keepA, SWeak, AWeak], by simp [HWeak, BWeak, SWeak, AWeak]⟩
  · rintro i ⟨h1, h2⟩
    simp only [awK, Nat.reduceMod, Nat.reduceDiv, reduceIte]
    rw [h2]
    rcases Nat.lt_or_ge i l.length with h | h
    · have g := strs_getD h
      rw [ixF_at (d := []) h]
      simp (config := { maxSteps := 1000000 }) (disch := ((try simp only [awL]); omega)) only [sl, g, ↓awU, awV, awF, ofVal, ofVal0, isShift, aggK, forall_const, ↓reduceIte, ↓reduceDIte, ↓purePost, combine, idsA, cellsA, numsOf, srcA, calleeA, refsA, isScalar, scalarD, scalar0, AV.one, putL, unfA, implies_true, IntKind.signed, Nat.reduceAdd, Nat.reduceSub, Nat.reduceMul, Nat.reducePow, Nat.reduceDiv, Nat.reduceMod, Int.reduceAdd, Int.reduceSub, Int.reduceMul, Int.reducePow, Int.reduceNeg, Int.reduceToNat, Int.reduceLT, Int.reduceLE, Nat.reduceEqDiff, sidsB, Nat.reduceBEq, keyKD, isIntK, aggD, aggL, eqKs]
      refine CallC.pure (hp _ (memD h)) ?_
      cases hx : p (l.getD i [])
      · simp (config := { maxSteps := 1000000 }) (disch := ((try simp only [awL]); omega)) only [↓awU, awV, awF, ofVal, ofVal0, isShift, aggK, forall_const, ↓reduceIte, ↓reduceDIte, ↓purePost, combine, idsA, cellsA, numsOf, srcA, calleeA, refsA, isScalar, scalarD, scalar0, AV.one, putL, unfA, implies_true, IntKind.signed, Nat.reduceAdd, Nat.reduceSub, Nat.reduceMul, Nat.reducePow, Nat.reduceDiv, Nat.reduceMod, Int.reduceAdd, Int.reduceSub, Int.reduceMul, Int.reducePow, Int.reduceNeg, Int.reduceToNat, Int.reduceLT, Int.reduceLE, Nat.reduceEqDiff, sidsB, Nat.reduceBEq, keyKD, isIntK, aggD, aggL, eqKs]
        exact ⟨i + 1, ⟨h, rfl⟩, by simp only; omega, ⟨[], rfl, by simp, by simp [setsA, keepA, SWeak, AWeak], by simp [HWeak, BWeak, SWeak, AWeak]⟩⟩
      · simp (config := { maxSteps := 1000000 }) (disch := ((try simp only [awL]); omega)) only [↓awU, awV, awF, ofVal, ofVal0, isShift, aggK, forall_const, ↓reduceIte, ↓reduceDIte, ↓purePost, combine, idsA, cellsA, numsOf, srcA, calleeA, refsA, isScalar, scalarD, scalar0, AV.one, putL, unfA, implies_true, IntKind.signed, Nat.reduceAdd, Nat.reduceSub, Nat.reduceMul, Nat.reducePow, Nat.reduceDiv, Nat.reduceMod, Int.reduceAdd, Int.reduceSub, Int.reduceMul, Int.reducePow, Int.reduceNeg, Int.reduceToNat, Int.reduceLT, Int.reduceLE, Nat.reduceEqDiff, sidsB, Nat.reduceBEq, keyKD, isIntK, aggD, aggL, eqKs]
    · rw [List.drop_eq_nil_of_le h]
      simp (config := { maxSteps := 1000000 }) (disch := ((try simp only [awL]); omega)) only [↓awU, awV, awF, ofVal, ofVal0, isShift, aggK, forall_const, ↓reduceIte, ↓reduceDIte, ↓purePost, combine, idsA, cellsA, numsOf, srcA, calleeA, refsA, isScalar, scalarD, scalar0, AV.one, putL, unfA, implies_true, IntKind.signed, Nat.reduceAdd, Nat.reduceSub, Nat.reduceMul, Nat.reducePow, Nat.reduceDiv, Nat.reduceMod, Int.reduceAdd, Int.reduceSub, Int.reduceMul, Int.reducePow, Int.reduceNeg, Int.reduceToNat, Int.reduceLT, Int.reduceLE, Nat.reduceEqDiff, sidsB, Nat.reduceBEq, keyKD, isIntK, aggD, aggL, eqKs]
      rfl
theorem containsFunc_spec (f : FuncId) (p : List UInt8 → Bool) (l : Row) (full : Bool) (hl : l.length ≤ 1000000000) (hp : ∀ s ∈ l, Ctr Tryz.prog G f [.d (S s)] [] (.d (.bool (p s))) []) :
    Ctr Tryz.prog G 23 [.d (Ss l full), .d (.fn (.func f) [] [])] [] (.d (.bool (l.any p))) [] := by
  refine Ctr.pure (M := M0) hmix Tryz.func23 rfl go23 ?_
  simp (config := { maxSteps := 1000000 }) (disch := ((try simp only [awL]); omega)) only [Tryz.f23, ↓awU, awV, awF, ofVal, ofVal0, isShift, aggK, forall_const, ↓reduceIte, ↓reduceDIte, ↓purePost, combine, idsA, cellsA, numsOf, srcA, calleeA, refsA, isScalar, scalarD, scalar0, AV.one, putL, unfA, implies_true, IntKind.signed, Nat.reduceAdd, Nat.reduceSub, Nat.reduceMul, Nat.reducePow, Nat.reduceDiv, Nat.reduceMod, Int.reduceAdd, Int.reduceSub, Int.reduceMul, Int.reducePow, Int.reduceNeg, Int.reduceToNat, Int.reduceLT, Int.reduceLE, Nat.reduceEqDiff, sidsB, Nat.reduceBEq, keyKD, isIntK, aggD, aggL, eqKs]
  refine CallC.of (indexFunc_spec f p l false hl hp) (by rfl) ?_
  have hi := ixF_any (p := p) l 0 (Int.le_refl _)
  generalize ixF p l 0 = z at *
  rcases (by omega : 0 ≤ z ∨ z < 0) with h | h
  · rw [hi.1 h]
    simp (config := { maxSteps := 1000000 }) (disch := ((try simp only [awL]); omega)) only [↓awU, awV, awF, ofVal, ofVal0, isShift, aggK, forall_const, ↓reduceIte, ↓reduceDIte, ↓purePost, combine, idsA, cellsA, numsOf, srcA, calleeA, refsA, isScalar, scalarD, scalar0, AV.one, putL, unfA, implies_true, IntKind.signed, Nat.reduceAdd, Nat.reduceSub, Nat.reduceMul, Nat.reducePow, Nat.reduceDiv, Nat.reduceMod, Int.reduceAdd, Int.reduceSub, Int.reduceMul, Int.reducePow, Int.reduceNeg, Int.reduceToNat, Int.reduceLT, Int.reduceLE, Nat.reduceEqDiff, sidsB, Nat.reduceBEq, keyKD, isIntK, aggD, aggL, eqKs]
  · have : l.any p = false := by cases hx : l.any p with
      | false => rfl
      | true => have := hi.2 hx; omega
    rw [this]
    simp (config := { maxSteps := 1000000 }) (disch := ((try simp only [awL]); omega)) only [↓awU, awV, awF, ofVal, ofVal0, isShift, aggK, forall_const, ↓reduceIte, ↓reduceDIte, ↓purePost, combine, idsA, cellsA, numsOf, srcA, calleeA, refsA, isScalar, scalarD, scalar0, AV.one, putL, unfA, implies_true, IntKind.signed, Nat.reduceAdd, Nat.reduceSub, Nat.reduceMul, Nat.reducePow, Nat.reduceDiv, Nat.reduceMod, Int.reduceAdd, Int.reduceSub, Int.reduceMul, Int.reducePow, Int.reduceNeg, Int.reduceToNat, Int.reduceLT, Int.reduceLE, Nat.reduceEqDiff, sidsB, Nat.reduceBEq, keyKD, isIntK, aggD, aggL, eqKs]
set_option maxHeartbeats 4000000 in
theorem indexFuncG_spec (f : FuncId) (p : Row → Bool) (l : List Row) (full : Bool) (hl : l.length ≤ 1000000000) (hp : ∀ s ∈ l, Ctr Tryz.prog G f [.d (Ss s false)] [] (.d (.bool (p s))) []) :
    Ctr Tryz.prog G 44 [.d (Gr l full), .d (.fn (.func f) [] [])] [] (.d (.int .i64 (ixF p l 0))) [] := by
  refine Ctr.pure (M := M0) hmix Tryz.func44 rfl go44 ?_
  have sl := @rowsD_length l
  simp (config := { maxSteps := 1000000 }) (disch := ((try simp only [awL]); omega)) only [sl, Tryz.f44, ↓awU, awV, awF, ofVal, ofVal0, isShift, aggK, forall_const, ↓reduceIte, ↓reduceDIte, ↓purePost, combine, idsA, cellsA, numsOf, srcA, calleeA, refsA, isScalar, scalarD, scalar0, AV.one, putL, unfA, implies_true, IntKind.signed, Nat.reduceAdd, Nat.reduceSub, Nat.reduceMul, Nat.reducePow, Nat.reduceDiv, Nat.reduceMod, Int.reduceAdd, Int.reduceSub, Int.reduceMul, Int.reducePow, Int.reduceNeg, Int.reduceToNat, Int.reduceLT, Int.reduceLE, Nat.reduceEqDiff, sidsB, Nat.reduceBEq, keyKD, isIntK, aggD, aggL, eqKs]
  refine LoopC.fr 131 (α := Nat) (fun i => l.length - i) (fun i => [(8, .d (.int .i64 i))]) (fun _ => []) (fun i => i ≤ l.length ∧ ixF p l 0 = ixF p (l.drop i) i) 0 ⟨Nat.zero_le _, rfl⟩ ?_ ?_
  · exact ⟨[], rfl, by simp, by simp [setsA, keepA, SWeak, AWeak], by simp [HWeak, BWeak, SWeak, AWeak]⟩
  · rintro i ⟨h1, h2⟩
    simp only [awK, Nat.reduceMod, Nat.reduceDiv, reduceIte]
    rw [h2]
    rcases Nat.lt_or_ge i l.length with h | h
    · have g := rowsD_getD h
      rw [ixF_at (d := []) h]
      simp (config := { maxSteps := 1000000 }) (disch := ((try simp only [awL]); omega)) only [sl, g, ↓awU, awV, awF, ofVal, ofVal0, isShift, aggK, forall_const, ↓reduceIte, ↓reduceDIte, ↓purePost, combine, idsA, cellsA, numsOf, srcA, calleeA, refsA, isScalar, scalarD, scalar0, AV.one, putL, unfA, implies_true, IntKind.signed, Nat.reduceAdd, Nat.reduceSub, Nat.reduceMul, Nat.reducePow, Nat.reduceDiv, Nat.reduceMod, Int.reduceAdd, Int.reduceSub, Int.reduceMul, Int.reducePow, Int.reduceNeg, Int.reduceToNat, Int.reduceLT, Int.reduceLE, Nat.reduceEqDiff, sidsB, Nat.reduceBEq, keyKD, isIntK, aggD, aggL, eqKs]
      refine CallC.pure (hp _ (memD h)) ?_
      cases hx : p (l.getD i [])
      · simp (config := { maxSteps := 1000000 }) (disch := ((try simp only [awL]); omega)) only [↓awU, awV, awF, ofVal, ofVal0, isShift, aggK, forall_const, ↓reduceIte, ↓reduceDIte, ↓purePost, combine, idsA, cellsA, numsOf, srcA, calleeA, refsA, isScalar, scalarD, scalar0, AV.one, putL, unfA, implies_true, IntKind.signed, Nat.reduceAdd, Nat.reduceSub, Nat.reduceMul, Nat.reducePow, Nat.reduceDiv, Nat.reduceMod, Int.reduceAdd, Int.reduceSub, Int.reduceMul, Int.reducePow, Int.reduceNeg, Int.reduceToNat, Int.reduceLT, Int.reduceLE, Nat.reduceEqDiff, sidsB, Nat.reduceBEq, keyKD, isIntK, aggD, aggL, eqKs]
        exact ⟨i + 1, ⟨h, rfl⟩, by simp only; omega, ⟨[], rfl, by simp, by simp [setsA, keepA, SWeak, AWeak], by simp [HWeak, BWeak, SWeak, AWeak]⟩⟩
      · simp (config := { maxSteps := 1000000 }) (disch := ((try simp only [awL]); omega)) only [↓awU, awV, awF, ofVal, ofVal0, isShift, aggK, forall_const, ↓reduceIte, ↓reduceDIte, ↓purePost, combine, idsA, cellsA, numsOf, srcA, calleeA, refsA, isScalar, scalarD, scalar0, AV.one, putL, unfA, implies_true, IntKind.signed, Nat.reduceAdd, Nat.reduceSub, Nat.reduceMul, Nat.reducePow, Nat.reduceDiv, Nat.reduceMod, Int.reduceAdd, Int.reduceSub, Int.reduceMul, Int.reducePow, Int.reduceNeg, Int.reduceToNat, Int.reduceLT, Int.reduceLE, Nat.reduceEqDiff, sidsB, Nat.reduceBEq, keyKD, isIntK, aggD, aggL, eqKs]
    · rw [List.drop_eq_nil_of_le h]
      simp (config := { maxSteps := 1000000 }) (disch := ((try simp only [awL]); omega)) only [↓awU, awV, awF, ofVal, ofVal0, isShift, aggK, forall_const, ↓reduceIte, ↓reduceDIte, ↓purePost, combine, idsA, cellsA, numsOf, srcA, calleeA, refsA, isScalar, scalarD, scalar0, AV.one, putL, unfA, implies_true, IntKind.signed, Nat.reduceAdd, Nat.reduceSub, Nat.reduceMul, Nat.reducePow, Nat.reduceDiv, Nat.reduceMod, Int.reduceAdd, Int.reduceSub, Int.reduceMul, Int.reducePow, Int.reduceNeg, Int.reduceToNat, Int.reduceLT, Int.reduceLE, Nat.reduceEqDiff, sidsB, Nat.reduceBEq, keyKD, isIntK, aggD, aggL, eqKs]
      rfl
theorem containsFuncG_spec (f : FuncId) (p : Row → Bool) (l : List Row) (full : Bool) (hl : l.length ≤ 1000000000) (hp : ∀ s ∈ l, Ctr Tryz.prog G f [.d (Ss s false)] [] (.d (.bool (p s))) []) :
    Ctr Tryz.prog G 21 [.d (Gr l full), .d (.fn (.func f) [] [])] [] (.d (.bool (l.any p))) [] := by
  refine Ctr.pure (M := M0) hmix Tryz.func21 rfl go21 ?_
  simp (config := { maxSteps := 1000000 }) (disch := ((try simp only [awL]); omega)) only [Tryz.f21, ↓awU, awV, awF, ofVal, ofVal0, isShift, aggK, forall_const, ↓reduceIte, ↓reduceDIte, ↓purePost, combine, idsA, cellsA, numsOf, srcA, calleeA, refsA, isScalar, scalarD, scalar0, AV.one, putL, unfA, implies_true, IntKind.signed, Nat.reduceAdd, Nat.reduceSub, Nat.reduceMul, Nat.reducePow, Nat.reduceDiv, Nat.reduceMod, Int.reduceAdd, Int.reduceSub, Int.reduceMul, Int.reducePow, Int.reduceNeg, Int.reduceToNat, Int.reduceLT, Int.reduceLE, Nat.reduceEqDiff, sidsB, Nat.reduceBEq, keyKD, isIntK, aggD, aggL, eqKs]
  refine CallC.of (indexFuncG_spec f p l false hl hp) (by rfl) ?_
  have hi := ixF_any (p := p) l 0 (Int.le_refl _)
  generalize ixF p l 0 = z at *
  rcases (by omega : 0 ≤ z ∨ z < 0) with h | h
  · rw [hi.1 h]
    simp (config := { maxSteps := 1000000 }) (disch := ((try simp only [awL]); omega)) only [↓awU, awV, awF, ofVal, ofVal0, isShift, aggK, forall_const, ↓reduceIte, ↓reduceDIte, ↓purePost, combine, idsA, cellsA, numsOf, srcA, calleeA, refsA, isScalar, scalarD, scalar0, AV.one, putL, unfA, implies_true, IntKind.signed, Nat.reduceAdd, Nat.reduceSub, Nat.reduceMul, Nat.reducePow, Nat.reduceDiv, Nat.reduceMod, Int.reduceAdd, Int.reduceSub, Int.reduceMul, Int.reducePow, Int.reduceNeg, Int.reduceToNat, Int.reduceLT, Int.reduceLE, Nat.reduceEqDiff, sidsB, Nat.reduceBEq, keyKD, isIntK, aggD, aggL, eqKs]
  · have : l.any p = false := by cases hx : l.any p with
      | false => rfl
      | true => have := hi.2 hx; omega
    rw [this]
    simp (config := { maxSteps := 1000000 }) (disch := ((try simp only [awL]); omega)) only [↓awU, awV, awF, ofVal, ofVal0, isShift, aggK, forall_const, ↓reduceIte, ↓reduceDIte, ↓purePost, combine, idsA, cellsA, numsOf, srcA, calleeA, refsA, isScalar, scalarD, scalar0, AV.one, putL, unfA, implies_true, IntKind.signed, Nat.reduceAdd, Nat.reduceSub, Nat.reduceMul, Nat.reducePow, Nat.reduceDiv, Nat.reduceMod, Int.reduceAdd, Int.reduceSub, Int.reduceMul, Int.reducePow, Int.reduceNeg, Int.reduceToNat, Int.reduceLT, Int.reduceLE, Nat.reduceEqDiff, sidsB, Nat.reduceBEq, keyKD, isIntK, aggD, aggL, eqKs]
/-- Rows are more, or longer, than they may be. -/
def bigF (s : List UInt8) : Bool := decide (1024 < s.length)
def bigR (r : Row) : Bool := decide (64 < r.length) || r.any bigF
def bigG (g : List Row) : Bool := decide (4096 < g.length) || g.any bigR
theorem bigF_spec (s : List UInt8) (hs : s.length ≤ 1000000000) : Ctr Tryz.prog G 48 [.d (S s)] [] (.d (.bool (bigF s))) [] := by
  refine Ctr.pure (M := M0) hmix Tryz.func48 rfl go48 ?_
  unfold bigF
  rcases Nat.lt_or_ge 1024 s.length with h | h
  · rw [decide_eq_true h]
    simp (config := { maxSteps := 1000000 }) (disch := ((try simp only [awL]); omega)) only [Option.toList_some, Option.toList_none, nextC_more, nextC_over, bs_size, bs_extract, bs_toList, bs_append, byteAt_bs, bs_cells, nums_length, nums_getD, Tryz.f48, ↓awU, awV, awF, ofVal, ofVal0, isShift, aggK, forall_const, ↓reduceIte, ↓reduceDIte, ↓purePost, combine, idsA, cellsA, numsOf, srcA, calleeA, refsA, isScalar, scalarD, scalar0, AV.one, putL, unfA, implies_true, IntKind.signed, Nat.reduceAdd, Nat.reduceSub, Nat.reduceMul, Nat.reducePow, Nat.reduceDiv, Nat.reduceMod, Int.reduceAdd, Int.reduceSub, Int.reduceMul, Int.reducePow, Int.reduceNeg, Int.reduceToNat, Int.reduceLT, Int.reduceLE, Nat.reduceEqDiff, sidsB, Nat.reduceBEq, keyKD, isIntK, aggD, aggL, eqKs]
  · rw [decide_eq_false (by omega)]
    simp (config := { maxSteps := 1000000 }) (disch := ((try simp only [awL]); omega)) only [Option.toList_some, Option.toList_none, nextC_more, nextC_over, bs_size, bs_extract, bs_toList, bs_append, byteAt_bs, bs_cells, nums_length, nums_getD, Tryz.f48, ↓awU, awV, awF, ofVal, ofVal0, isShift, aggK, forall_const, ↓reduceIte, ↓reduceDIte, ↓purePost, combine, idsA, cellsA, numsOf, srcA, calleeA, refsA, isScalar, scalarD, scalar0, AV.one, putL, unfA, implies_true, IntKind.signed, Nat.reduceAdd, Nat.reduceSub, Nat.reduceMul, Nat.reducePow, Nat.reduceDiv, Nat.reduceMod, Int.reduceAdd, Int.reduceSub, Int.reduceMul, Int.reducePow, Int.reduceNeg, Int.reduceToNat, Int.reduceLT, Int.reduceLE, Nat.reduceEqDiff, sidsB, Nat.reduceBEq, keyKD, isIntK, aggD, aggL, eqKs]
/-- Texts of a size that memory has. -/
def okRow (r : Row) : Prop := r.length ≤ 1000000000 ∧ ∀ s ∈ r, s.length ≤ 1000000000
def okGrid (g : List Row) : Prop := g.length ≤ 1000000000 ∧ ∀ r ∈ g, okRow r
theorem bigR_spec (r : Row) (h : okRow r) : Ctr Tryz.prog G 47 [.d (Ss r false)] [] (.d (.bool (bigR r))) [] := by
  obtain ⟨hr, hs⟩ := h
  refine Ctr.pure (M := M0) hmix Tryz.func47 rfl go47 ?_
  unfold bigR
  have sl := @strs_length r
  rcases Nat.lt_or_ge 64 r.length with h | h
  · rw [decide_eq_true h, Bool.true_or]
    simp (config := { maxSteps := 1000000 }) (disch := ((try simp only [awL]); omega)) only [sl, Tryz.f47, ↓awU, awV, awF, ofVal, ofVal0, isShift, aggK, forall_const, ↓reduceIte, ↓reduceDIte, ↓purePost, combine, idsA, cellsA, numsOf, srcA, calleeA, refsA, isScalar, scalarD, scalar0, AV.one, putL, unfA, implies_true, IntKind.signed, Nat.reduceAdd, Nat.reduceSub, Nat.reduceMul, Nat.reducePow, Nat.reduceDiv, Nat.reduceMod, Int.reduceAdd, Int.reduceSub, Int.reduceMul, Int.reducePow, Int.reduceNeg, Int.reduceToNat, Int.reduceLT, Int.reduceLE, Nat.reduceEqDiff, sidsB, Nat.reduceBEq, keyKD, isIntK, aggD, aggL, eqKs]
  · rw [decide_eq_false (by omega), Bool.false_or]
    simp (config := { maxSteps := 1000000 }) (disch := ((try simp only [awL]); omega)) only [sl, Tryz.f47, ↓awU, awV, awF, ofVal, ofVal0, isShift, aggK, forall_const, ↓reduceIte, ↓reduceDIte, ↓purePost, combine, idsA, cellsA, numsOf, srcA, calleeA, refsA, isScalar, scalarD, scalar0, AV.one, putL, unfA, implies_true, IntKind.signed, Nat.reduceAdd, Nat.reduceSub, Nat.reduceMul, Nat.reducePow, Nat.reduceDiv, Nat.reduceMod, Int.reduceAdd, Int.reduceSub, Int.reduceMul, Int.reducePow, Int.reduceNeg, Int.reduceToNat, Int.reduceLT, Int.reduceLE, Nat.reduceEqDiff, sidsB, Nat.reduceBEq, keyKD, isIntK, aggD, aggL, eqKs]
    refine CallC.of (containsFunc_spec 48 bigF r false hr fun s hm => bigF_spec s (hs s hm)) (by rfl) ?_
    simp (config := { maxSteps := 1000000 }) (disch := ((try simp only [awL]); omega)) only [↓awU, awV, awF, ofVal, ofVal0, isShift, aggK, forall_const, ↓reduceIte, ↓reduceDIte, ↓purePost, combine, idsA, cellsA, numsOf, srcA, calleeA, refsA, isScalar, scalarD, scalar0, AV.one, putL, unfA, implies_true, IntKind.signed, Nat.reduceAdd, Nat.reduceSub, Nat.reduceMul, Nat.reducePow, Nat.reduceDiv, Nat.reduceMod, Int.reduceAdd, Int.reduceSub, Int.reduceMul, Int.reducePow, Int.reduceNeg, Int.reduceToNat, Int.reduceLT, Int.reduceLE, Nat.reduceEqDiff, sidsB, Nat.reduceBEq, keyKD, isIntK, aggD, aggL, eqKs]
theorem big_spec (g : List Row) (full : Bool) (h : okGrid g) : Ctr Tryz.prog G 26 [.d (Gr g full)] [] (.d (.bool (bigG g))) [] := by
  obtain ⟨hg, hr⟩ := h
  refine Ctr.pure (M := M0) hmix Tryz.func26 rfl go26 ?_
  unfold bigG
  have sl := @rowsD_length g
  rcases Nat.lt_or_ge 4096 g.length with h | h
  · rw [decide_eq_true h, Bool.true_or]
    simp (config := { maxSteps := 1000000 }) (disch := ((try simp only [awL]); omega)) only [sl, Tryz.f26, ↓awU, awV, awF, ofVal, ofVal0, isShift, aggK, forall_const, ↓reduceIte, ↓reduceDIte, ↓purePost, combine, idsA, cellsA, numsOf, srcA, calleeA, refsA, isScalar, scalarD, scalar0, AV.one, putL, unfA, implies_true, IntKind.signed, Nat.reduceAdd, Nat.reduceSub, Nat.reduceMul, Nat.reducePow, Nat.reduceDiv, Nat.reduceMod, Int.reduceAdd, Int.reduceSub, Int.reduceMul, Int.reducePow, Int.reduceNeg, Int.reduceToNat, Int.reduceLT, Int.reduceLE, Nat.reduceEqDiff, sidsB, Nat.reduceBEq, keyKD, isIntK, aggD, aggL, eqKs]
  · rw [decide_eq_false (by omega), Bool.false_or]
    simp (config := { maxSteps := 1000000 }) (disch := ((try simp only [awL]); omega)) only [sl, Tryz.f26, ↓awU, awV, awF, ofVal, ofVal0, isShift, aggK, forall_const, ↓reduceIte, ↓reduceDIte, ↓purePost, combine, idsA, cellsA, numsOf, srcA, calleeA, refsA, isScalar, scalarD, scalar0, AV.one, putL, unfA, implies_true, IntKind.signed, Nat.reduceAdd, Nat.reduceSub, Nat.reduceMul, Nat.reducePow, Nat.reduceDiv, Nat.reduceMod, Int.reduceAdd, Int.reduceSub, Int.reduceMul, Int.reducePow, Int.reduceNeg, Int.reduceToNat, Int.reduceLT, Int.reduceLE, Nat.reduceEqDiff, sidsB, Nat.reduceBEq, keyKD, isIntK, aggD, aggL, eqKs]
    refine CallC.of (containsFuncG_spec 47 bigR g false hg fun s hm => bigR_spec s (hr s hm)) (by rfl) ?_
    simp (config := { maxSteps := 1000000 }) (disch := ((try simp only [awL]); omega)) only [↓awU, awV, awF, ofVal, ofVal0, isShift, aggK, forall_const, ↓reduceIte, ↓reduceDIte, ↓purePost, combine, idsA, cellsA, numsOf, srcA, calleeA, refsA, isScalar, scalarD, scalar0, AV.one, putL, unfA, implies_true, IntKind.signed, Nat.reduceAdd, Nat.reduceSub, Nat.reduceMul, Nat.reducePow, Nat.reduceDiv, Nat.reduceMod, Int.reduceAdd, Int.reduceSub, Int.reduceMul, Int.reducePow, Int.reduceNeg, Int.reduceToNat, Int.reduceLT, Int.reduceLE, Nat.reduceEqDiff, sidsB, Nat.reduceBEq, keyKD, isIntK, aggD, aggL, eqKs]
/-- What may not be written. -/
def badF (s : List UInt8) : Bool := !Lib.validD s
def badR (r : Row) : Bool := decide (r.length = 0) || r.any badF
theorem badF_spec (hT : HT G) (s : List UInt8) (hs : s.length ≤ 1000000000) : Ctr Tryz.prog G 24 [.d (S s)] [] (.d (.bool (badF s))) [] := by
  refine Ctr.pure (M := M0) hmix Tryz.func24 rfl go24 ?_
  unfold badF
  simp (config := { maxSteps := 1000000 }) (disch := ((try simp only [awL]); omega)) only [Option.toList_some, Option.toList_none, nextC_more, nextC_over, bs_size, bs_extract, bs_toList, bs_append, byteAt_bs, bs_cells, nums_length, nums_getD, Tryz.f24, ↓awU, awV, awF, ofVal, ofVal0, isShift, aggK, forall_const, ↓reduceIte, ↓reduceDIte, ↓purePost, combine, idsA, cellsA, numsOf, srcA, calleeA, refsA, isScalar, scalarD, scalar0, AV.one, putL, unfA, implies_true, IntKind.signed, Nat.reduceAdd, Nat.reduceSub, Nat.reduceMul, Nat.reducePow, Nat.reduceDiv, Nat.reduceMod, Int.reduceAdd, Int.reduceSub, Int.reduceMul, Int.reducePow, Int.reduceNeg, Int.reduceToNat, Int.reduceLT, Int.reduceLE, Nat.reduceEqDiff, sidsB, Nat.reduceBEq, keyKD, isIntK, aggD, aggL, eqKs]
  refine CallC.pure (tvalid_spec hT s (by omega)) ?_
  simp (config := { maxSteps := 1000000 }) (disch := ((try simp only [awL]); omega)) only [Option.toList_some, Option.toList_none, nextC_more, nextC_over, bs_size, bs_extract, bs_toList, bs_append, byteAt_bs, bs_cells, nums_length, nums_getD, ↓awU, awV, awF, ofVal, ofVal0, isShift, aggK, forall_const, ↓reduceIte, ↓reduceDIte, ↓purePost, combine, idsA, cellsA, numsOf, srcA, calleeA, refsA, isScalar, scalarD, scalar0, AV.one, putL, unfA, implies_true, IntKind.signed, Nat.reduceAdd, Nat.reduceSub, Nat.reduceMul, Nat.reducePow, Nat.reduceDiv, Nat.reduceMod, Int.reduceAdd, Int.reduceSub, Int.reduceMul, Int.reducePow, Int.reduceNeg, Int.reduceToNat, Int.reduceLT, Int.reduceLE, Nat.reduceEqDiff, sidsB, Nat.reduceBEq, keyKD, isIntK, aggD, aggL, eqKs]
theorem badR_spec (hT : HT G) (r : Row) (h : okRow r) : Ctr Tryz.prog G 22 [.d (Ss r false)] [] (.d (.bool (badR r))) [] := by
  obtain ⟨hr, hs⟩ := h
  refine Ctr.pure (M := M0) hmix Tryz.func22 rfl go22 ?_
  unfold badR
  have sl := @strs_length r
  rcases Nat.eq_zero_or_pos r.length with h | h
  · rw [decide_eq_true h, Bool.true_or]
    simp (config := { maxSteps := 1000000 }) (disch := ((try simp only [awL]); omega)) only [sl, Tryz.f22, ↓awU, awV, awF, ofVal, ofVal0, isShift, aggK, forall_const, ↓reduceIte, ↓reduceDIte, ↓purePost, combine, idsA, cellsA, numsOf, srcA, calleeA, refsA, isScalar, scalarD, scalar0, AV.one, putL, unfA, implies_true, IntKind.signed, Nat.reduceAdd, Nat.reduceSub, Nat.reduceMul, Nat.reducePow, Nat.reduceDiv, Nat.reduceMod, Int.reduceAdd, Int.reduceSub, Int.reduceMul, Int.reducePow, Int.reduceNeg, Int.reduceToNat, Int.reduceLT, Int.reduceLE, Nat.reduceEqDiff, sidsB, Nat.reduceBEq, keyKD, isIntK, aggD, aggL, eqKs]
  · rw [decide_eq_false (by omega), Bool.false_or]
    simp (config := { maxSteps := 1000000 }) (disch := ((try simp only [awL]); omega)) only [sl, Tryz.f22, ↓awU, awV, awF, ofVal, ofVal0, isShift, aggK, forall_const, ↓reduceIte, ↓reduceDIte, ↓purePost, combine, idsA, cellsA, numsOf, srcA, calleeA, refsA, isScalar, scalarD, scalar0, AV.one, putL, unfA, implies_true, IntKind.signed, Nat.reduceAdd, Nat.reduceSub, Nat.reduceMul, Nat.reducePow, Nat.reduceDiv, Nat.reduceMod, Int.reduceAdd, Int.reduceSub, Int.reduceMul, Int.reducePow, Int.reduceNeg, Int.reduceToNat, Int.reduceLT, Int.reduceLE, Nat.reduceEqDiff, sidsB, Nat.reduceBEq, keyKD, isIntK, aggD, aggL, eqKs]
    refine CallC.of (containsFunc_spec 24 badF r false hr fun s hm => badF_spec hT s (hs s hm)) (by rfl) ?_
    simp (config := { maxSteps := 1000000 }) (disch := ((try simp only [awL]); omega)) only [↓awU, awV, awF, ofVal, ofVal0, isShift, aggK, forall_const, ↓reduceIte, ↓reduceDIte, ↓purePost, combine, idsA, cellsA, numsOf, srcA, calleeA, refsA, isScalar, scalarD, scalar0, AV.one, putL, unfA, implies_true, IntKind.signed, Nat.reduceAdd, Nat.reduceSub, Nat.reduceMul, Nat.reducePow, Nat.reduceDiv, Nat.reduceMod, Int.reduceAdd, Int.reduceSub, Int.reduceMul, Int.reducePow, Int.reduceNeg, Int.reduceToNat, Int.reduceLT, Int.reduceLE, Nat.reduceEqDiff, sidsB, Nat.reduceBEq, keyKD, isIntK, aggD, aggL, eqKs]
end Go.Proofs.YtjjanbljkoaojaaGreatDoor
