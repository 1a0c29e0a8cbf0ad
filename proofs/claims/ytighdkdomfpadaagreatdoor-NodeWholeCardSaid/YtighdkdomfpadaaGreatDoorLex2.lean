/- Package lex, walked: Right, Write. -/
import Derived.Test.YtighdkdomfpadaaGreatDoorProg
import Derived.Test.YtighdkdomfpadaaGreatDoorLex
import Derived.Lib.ReplaceLaws
import Derived.Test.YtighdkdomfpadaaGreatDoorSLB
import Derived.KernelRfl
set_option linter.unusedSimpArgs false
set_option linter.unusedVariables false
set_option maxRecDepth 100000
namespace Go.Proofs.YtighdkdomfpadaaGreatDoor
open Go Go.Proofs.YtighdkdomfpadaaGreatDoor.SL Go.RowKit
/-- May a token be? -/
def rightL (t : Tok) : Bool :=
  if t.1 = 2 ∨ t.1 = 3 then true
  else if t.1 = 5 then !Lib.contains t.2 closesL && decide (Lib.trimS t.2 blanksL = t.2)
  else if t.1 = 1 ∨ t.1 = 4 ∨ t.1 = 6 then (if t.2 = [] ∨ remarkL t.2 ≠ 0 then false else decide ((oneL t.2).1 = t) && decide ((oneL t.2).2 = (t.2.length : Nat)))
  else false
theorem tok_eq (a b : Tok) : (decide (a.1 = b.1) && decide (a.2 = b.2)) = decide (a = b) := by
  cases a; cases b; simp [Prod.ext_iff]
def dblL (q : UInt8) (s : BL) : BL := s.flatMap fun c => if c = q then [q, q] else [c]
theorem index_cons (q c : UInt8) (s : BL) : Lib.index (c :: s) [q] = if c = q then 0 else if Lib.index s [q] == -1 then -1 else Lib.index s [q] + 1 := by
  conv => lhs; unfold Lib.index
  have : [q].isPrefixOf (c :: s) = decide (c = q) := by
    by_cases h : c = q
    · subst h; simp [List.isPrefixOf]
    · have h2 : (q == c) = false := by
        cases hb : (q == c) with
        | false => rfl
        | true => exact absurd (by simpa using hb) (fun e : q = c => h e.symm)
      simp only [List.isPrefixOf, h2, Bool.false_and, decide_eq_false h]
  rw [this]
  by_cases h : c = q <;> simp [h]
theorem replaceK_cons {q c : UInt8} (h : c ≠ q) (new : BL) (k : Nat) (s : BL) : Lib.replaceK [q] new k (c :: s) = c :: Lib.replaceK [q] new k s := by
  cases k with
  | zero => rfl
  | succ k =>
    unfold Lib.replaceK
    rw [index_cons, if_neg h]
    by_cases hm : (Lib.index s [q] == -1) = true
    · simp [hm]
    · have h1 := Lib.index_ge s [q]
      have h2 : Lib.index s [q] ≠ -1 := by simpa using hm
      rw [if_neg hm, if_neg hm]
      rw [if_neg (by simp; omega)]
      have e : (Lib.index s [q] + 1).toNat = (Lib.index s [q]).toNat + 1 := by omega
      rw [e]
      simp [Nat.add_right_comm]
theorem replaceK_dbl (q : UInt8) : ∀ (s : BL) (k : Nat), s.count q ≤ k → Lib.replaceK [q] [q, q] k s = dblL q s
  | [], k, _ => by
    cases k with
    | zero => rfl
    | succ k => simp [Lib.replaceK, Lib.index, dblL]
  | c :: s, k, h => by
    by_cases hc : c = q
    · subst hc
      cases k with
      | zero => simp at h
      | succ k =>
        simp at h
        have ih := replaceK_dbl c s k (by omega)
        unfold Lib.replaceK
        rw [index_cons, if_pos rfl]
        simp only [show ((0 : Int) == -1) = false from rfl, Bool.false_eq_true, if_false]
        simp [ih, dblL]
    · rw [replaceK_cons hc, replaceK_dbl q s k (by rw [List.count_cons_of_ne hc] at h; exact h)]
      simp [dblL, hc]
theorem replaceAll_dbl (q : UInt8) (s : BL) : Lib.replaceAll s [q] [q, q] = dblL q s := by
  unfold Lib.replaceAll Lib.replace
  rw [if_neg (by simp)]
  unfold Lib.replaceNum
  rw [if_pos (.inl (by decide)), Lib.count_one]
  exact replaceK_dbl q s _ (Nat.le_refl _)
theorem dblL_le (q : UInt8) (s : BL) : (dblL q s).length ≤ 2 * s.length := by
  induction s with
  | nil => simp [dblL]
  | cons c s ih =>
    have : dblL q (c :: s) = (if c = q then [q, q] else [c]) ++ dblL q s := by simp [dblL]
    rw [this, List.length_append, List.length_cons]
    split <;> simp <;> omega
def writeT (t : Tok) : BL := if t.1 = 2 then [34] ++ dblL 34 t.2 ++ [34] else if t.1 = 3 then [39] ++ dblL 39 t.2 ++ [39] else if t.1 = 5 then [47, 42, 43, 32] ++ t.2 ++ [32] ++ [42, 47] else t.2
def writeL (l : List Tok) : BL := Lib.join (l.map writeT) [32]
theorem writeT_le (t : Tok) : (writeT t).length ≤ 2 * t.2.length + 7 := by
  unfold writeT
  have h1 := dblL_le 34 t.2
  have h2 := dblL_le 39 t.2
  split
  · simp; omega
  · split
    · simp; omega
    · split
      · simp; omega
      · omega
theorem join_cons2 (a b : BL) (xs : List BL) (sep : BL) : Lib.join (a :: b :: xs) sep = a ++ (sep ++ Lib.join (b :: xs) sep) := by
  simp [Lib.join, List.intercalate]
theorem join_le {m : Nat} : ∀ (xs : List BL), (∀ x ∈ xs, x.length ≤ m) → (Lib.join xs [32]).length ≤ xs.length * (m + 1)
  | [], _ => by simp [Lib.join_nil]
  | [a], h => by
    have := h a (by simp)
    rw [Lib.join_one]; simp; omega
  | a :: b :: xs, h => by
    have ih := join_le (b :: xs) (fun x hx => h x (by simp [hx]))
    have := h a (by simp)
    rw [join_cons2, List.length_append, List.length_append]
    simp only [List.length_cons, List.length_nil] at ih ⊢
    rw [Nat.add_mul (xs.length + 1) 1, Nat.one_mul]
    omega
theorem map_take_succ {α β : Type} (f : α → β) {l : List α} {k : Nat} {x : α} (h : l[k]? = some x) : (l.take (k + 1)).map f = (l.take k).map f ++ [f x] := by
  rw [List.take_add_one, h]; simp