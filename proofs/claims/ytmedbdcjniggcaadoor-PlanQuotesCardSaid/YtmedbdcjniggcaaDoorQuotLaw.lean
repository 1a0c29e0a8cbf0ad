/- Statements that say texts between quotes, in plain words. -/
import Derived.Test.YtmedbdcjniggcaaDoorProg
import Derived.Test.YtmedbdcjniggcaaDoorOfLaw
import Derived.Test.YtmedbdcjniggcaaDoorKeepLaw
import Derived.Lib.IndexMore
import Derived.Lib.MapLaws
import Derived.KernelRfl
set_option linter.unusedSimpArgs false
set_option linter.unusedVariables false
set_option maxRecDepth 100000
namespace Go.Proofs.YtmedbdcjniggcaaDoor
open Go Go.Proofs.YtmedbdcjniggcaaDoor.SL Go.RowKit
def dblL (q : UInt8) (s : BL) : BL := s.flatMap fun c => if c = q then [q, q] else [c]
theorem index_cons (q c : UInt8) (s : BL) : Lib.index (c :: s) [q] = if c = q then 0 else if Lib.index s [q] == -1 then -1 else Lib.index s [q] + 1 := by
  conv => lhs; unfold Lib.index
  have : [q].isPrefixOf (c :: s) = decide (c = q) := by
    by_cases h : c = q
    · subst h; simp [List.isPrefixOf]
    · have h2 : (q == c) = false := by
        cases hb : (q == c) with
        | false => rfl
        | true => exact absurd (by simpa using hb) (fun e : q = c => h e.symm)
      simp only [List.isPrefixOf, h2, Bool.false_and, decide_eq_false h]
  rw [this]
  by_cases h : c = q <;> simp [h]
theorem replaceK_cons {q c : UInt8} (h : c ≠ q) (new : BL) (k : Nat) (s : BL) : Lib.replaceK [q] new k (c :: s) = c :: Lib.replaceK [q] new k s := by
  cases k with
  | zero => rfl
  | succ k =>
    unfold Lib.replaceK
    rw [index_cons, if_neg h]
    by_cases hm : (Lib.index s [q] == -1) = true
    · simp [hm]
    · have h1 := Lib.index_ge s [q]
      have h2 : Lib.index s [q] ≠ -1 := by simpa using hm
      rw [if_neg hm, if_neg hm]
      rw [if_neg (by simp; omega)]
      have e : (Lib.index s [q] + 1).toNat = (Lib.index s [q]).toNat + 1 := by omega
      rw [e]
      simp [Nat.add_right_comm]
theorem replaceK_dbl (q : UInt8) : ∀ (s : BL) (k : Nat), s.count q ≤ k → Lib.replaceK [q] [q, q] k s = dblL q s
  | [], k, _ => by
    cases k with
    | zero => rfl
    | succ k => simp [Lib.replaceK, Lib.index, dblL]
  | c :: s, k, h => by
    by_cases hc : c = q
    · subst hc
      cases k with
      | zero => simp at h
      | succ k =>
        simp at h
        have ih := replaceK_dbl c s k (by omega)
        unfold Lib.replaceK
        rw [index_cons, if_pos rfl]
        simp only [show ((0 : Int) == -1) = false from rfl, Bool.false_eq_true, if_false]
        simp [ih, dblL]
    · rw [replaceK_cons hc, replaceK_dbl q s k (by rw [List.count_cons_of_ne hc] at h; exact h)]
      simp [dblL, hc]
theorem replaceAll_dbl (q : UInt8) (s : BL) : Lib.replaceAll s [q] [q, q] = dblL q s := by
  unfold Lib.replaceAll Lib.replace
  rw [if_neg (by simp)]
  unfold Lib.replaceNum
  rw [if_pos (.inl (by decide)), Lib.count_one]
  exact replaceK_dbl q s _ (Nat.le_refl _)
theorem dblL_le (q : UInt8) (s : BL) : (dblL q s).length ≤ 2 * s.length := by
  induction s with
  | nil => simp [dblL]
  | cons c s ih =>
    have : dblL q (c :: s) = (if c = q then [q, q] else [c]) ++ dblL q s := by simp [dblL]
    rw [this, List.length_append, List.length_cons]
    split <;> simp <;> omega
theorem lexL_blank {b : UInt8} {r : BL} (h : blankB b = true) : lexL (b :: r) = lexL r := by rw [lexL_cons, if_pos h]
theorem quotL_dbl (q : UInt8) : ∀ (s r : BL), (∀ r', r ≠ q :: r') → quotL q (dblL q s ++ q :: r) = some (s, (dblL q s).length + 1)
  | [], r, h => by
    simp only [dblL, List.flatMap_nil, List.nil_append]
    cases r with
    | nil => simp [quotL]
    | cons d r' =>
      have : d ≠ q := fun e => h r' (by rw [e])
      simp [quotL, this]
  | c :: s, r, h => by
    have ih := quotL_dbl q s r h
    have e : dblL q (c :: s) = (if c = q then [q, q] else [c]) ++ dblL q s := by simp [dblL]
    rw [e]
    by_cases hc : c = q
    · subst hc
      rw [if_pos rfl]
      simp only [List.cons_append, List.nil_append]
      unfold quotL
      simp [ih]
    · rw [if_neg hc]
      simp only [List.cons_append, List.nil_append]
      unfold quotL
      rw [if_neg hc, ih]
      simp
theorem lex_one {c : UInt8} {r rest : BL} {t : Tok} {n : Nat} (hb : blankB c = false) (hr : remarkL (c :: r) = 0) (ho : oneL (c :: r) = (t, ((n : Nat) : Int))) (hd : (c :: r).drop n = rest) : lexL (c :: r) = (lexL rest).map (t :: ·) := by
  rw [lexL_cons, hb, hr, ho]
  simp only [Bool.false_eq_true, if_false, if_true]
  rw [if_neg (by omega), show ((n : Nat) : Int).toNat = n from rfl, hd]
theorem rem_ne {x : UInt8} {l : BL} (h1 : x ≠ 47) (h2 : x ≠ 45) (h3 : x ≠ 35) : remarkL (x :: l) = 0 := by
  unfold remarkL hintsL opensL
  simp [pre_cons, h1, h2, h3]
theorem pre_ne {x : UInt8} {l : BL} (h1 : x ≠ 47) : Lib.hasPrefix (x :: l) hintsL = false := by
  unfold hintsL
  simp [pre_cons, h1]

/-- A text between quotes, its quotes twice. -/
def qT (s : BL) : BL := 39 :: (dblL 39 s ++ [39])
theorem qT_le (s : BL) : (qT s).length ≤ 2 * s.length + 2 := by
  have := dblL_le 39 s
  unfold qT
  simp only [List.length_cons, List.length_append, List.length_nil]
  omega
theorem lex_qT {s r : BL} (h : ∀ r', r ≠ 39 :: r') : lexL (qT s ++ r) = (lexL r).map (((3 : Int), s) :: ·) := by
  have ew : qT s ++ r = 39 :: (dblL 39 s ++ 39 :: r) := by simp [qT]
  rw [ew]
  refine lex_one (n := (dblL 39 s).length + 1 + 1) (by decide) (rem_ne (by decide) (by decide) (by decide)) ?_ (by simp)
  unfold oneL
  simp only
  rw [pre_ne (by decide)]
  simp only [Bool.false_eq_true, if_false, show letterB 39 = false by decide, show digitB 39 = false by decide]
  rw [if_pos (by decide), quotL_dbl 39 s _ h]
theorem lexL_none : lexL [] = some [] := rfl
def toksA (key val : BL) : List Tok := [(1, [73, 78, 83, 69, 82, 84]), (1, [73, 78, 84, 79]), (1, [75, 86]), (1, [86, 65, 76, 85, 69, 83]), (6, [40]), (3, key), (6, [44]), (3, val), (6, [41])]
theorem lexA (key val : BL) : lexL (105 :: 110 :: 115 :: 101 :: 114 :: 116 :: 32 :: 105 :: 110 :: 116 :: 111 :: 32 :: 107 :: 118 :: 32 :: 118 :: 97 :: 108 :: 117 :: 101 :: 115 :: 32 :: 40 :: (qT key ++ (44 :: (qT val ++ [41])))) = some (toksA key val) := by
  rw [show lexL (105 :: 110 :: 115 :: 101 :: 114 :: 116 :: 32 :: 105 :: 110 :: 116 :: 111 :: 32 :: 107 :: 118 :: 32 :: 118 :: 97 :: 108 :: 117 :: 101 :: 115 :: 32 :: 40 :: (qT key ++ (44 :: (qT val ++ [41])))) = (lexL (32 :: 105 :: 110 :: 116 :: 111 :: 32 :: 107 :: 118 :: 32 :: 118 :: 97 :: 108 :: 117 :: 101 :: 115 :: 32 :: 40 :: (qT key ++ (44 :: (qT val ++ [41]))))).map (((1, [73, 78, 83, 69, 82, 84]) : Tok) :: ·) from lex_one (n := 6) (by decide) (rem_ne (by decide) (by decide) (by decide)) (by kernel_rfl) rfl]
  rw [show lexL (32 :: 105 :: 110 :: 116 :: 111 :: 32 :: 107 :: 118 :: 32 :: 118 :: 97 :: 108 :: 117 :: 101 :: 115 :: 32 :: 40 :: (qT key ++ (44 :: (qT val ++ [41])))) = lexL (105 :: 110 :: 116 :: 111 :: 32 :: 107 :: 118 :: 32 :: 118 :: 97 :: 108 :: 117 :: 101 :: 115 :: 32 :: 40 :: (qT key ++ (44 :: (qT val ++ [41])))) from lexL_blank (by decide)]
  rw [show lexL (105 :: 110 :: 116 :: 111 :: 32 :: 107 :: 118 :: 32 :: 118 :: 97 :: 108 :: 117 :: 101 :: 115 :: 32 :: 40 :: (qT key ++ (44 :: (qT val ++ [41])))) = (lexL (32 :: 107 :: 118 :: 32 :: 118 :: 97 :: 108 :: 117 :: 101 :: 115 :: 32 :: 40 :: (qT key ++ (44 :: (qT val ++ [41]))))).map (((1, [73, 78, 84, 79]) : Tok) :: ·) from lex_one (n := 4) (by decide) (rem_ne (by decide) (by decide) (by decide)) (by kernel_rfl) rfl]
  rw [show lexL (32 :: 107 :: 118 :: 32 :: 118 :: 97 :: 108 :: 117 :: 101 :: 115 :: 32 :: 40 :: (qT key ++ (44 :: (qT val ++ [41])))) = lexL (107 :: 118 :: 32 :: 118 :: 97 :: 108 :: 117 :: 101 :: 115 :: 32 :: 40 :: (qT key ++ (44 :: (qT val ++ [41])))) from lexL_blank (by decide)]
  rw [show lexL (107 :: 118 :: 32 :: 118 :: 97 :: 108 :: 117 :: 101 :: 115 :: 32 :: 40 :: (qT key ++ (44 :: (qT val ++ [41])))) = (lexL (32 :: 118 :: 97 :: 108 :: 117 :: 101 :: 115 :: 32 :: 40 :: (qT key ++ (44 :: (qT val ++ [41]))))).map (((1, [75, 86]) : Tok) :: ·) from lex_one (n := 2) (by decide) (rem_ne (by decide) (by decide) (by decide)) (by kernel_rfl) rfl]
  rw [show lexL (32 :: 118 :: 97 :: 108 :: 117 :: 101 :: 115 :: 32 :: 40 :: (qT key ++ (44 :: (qT val ++ [41])))) = lexL (118 :: 97 :: 108 :: 117 :: 101 :: 115 :: 32 :: 40 :: (qT key ++ (44 :: (qT val ++ [41])))) from lexL_blank (by decide)]
  rw [show lexL (118 :: 97 :: 108 :: 117 :: 101 :: 115 :: 32 :: 40 :: (qT key ++ (44 :: (qT val ++ [41])))) = (lexL (32 :: 40 :: (qT key ++ (44 :: (qT val ++ [41]))))).map (((1, [86, 65, 76, 85, 69, 83]) : Tok) :: ·) from lex_one (n := 6) (by decide) (rem_ne (by decide) (by decide) (by decide)) (by kernel_rfl) rfl]
  rw [show lexL (32 :: 40 :: (qT key ++ (44 :: (qT val ++ [41])))) = lexL (40 :: (qT key ++ (44 :: (qT val ++ [41])))) from lexL_blank (by decide)]
  rw [show lexL (40 :: (qT key ++ (44 :: (qT val ++ [41])))) = (lexL (qT key ++ (44 :: (qT val ++ [41])))).map (((6, [40]) : Tok) :: ·) from lex_one (n := 1) (by decide) (rem_ne (by decide) (by decide) (by decide)) (by kernel_rfl) rfl]
  rw [show lexL (qT key ++ (44 :: (qT val ++ [41]))) = (lexL (44 :: (qT val ++ [41]))).map (((3 : Int), key) :: ·) from lex_qT (fun r' e => by cases e)]
  rw [show lexL (44 :: (qT val ++ [41])) = (lexL (qT val ++ [41])).map (((6, [44]) : Tok) :: ·) from lex_one (n := 1) (by decide) (rem_ne (by decide) (by decide) (by decide)) (by kernel_rfl) rfl]
  rw [show lexL (qT val ++ [41]) = (lexL [41]).map (((3 : Int), val) :: ·) from lex_qT (fun r' e => by cases e)]
  rw [show lexL [41] = (lexL []).map (((6, [41]) : Tok) :: ·) from lex_one (n := 1) (by decide) (rem_ne (by decide) (by decide) (by decide)) (by kernel_rfl) rfl]
  rw [lexL_none]
  rfl
def toksB (key : BL) : List Tok := [(1, [85, 80, 68, 65, 84, 69]), (1, [75, 86]), (1, [83, 69, 84]), (1, [86]), (6, [61]), (3, key), (1, [87, 72, 69, 82, 69]), (1, [75]), (6, [61]), (3, key)]
theorem lexB (key : BL) : lexL (85 :: 80 :: 68 :: 65 :: 84 :: 69 :: 32 :: 107 :: 118 :: 32 :: 83 :: 69 :: 84 :: 32 :: 118 :: 61 :: (qT key ++ (32 :: 87 :: 72 :: 69 :: 82 :: 69 :: 32 :: 107 :: 61 :: (qT key ++ [32, 45, 45, 32, 120])))) = some (toksB key) := by
  rw [show lexL (85 :: 80 :: 68 :: 65 :: 84 :: 69 :: 32 :: 107 :: 118 :: 32 :: 83 :: 69 :: 84 :: 32 :: 118 :: 61 :: (qT key ++ (32 :: 87 :: 72 :: 69 :: 82 :: 69 :: 32 :: 107 :: 61 :: (qT key ++ [32, 45, 45, 32, 120])))) = (lexL (32 :: 107 :: 118 :: 32 :: 83 :: 69 :: 84 :: 32 :: 118 :: 61 :: (qT key ++ (32 :: 87 :: 72 :: 69 :: 82 :: 69 :: 32 :: 107 :: 61 :: (qT key ++ [32, 45, 45, 32, 120]))))).map (((1, [85, 80, 68, 65, 84, 69]) : Tok) :: ·) from lex_one (n := 6) (by decide) (rem_ne (by decide) (by decide) (by decide)) (by kernel_rfl) rfl]
  rw [show lexL (32 :: 107 :: 118 :: 32 :: 83 :: 69 :: 84 :: 32 :: 118 :: 61 :: (qT key ++ (32 :: 87 :: 72 :: 69 :: 82 :: 69 :: 32 :: 107 :: 61 :: (qT key ++ [32, 45, 45, 32, 120])))) = lexL (107 :: 118 :: 32 :: 83 :: 69 :: 84 :: 32 :: 118 :: 61 :: (qT key ++ (32 :: 87 :: 72 :: 69 :: 82 :: 69 :: 32 :: 107 :: 61 :: (qT key ++ [32, 45, 45, 32, 120])))) from lexL_blank (by decide)]
  rw [show lexL (107 :: 118 :: 32 :: 83 :: 69 :: 84 :: 32 :: 118 :: 61 :: (qT key ++ (32 :: 87 :: 72 :: 69 :: 82 :: 69 :: 32 :: 107 :: 61 :: (qT key ++ [32, 45, 45, 32, 120])))) = (lexL (32 :: 83 :: 69 :: 84 :: 32 :: 118 :: 61 :: (qT key ++ (32 :: 87 :: 72 :: 69 :: 82 :: 69 :: 32 :: 107 :: 61 :: (qT key ++ [32, 45, 45, 32, 120]))))).map (((1, [75, 86]) : Tok) :: ·) from lex_one (n := 2) (by decide) (rem_ne (by decide) (by decide) (by decide)) (by kernel_rfl) rfl]
  rw [show lexL (32 :: 83 :: 69 :: 84 :: 32 :: 118 :: 61 :: (qT key ++ (32 :: 87 :: 72 :: 69 :: 82 :: 69 :: 32 :: 107 :: 61 :: (qT key ++ [32, 45, 45, 32, 120])))) = lexL (83 :: 69 :: 84 :: 32 :: 118 :: 61 :: (qT key ++ (32 :: 87 :: 72 :: 69 :: 82 :: 69 :: 32 :: 107 :: 61 :: (qT key ++ [32, 45, 45, 32, 120])))) from lexL_blank (by decide)]
  rw [show lexL (83 :: 69 :: 84 :: 32 :: 118 :: 61 :: (qT key ++ (32 :: 87 :: 72 :: 69 :: 82 :: 69 :: 32 :: 107 :: 61 :: (qT key ++ [32, 45, 45, 32, 120])))) = (lexL (32 :: 118 :: 61 :: (qT key ++ (32 :: 87 :: 72 :: 69 :: 82 :: 69 :: 32 :: 107 :: 61 :: (qT key ++ [32, 45, 45, 32, 120]))))).map (((1, [83, 69, 84]) : Tok) :: ·) from lex_one (n := 3) (by decide) (rem_ne (by decide) (by decide) (by decide)) (by kernel_rfl) rfl]
  rw [show lexL (32 :: 118 :: 61 :: (qT key ++ (32 :: 87 :: 72 :: 69 :: 82 :: 69 :: 32 :: 107 :: 61 :: (qT key ++ [32, 45, 45, 32, 120])))) = lexL (118 :: 61 :: (qT key ++ (32 :: 87 :: 72 :: 69 :: 82 :: 69 :: 32 :: 107 :: 61 :: (qT key ++ [32, 45, 45, 32, 120])))) from lexL_blank (by decide)]
  rw [show lexL (118 :: 61 :: (qT key ++ (32 :: 87 :: 72 :: 69 :: 82 :: 69 :: 32 :: 107 :: 61 :: (qT key ++ [32, 45, 45, 32, 120])))) = (lexL (61 :: (qT key ++ (32 :: 87 :: 72 :: 69 :: 82 :: 69 :: 32 :: 107 :: 61 :: (qT key ++ [32, 45, 45, 32, 120]))))).map (((1, [86]) : Tok) :: ·) from lex_one (n := 1) (by decide) (rem_ne (by decide) (by decide) (by decide)) (by kernel_rfl) rfl]
  rw [show lexL (61 :: (qT key ++ (32 :: 87 :: 72 :: 69 :: 82 :: 69 :: 32 :: 107 :: 61 :: (qT key ++ [32, 45, 45, 32, 120])))) = (lexL (qT key ++ (32 :: 87 :: 72 :: 69 :: 82 :: 69 :: 32 :: 107 :: 61 :: (qT key ++ [32, 45, 45, 32, 120])))).map (((6, [61]) : Tok) :: ·) from lex_one (n := 1) (by decide) (rem_ne (by decide) (by decide) (by decide)) (by kernel_rfl) rfl]
  rw [show lexL (qT key ++ (32 :: 87 :: 72 :: 69 :: 82 :: 69 :: 32 :: 107 :: 61 :: (qT key ++ [32, 45, 45, 32, 120]))) = (lexL (32 :: 87 :: 72 :: 69 :: 82 :: 69 :: 32 :: 107 :: 61 :: (qT key ++ [32, 45, 45, 32, 120]))).map (((3 : Int), key) :: ·) from lex_qT (fun r' e => by cases e)]
  rw [show lexL (32 :: 87 :: 72 :: 69 :: 82 :: 69 :: 32 :: 107 :: 61 :: (qT key ++ [32, 45, 45, 32, 120])) = lexL (87 :: 72 :: 69 :: 82 :: 69 :: 32 :: 107 :: 61 :: (qT key ++ [32, 45, 45, 32, 120])) from lexL_blank (by decide)]
  rw [show lexL (87 :: 72 :: 69 :: 82 :: 69 :: 32 :: 107 :: 61 :: (qT key ++ [32, 45, 45, 32, 120])) = (lexL (32 :: 107 :: 61 :: (qT key ++ [32, 45, 45, 32, 120]))).map (((1, [87, 72, 69, 82, 69]) : Tok) :: ·) from lex_one (n := 5) (by decide) (rem_ne (by decide) (by decide) (by decide)) (by kernel_rfl) rfl]
  rw [show lexL (32 :: 107 :: 61 :: (qT key ++ [32, 45, 45, 32, 120])) = lexL (107 :: 61 :: (qT key ++ [32, 45, 45, 32, 120])) from lexL_blank (by decide)]
  rw [show lexL (107 :: 61 :: (qT key ++ [32, 45, 45, 32, 120])) = (lexL (61 :: (qT key ++ [32, 45, 45, 32, 120]))).map (((1, [75]) : Tok) :: ·) from lex_one (n := 1) (by decide) (rem_ne (by decide) (by decide) (by decide)) (by kernel_rfl) rfl]
  rw [show lexL (61 :: (qT key ++ [32, 45, 45, 32, 120])) = (lexL (qT key ++ [32, 45, 45, 32, 120])).map (((6, [61]) : Tok) :: ·) from lex_one (n := 1) (by decide) (rem_ne (by decide) (by decide) (by decide)) (by kernel_rfl) rfl]
  rw [show lexL (qT key ++ [32, 45, 45, 32, 120]) = (lexL [32, 45, 45, 32, 120]).map (((3 : Int), key) :: ·) from lex_qT (fun r' e => by cases e)]
  rw [show lexL [32, 45, 45, 32, 120] = lexL [45, 45, 32, 120] from lexL_blank (by decide)]
  rw [show lexL [45, 45, 32, 120] = some [] from by decide +kernel]
  rfl
def toksC (key : BL) : List Tok := [(1, [83, 69, 76, 69, 67, 84]), (1, [86]), (1, [70, 82, 79, 77]), (1, [75, 86]), (1, [87, 72, 69, 82, 69]), (1, [75]), (6, [61]), (3, key)]
theorem lexC (key : BL) : lexL (47 :: 42 :: 32 :: 120 :: 32 :: 42 :: 47 :: 115 :: 101 :: 108 :: 101 :: 99 :: 116 :: 32 :: 118 :: 32 :: 102 :: 114 :: 111 :: 109 :: 32 :: 107 :: 118 :: 32 :: 119 :: 104 :: 101 :: 114 :: 101 :: 32 :: 107 :: 61 :: (qT key ++ [])) = some (toksC key) := by
  have hr : remarkL (47 :: 42 :: 32 :: 120 :: 32 :: 42 :: 47 :: 115 :: 101 :: 108 :: 101 :: 99 :: 116 :: 32 :: 118 :: 32 :: 102 :: 114 :: 111 :: 109 :: 32 :: 107 :: 118 :: 32 :: 119 :: 104 :: 101 :: 114 :: 101 :: 32 :: 107 :: 61 :: (qT key ++ [])) = 7 := by kernel_rfl
  rw [show lexL (47 :: 42 :: 32 :: 120 :: 32 :: 42 :: 47 :: 115 :: 101 :: 108 :: 101 :: 99 :: 116 :: 32 :: 118 :: 32 :: 102 :: 114 :: 111 :: 109 :: 32 :: 107 :: 118 :: 32 :: 119 :: 104 :: 101 :: 114 :: 101 :: 32 :: 107 :: 61 :: (qT key ++ [])) = lexL (115 :: 101 :: 108 :: 101 :: 99 :: 116 :: 32 :: 118 :: 32 :: 102 :: 114 :: 111 :: 109 :: 32 :: 107 :: 118 :: 32 :: 119 :: 104 :: 101 :: 114 :: 101 :: 32 :: 107 :: 61 :: (qT key ++ [])) from by rw [lexL_cons, hr, if_neg (by decide), if_neg (by decide), if_neg (by decide)]; rfl]
  rw [show lexL (115 :: 101 :: 108 :: 101 :: 99 :: 116 :: 32 :: 118 :: 32 :: 102 :: 114 :: 111 :: 109 :: 32 :: 107 :: 118 :: 32 :: 119 :: 104 :: 101 :: 114 :: 101 :: 32 :: 107 :: 61 :: (qT key ++ [])) = (lexL (32 :: 118 :: 32 :: 102 :: 114 :: 111 :: 109 :: 32 :: 107 :: 118 :: 32 :: 119 :: 104 :: 101 :: 114 :: 101 :: 32 :: 107 :: 61 :: (qT key ++ []))).map (((1, [83, 69, 76, 69, 67, 84]) : Tok) :: ·) from lex_one (n := 6) (by decide) (rem_ne (by decide) (by decide) (by decide)) (by kernel_rfl) rfl]
  rw [show lexL (32 :: 118 :: 32 :: 102 :: 114 :: 111 :: 109 :: 32 :: 107 :: 118 :: 32 :: 119 :: 104 :: 101 :: 114 :: 101 :: 32 :: 107 :: 61 :: (qT key ++ [])) = lexL (118 :: 32 :: 102 :: 114 :: 111 :: 109 :: 32 :: 107 :: 118 :: 32 :: 119 :: 104 :: 101 :: 114 :: 101 :: 32 :: 107 :: 61 :: (qT key ++ [])) from lexL_blank (by decide)]
  rw [show lexL (118 :: 32 :: 102 :: 114 :: 111 :: 109 :: 32 :: 107 :: 118 :: 32 :: 119 :: 104 :: 101 :: 114 :: 101 :: 32 :: 107 :: 61 :: (qT key ++ [])) = (lexL (32 :: 102 :: 114 :: 111 :: 109 :: 32 :: 107 :: 118 :: 32 :: 119 :: 104 :: 101 :: 114 :: 101 :: 32 :: 107 :: 61 :: (qT key ++ []))).map (((1, [86]) : Tok) :: ·) from lex_one (n := 1) (by decide) (rem_ne (by decide) (by decide) (by decide)) (by kernel_rfl) rfl]
  rw [show lexL (32 :: 102 :: 114 :: 111 :: 109 :: 32 :: 107 :: 118 :: 32 :: 119 :: 104 :: 101 :: 114 :: 101 :: 32 :: 107 :: 61 :: (qT key ++ [])) = lexL (102 :: 114 :: 111 :: 109 :: 32 :: 107 :: 118 :: 32 :: 119 :: 104 :: 101 :: 114 :: 101 :: 32 :: 107 :: 61 :: (qT key ++ [])) from lexL_blank (by decide)]
  rw [show lexL (102 :: 114 :: 111 :: 109 :: 32 :: 107 :: 118 :: 32 :: 119 :: 104 :: 101 :: 114 :: 101 :: 32 :: 107 :: 61 :: (qT key ++ [])) = (lexL (32 :: 107 :: 118 :: 32 :: 119 :: 104 :: 101 :: 114 :: 101 :: 32 :: 107 :: 61 :: (qT key ++ []))).map (((1, [70, 82, 79, 77]) : Tok) :: ·) from lex_one (n := 4) (by decide) (rem_ne (by decide) (by decide) (by decide)) (by kernel_rfl) rfl]
  rw [show lexL (32 :: 107 :: 118 :: 32 :: 119 :: 104 :: 101 :: 114 :: 101 :: 32 :: 107 :: 61 :: (qT key ++ [])) = lexL (107 :: 118 :: 32 :: 119 :: 104 :: 101 :: 114 :: 101 :: 32 :: 107 :: 61 :: (qT key ++ [])) from lexL_blank (by decide)]
  rw [show lexL (107 :: 118 :: 32 :: 119 :: 104 :: 101 :: 114 :: 101 :: 32 :: 107 :: 61 :: (qT key ++ [])) = (lexL (32 :: 119 :: 104 :: 101 :: 114 :: 101 :: 32 :: 107 :: 61 :: (qT key ++ []))).map (((1, [75, 86]) : Tok) :: ·) from lex_one (n := 2) (by decide) (rem_ne (by decide) (by decide) (by decide)) (by kernel_rfl) rfl]
  rw [show lexL (32 :: 119 :: 104 :: 101 :: 114 :: 101 :: 32 :: 107 :: 61 :: (qT key ++ [])) = lexL (119 :: 104 :: 101 :: 114 :: 101 :: 32 :: 107 :: 61 :: (qT key ++ [])) from lexL_blank (by decide)]
  rw [show lexL (119 :: 104 :: 101 :: 114 :: 101 :: 32 :: 107 :: 61 :: (qT key ++ [])) = (lexL (32 :: 107 :: 61 :: (qT key ++ []))).map (((1, [87, 72, 69, 82, 69]) : Tok) :: ·) from lex_one (n := 5) (by decide) (rem_ne (by decide) (by decide) (by decide)) (by kernel_rfl) rfl]
  rw [show lexL (32 :: 107 :: 61 :: (qT key ++ [])) = lexL (107 :: 61 :: (qT key ++ [])) from lexL_blank (by decide)]
  rw [show lexL (107 :: 61 :: (qT key ++ [])) = (lexL (61 :: (qT key ++ []))).map (((1, [75]) : Tok) :: ·) from lex_one (n := 1) (by decide) (rem_ne (by decide) (by decide) (by decide)) (by kernel_rfl) rfl]
  rw [show lexL (61 :: (qT key ++ [])) = (lexL (qT key ++ [])).map (((6, [61]) : Tok) :: ·) from lex_one (n := 1) (by decide) (rem_ne (by decide) (by decide) (by decide)) (by kernel_rfl) rfl]
  rw [show lexL (qT key ++ []) = (lexL []).map (((3 : Int), key) :: ·) from lex_qT (fun r' e => by cases e)]
  rw [lexL_none]
  rfl
def toksD (key : BL) : List Tok := [(1, [68, 69, 76, 69, 84, 69]), (1, [70, 82, 79, 77]), (1, [75, 86]), (1, [87, 72, 69, 82, 69]), (1, [75]), (6, [61]), (3, key), (6, [59]), (6, [59])]
theorem lexD (key : BL) : lexL (100 :: 101 :: 108 :: 101 :: 116 :: 101 :: 32 :: 102 :: 114 :: 111 :: 109 :: 32 :: 107 :: 118 :: 32 :: 119 :: 104 :: 101 :: 114 :: 101 :: 32 :: 107 :: 32 :: 61 :: 32 :: (qT key ++ [59, 59])) = some (toksD key) := by
  rw [show lexL (100 :: 101 :: 108 :: 101 :: 116 :: 101 :: 32 :: 102 :: 114 :: 111 :: 109 :: 32 :: 107 :: 118 :: 32 :: 119 :: 104 :: 101 :: 114 :: 101 :: 32 :: 107 :: 32 :: 61 :: 32 :: (qT key ++ [59, 59])) = (lexL (32 :: 102 :: 114 :: 111 :: 109 :: 32 :: 107 :: 118 :: 32 :: 119 :: 104 :: 101 :: 114 :: 101 :: 32 :: 107 :: 32 :: 61 :: 32 :: (qT key ++ [59, 59]))).map (((1, [68, 69, 76, 69, 84, 69]) : Tok) :: ·) from lex_one (n := 6) (by decide) (rem_ne (by decide) (by decide) (by decide)) (by kernel_rfl) rfl]
  rw [show lexL (32 :: 102 :: 114 :: 111 :: 109 :: 32 :: 107 :: 118 :: 32 :: 119 :: 104 :: 101 :: 114 :: 101 :: 32 :: 107 :: 32 :: 61 :: 32 :: (qT key ++ [59, 59])) = lexL (102 :: 114 :: 111 :: 109 :: 32 :: 107 :: 118 :: 32 :: 119 :: 104 :: 101 :: 114 :: 101 :: 32 :: 107 :: 32 :: 61 :: 32 :: (qT key ++ [59, 59])) from lexL_blank (by decide)]
  rw [show lexL (102 :: 114 :: 111 :: 109 :: 32 :: 107 :: 118 :: 32 :: 119 :: 104 :: 101 :: 114 :: 101 :: 32 :: 107 :: 32 :: 61 :: 32 :: (qT key ++ [59, 59])) = (lexL (32 :: 107 :: 118 :: 32 :: 119 :: 104 :: 101 :: 114 :: 101 :: 32 :: 107 :: 32 :: 61 :: 32 :: (qT key ++ [59, 59]))).map (((1, [70, 82, 79, 77]) : Tok) :: ·) from lex_one (n := 4) (by decide) (rem_ne (by decide) (by decide) (by decide)) (by kernel_rfl) rfl]
  rw [show lexL (32 :: 107 :: 118 :: 32 :: 119 :: 104 :: 101 :: 114 :: 101 :: 32 :: 107 :: 32 :: 61 :: 32 :: (qT key ++ [59, 59])) = lexL (107 :: 118 :: 32 :: 119 :: 104 :: 101 :: 114 :: 101 :: 32 :: 107 :: 32 :: 61 :: 32 :: (qT key ++ [59, 59])) from lexL_blank (by decide)]
  rw [show lexL (107 :: 118 :: 32 :: 119 :: 104 :: 101 :: 114 :: 101 :: 32 :: 107 :: 32 :: 61 :: 32 :: (qT key ++ [59, 59])) = (lexL (32 :: 119 :: 104 :: 101 :: 114 :: 101 :: 32 :: 107 :: 32 :: 61 :: 32 :: (qT key ++ [59, 59]))).map (((1, [75, 86]) : Tok) :: ·) from lex_one (n := 2) (by decide) (rem_ne (by decide) (by decide) (by decide)) (by kernel_rfl) rfl]
  rw [show lexL (32 :: 119 :: 104 :: 101 :: 114 :: 101 :: 32 :: 107 :: 32 :: 61 :: 32 :: (qT key ++ [59, 59])) = lexL (119 :: 104 :: 101 :: 114 :: 101 :: 32 :: 107 :: 32 :: 61 :: 32 :: (qT key ++ [59, 59])) from lexL_blank (by decide)]
  rw [show lexL (119 :: 104 :: 101 :: 114 :: 101 :: 32 :: 107 :: 32 :: 61 :: 32 :: (qT key ++ [59, 59])) = (lexL (32 :: 107 :: 32 :: 61 :: 32 :: (qT key ++ [59, 59]))).map (((1, [87, 72, 69, 82, 69]) : Tok) :: ·) from lex_one (n := 5) (by decide) (rem_ne (by decide) (by decide) (by decide)) (by kernel_rfl) rfl]
  rw [show lexL (32 :: 107 :: 32 :: 61 :: 32 :: (qT key ++ [59, 59])) = lexL (107 :: 32 :: 61 :: 32 :: (qT key ++ [59, 59])) from lexL_blank (by decide)]
  rw [show lexL (107 :: 32 :: 61 :: 32 :: (qT key ++ [59, 59])) = (lexL (32 :: 61 :: 32 :: (qT key ++ [59, 59]))).map (((1, [75]) : Tok) :: ·) from lex_one (n := 1) (by decide) (rem_ne (by decide) (by decide) (by decide)) (by kernel_rfl) rfl]
  rw [show lexL (32 :: 61 :: 32 :: (qT key ++ [59, 59])) = lexL (61 :: 32 :: (qT key ++ [59, 59])) from lexL_blank (by decide)]
  rw [show lexL (61 :: 32 :: (qT key ++ [59, 59])) = (lexL (32 :: (qT key ++ [59, 59]))).map (((6, [61]) : Tok) :: ·) from lex_one (n := 1) (by decide) (rem_ne (by decide) (by decide) (by decide)) (by kernel_rfl) rfl]
  rw [show lexL (32 :: (qT key ++ [59, 59])) = lexL (qT key ++ [59, 59]) from lexL_blank (by decide)]
  rw [show lexL (qT key ++ [59, 59]) = (lexL [59, 59]).map (((3 : Int), key) :: ·) from lex_qT (fun r' e => by cases e)]
  rw [show lexL [59, 59] = (lexL [59]).map (((6, [59]) : Tok) :: ·) from lex_one (n := 1) (by decide) (rem_ne (by decide) (by decide) (by decide)) (by kernel_rfl) rfl]
  rw [show lexL [59] = (lexL []).map (((6, [59]) : Tok) :: ·) from lex_one (n := 1) (by decide) (rem_ne (by decide) (by decide) (by decide)) (by kernel_rfl) rfl]
  rw [lexL_none]
  rfl
/-- insert into kv values ( K , V ) -/
def stA (key val : BL) : BL := [105, 110, 115, 101, 114, 116, 32, 105, 110, 116, 111, 32, 107, 118, 32, 118, 97, 108, 117, 101, 115, 32, 40] ++ qT key ++ [44] ++ qT val ++ [41]
theorem stA_le (key val : BL) (h : key.length + val.length ≤ 30) : (stA key val).length ≤ 160 := by
  have h1 := qT_le key
  have h2 := qT_le val
  unfold stA
  simp only [List.length_append, List.length_cons, List.length_nil]
  omega
theorem stA_plan (key val : BL) (h : key.length + val.length ≤ 30) : planL (stA key val) = (3, key, val) := by
  have hl : lexR (stA key val) = (toksA key val, 0) := by
    have hle := stA_le key val h
    have e : lexL (stA key val) = some (toksA key val) := by
      rw [← lexA key val]
      unfold stA
      simp only [List.append_assoc, List.cons_append, List.nil_append, List.append_nil]
    unfold lexR
    rw [if_neg (by omega), e]
  unfold planL
  rw [hl, if_pos rfl]
  have ht : textL (toksA key val) = form3 := by
    have hw : trimW (wordsL (toksA key val)) = toks3.map word1 := by kernel_rfl
    unfold textL
    rw [hw, form3_join]
  unfold ofL
  rw [ht]
  rw [if_neg (by decide), if_neg (by decide), if_pos rfl]
  rfl
/-- UPDATE kv SET v= K  WHERE k= K  -- x -/
def stB (key : BL) : BL := [85, 80, 68, 65, 84, 69, 32, 107, 118, 32, 83, 69, 84, 32, 118, 61] ++ qT key ++ [32, 87, 72, 69, 82, 69, 32, 107, 61] ++ qT key ++ [32, 45, 45, 32, 120]
theorem stB_le (key : BL) (h : key.length ≤ 30) : (stB key).length ≤ 160 := by
  have h1 := qT_le key
  unfold stB
  simp only [List.length_append, List.length_cons, List.length_nil]
  omega
theorem stB_plan (key : BL) (h : key.length ≤ 30) : planL (stB key) = (4, key, key) := by
  have hl : lexR (stB key) = (toksB key, 0) := by
    have hle := stB_le key h
    have e : lexL (stB key) = some (toksB key) := by
      rw [← lexB key]
      unfold stB
      simp only [List.append_assoc, List.cons_append, List.nil_append, List.append_nil]
    unfold lexR
    rw [if_neg (by omega), e]
  unfold planL
  rw [hl, if_pos rfl]
  have ht : textL (toksB key) = form4 := by
    have hw : trimW (wordsL (toksB key)) = toks4.map word1 := by kernel_rfl
    unfold textL
    rw [hw, form4_join]
  unfold ofL
  rw [ht]
  rw [if_neg (by decide), if_neg (by decide), if_neg (by decide), if_pos rfl]
  rfl
/-- / * x * /select v from kv where k= K -/
def stC (key : BL) : BL := [47, 42, 32, 120, 32, 42, 47, 115, 101, 108, 101, 99, 116, 32, 118, 32, 102, 114, 111, 109, 32, 107, 118, 32, 119, 104, 101, 114, 101, 32, 107, 61] ++ qT key
theorem stC_le (key : BL) (h : key.length ≤ 30) : (stC key).length ≤ 160 := by
  have h1 := qT_le key
  unfold stC
  simp only [List.length_append, List.length_cons, List.length_nil]
  omega
theorem stC_plan (key : BL) (h : key.length ≤ 30) : planL (stC key) = (1, key, []) := by
  have hl : lexR (stC key) = (toksC key, 0) := by
    have hle := stC_le key h
    have e : lexL (stC key) = some (toksC key) := by
      rw [← lexC key]
      unfold stC
      simp only [List.append_assoc, List.cons_append, List.nil_append, List.append_nil]
    unfold lexR
    rw [if_neg (by omega), e]
  unfold planL
  rw [hl, if_pos rfl]
  have ht : textL (toksC key) = form1 := by
    have hw : trimW (wordsL (toksC key)) = toks1.map word1 := by kernel_rfl
    unfold textL
    rw [hw, form1_join]
  unfold ofL
  rw [ht]
  rw [if_pos rfl]
  rfl
/-- delete from kv where k =  K ;; -/
def stD (key : BL) : BL := [100, 101, 108, 101, 116, 101, 32, 102, 114, 111, 109, 32, 107, 118, 32, 119, 104, 101, 114, 101, 32, 107, 32, 61, 32] ++ qT key ++ [59, 59]
theorem stD_le (key : BL) (h : key.length ≤ 30) : (stD key).length ≤ 160 := by
  have h1 := qT_le key
  unfold stD
  simp only [List.length_append, List.length_cons, List.length_nil]
  omega
theorem stD_plan (key : BL) (h : key.length ≤ 30) : planL (stD key) = (5, key, []) := by
  have hl : lexR (stD key) = (toksD key, 0) := by
    have hle := stD_le key h
    have e : lexL (stD key) = some (toksD key) := by
      rw [← lexD key]
      unfold stD
      simp only [List.append_assoc, List.cons_append, List.nil_append, List.append_nil]
    unfold lexR
    rw [if_neg (by omega), e]
  unfold planL
  rw [hl, if_pos rfl]
  have ht : textL (toksD key) = form5 := by
    have hw : trimW (wordsL (toksD key)) = toks5.map word1 := by kernel_rfl
    unfold textL
    rw [hw, form5_join]
  unfold ofL
  rw [ht]
  rw [if_neg (by decide), if_neg (by decide), if_neg (by decide), if_neg (by decide), if_pos rfl]
  rfl
theorem is_self (k v : BL) : isL [(k, v)] k = true := by
  rw [is_cons, if_neg (by rw [ltB_irrefl]; simp)]
  simp
theorem wrA (key val : BL) : writesL (3, key, val) [] = ([(key, val)], 1) := by
  have h := writes_p3 (p := (3, key, val)) rfl []
  exact Prod.ext h.1 h.2
theorem wrB (key val : BL) : writesL (4, key, key) [(key, val)] = ([(key, key)], 1) := by
  have h := writes_p4 (p := (4, key, key)) rfl [(key, val)]
  rw [if_pos (is_self key val)] at h
  refine Prod.ext (h.1.trans ?_) h.2
  show chgT key key [(key, val)] = _
  unfold chgT
  rw [if_neg (by rw [ltB_irrefl]; simp), if_pos rfl]
theorem rdC (key : BL) : readsL (1, key, []) [(key, key)] = [key] := by
  rw [reads_get_one, get_cons, if_neg (by rw [ltB_irrefl]; simp), if_pos rfl]
theorem wrD (key : BL) : writesL (5, key, []) [(key, key)] = ([], 1) := by
  have h := writes_del' (p := (5, key, [])) rfl [(key, key)]
  rw [if_pos (is_self key key)] at h
  refine Prod.ext (h.1.trans ?_) h.2
  show delT key [(key, key)] = _
  unfold delT
  rw [if_neg (by rw [ltB_irrefl]; simp), if_pos rfl]
end Go.Proofs.YtmedbdcjniggcaaDoor
