/- Lexing back what was written, in plain words. -/
import Derived.Test.YtgclahlbifbgdaaGreatDoorProg
import Derived.Test.YtgclahlbifbgdaaGreatDoorLexTells
import Derived.Lib.MapLaws
import Derived.KernelRfl
set_option linter.unusedSimpArgs false
set_option linter.unusedVariables false
namespace Go.Proofs.YtgclahlbifbgdaaGreatDoor
open Go Go.Proofs.YtgclahlbifbgdaaGreatDoor.SL Go.RowKit
/-- What may stand between two tokens: it begins with a blank, and leaves no token. -/
def Gap (g : BL) : Prop := (∃ b r, g = b :: r ∧ blankB b = true) ∧ ∀ rest, lexL (g ++ rest) = lexL rest
theorem lexL_blank {b : UInt8} {r : BL} (h : blankB b = true) : lexL (b :: r) = lexL r := by rw [lexL_cons, if_pos h]
theorem blank_ne {b c : UInt8} (h : blankB b = true) (hc : blankB c = false) : b ≠ c := fun e => by subst e; rw [h] at hc; cases hc
/-! ### "*/" -/
def noC : BL → Bool
  | [] => true
  | a :: r => !(decide (a = 42) && (match r with | [] => false | b :: _ => decide (b = 47))) && noC r
theorem noC_eq (a : UInt8) (r : BL) : noC (a :: r) = (!(decide (a = 42) && (match r with | [] => false | b :: _ => decide (b = 47))) && noC r) := rfl
theorem pre_close (a : UInt8) (r : BL) : closesL.isPrefixOf (a :: r) = (decide (a = 42) && (match r with | [] => false | b :: _ => decide (b = 47))) := by
  cases r with
  | nil => simp [closesL, List.isPrefixOf]
  | cons b r =>
    simp only [closesL, List.isPrefixOf, beq_dec, Bool.and_true]
theorem noC_index : ∀ {s : BL}, noC s = true → Lib.index s closesL = -1
  | [], _ => rfl
  | a :: r, h => by
    rw [noC_eq, Bool.and_eq_true] at h
    unfold Lib.index
    have hp : closesL.isPrefixOf (a :: r) = false := by
      rw [pre_close]
      have h1 := h.1
      rw [Bool.not_eq_true'] at h1
      exact h1
    rw [hp, noC_index h.2]; simp
theorem noC_of_index : ∀ {s : BL}, Lib.index s closesL < 0 → noC s = true
  | [], _ => rfl
  | a :: r, h => by
    unfold Lib.index at h
    rw [noC_eq, ← pre_close]
    cases hp : closesL.isPrefixOf (a :: r) with
    | true => rw [hp] at h; simp at h
    | false =>
      rw [hp] at h
      have hge := Lib.index_ge r closesL
      have : Lib.index r closesL < 0 := by
        by_cases hm : Lib.index r closesL = -1
        · omega
        · simp [hm] at h; omega
      simp [noC_of_index this]
theorem contains_noC (s : BL) : Lib.contains s closesL = !noC s := by
  unfold Lib.contains
  have hge := Lib.index_ge s closesL
  cases h : noC s with
  | true => rw [noC_index h]; rfl
  | false =>
    have : ¬ Lib.index s closesL < 0 := fun e => by rw [noC_of_index e] at h; cases h
    simp; omega
theorem noC_snoc {c : UInt8} (hc : c ≠ 47) : ∀ {s : BL}, noC s = true → noC (s ++ [c]) = true
  | [], _ => by simp [noC]
  | a :: r, h => by
    rw [noC_eq, Bool.and_eq_true] at h
    rw [List.cons_append, noC_eq, noC_snoc hc h.2, Bool.and_true]
    cases r with
    | nil => simp [hc]
    | cons b r => exact h.1
theorem noC_cons {c : UInt8} (hc : c ≠ 42) {s : BL} (h : noC s = true) : noC (c :: s) = true := by
  rw [noC_eq, h]; simp [hc]
theorem index_close : ∀ {a : BL} (r : BL), noC (a ++ [42]) = true → Lib.index (a ++ 42 :: 47 :: r) closesL = (a.length : Nat)
  | [], r, _ => by unfold Lib.index; simp [closesL, List.isPrefixOf]
  | x :: a, r, h => by
    rw [List.cons_append, noC_eq, Bool.and_eq_true] at h
    have ih := index_close r h.2
    rw [List.cons_append]
    unfold Lib.index
    have hp : closesL.isPrefixOf (x :: (a ++ 42 :: 47 :: r)) = false := by
      rw [pre_close]
      have h1 := h.1
      cases a with
      | nil => simp
      | cons b a => rw [Bool.not_eq_true'] at h1; exact h1
    rw [hp, ih]
    simp only [Bool.false_eq_true, if_false, List.length_cons]
    rw [if_neg (by simp <;> omega)]; omega
/-! ### remarks -/
theorem rem_line_gap (u : BL) (p : UInt8) (pre : BL) (hu : 10 ∉ u) (hp : (pre = [45, 45] ∨ pre = [35])) (rest : BL) : lexL (32 :: pre ++ u ++ [10] ++ rest) = lexL rest := by
  have hix : ∀ (v : BL), 10 ∉ v → Lib.indexByte (v ++ 10 :: rest) 10 = (v.length : Nat) := by
    intro v
    induction v with
    | nil => intro _; simp [Lib.indexByte]
    | cons a v ih =>
      intro h
      simp only [List.mem_cons, not_or] at h
      have := ih h.2
      rw [List.cons_append]
      unfold Lib.indexByte
      rw [if_neg (by simpa using fun e => h.1 e.symm), this, if_neg (by simp <;> omega)]
      simp
  have h10 : 10 ∉ pre ++ u := by
    rcases hp with rfl | rfl <;> simp [hu]
  have hi := hix (pre ++ u) h10
  have e : 32 :: pre ++ u ++ [10] ++ rest = 32 :: ((pre ++ u) ++ 10 :: rest) := by simp
  rw [e, lexL_blank (by decide)]
  have hl : lexL ((pre ++ u) ++ 10 :: rest) = lexL (10 :: rest) := by
    have hr : remarkL ((pre ++ u) ++ 10 :: rest) = ((pre ++ u).length : Nat) := by
      have h1 : Lib.hasPrefix ((pre ++ u) ++ 10 :: rest) hintsL = false := by
        rcases hp with rfl | rfl <;> simp [Lib.hasPrefix, hintsL, List.isPrefixOf]
      have h2 : Lib.hasPrefix ((pre ++ u) ++ 10 :: rest) opensL = false := by
        rcases hp with rfl | rfl <;> simp [Lib.hasPrefix, opensL, List.isPrefixOf]
      have h3 : (Lib.hasPrefix ((pre ++ u) ++ 10 :: rest) [45, 45] || Lib.hasPrefix ((pre ++ u) ++ 10 :: rest) [35]) = true := by
        rcases hp with rfl | rfl <;> simp [Lib.hasPrefix, List.isPrefixOf]
      rw [remarkL, h1, h2, h3, hi]
      simp only [Bool.false_eq_true, if_false, if_true]
      rw [if_neg (by omega)]
    have hpos : 0 < (pre ++ u).length := by rcases hp with rfl | rfl <;> simp
    obtain ⟨c, r, hcr⟩ : ∃ c r, (pre ++ u) ++ 10 :: rest = c :: r := by
      rcases hp with rfl | rfl <;> exact ⟨_, _, rfl⟩
    have hb : blankB c = false := by
      rcases hp with rfl | rfl <;> (simp at hcr; obtain ⟨rfl, _⟩ := hcr; decide)
    rw [hcr] at hr ⊢
    rw [lexL_cons, hb, hr]
    simp only [Bool.false_eq_true, if_false]
    rw [if_neg (by omega), if_neg (by omega), ← hcr]
    rw [show (((pre ++ u).length : Nat) : Int).toNat = (pre ++ u).length from rfl, List.drop_left]
  rw [hl, lexL_blank (by decide)]
theorem gap1 : Gap [9, 13, 10, 32] := ⟨⟨9, [13, 10, 32], rfl, by decide⟩, fun rest => by
  simp only [List.cons_append, List.nil_append]
  rw [lexL_blank (by decide), lexL_blank (by decide), lexL_blank (by decide), lexL_blank (by decide)]⟩
theorem gap3 {u : BL} (hu : 10 ∉ u) : Gap ([32, 45, 45] ++ u ++ [10]) := ⟨⟨32, _, rfl, by decide⟩, fun rest => rem_line_gap u 0 [45, 45] hu (.inl rfl) rest⟩
theorem gap4 {u : BL} (hu : 10 ∉ u) : Gap ([32, 35] ++ u ++ [10]) := ⟨⟨32, _, rfl, by decide⟩, fun rest => rem_line_gap u 0 [35] hu (.inr rfl) rest⟩
theorem gap2 {s : BL} (hs : Lib.contains s closesL = false) (hp : Lib.hasPrefix s [43] = false) : Gap ([32, 47, 42] ++ s ++ [42, 47, 32]) := by
  refine ⟨⟨32, _, rfl, by decide⟩, fun rest => ?_⟩
  have hn : noC (s ++ [42]) = true := noC_snoc (by decide) (by rw [contains_noC] at hs; simpa using hs)
  have hi := index_close (32 :: rest) hn
  have e : [32, 47, 42] ++ s ++ [42, 47, 32] ++ rest = 32 :: 47 :: 42 :: (s ++ 42 :: 47 :: 32 :: rest) := by simp
  rw [e, lexL_blank (by decide)]
  have h1 : Lib.hasPrefix (47 :: 42 :: (s ++ 42 :: 47 :: 32 :: rest)) hintsL = false := by
    cases s with
    | nil => simp [Lib.hasPrefix, hintsL, List.isPrefixOf]
    | cons a s =>
      simp [Lib.hasPrefix, List.isPrefixOf] at hp
      simp [Lib.hasPrefix, hintsL, List.isPrefixOf]
      exact hp
  have h2 : Lib.hasPrefix (47 :: 42 :: (s ++ 42 :: 47 :: 32 :: rest)) opensL = true := by simp [Lib.hasPrefix, opensL, List.isPrefixOf]
  have hr : remarkL (47 :: 42 :: (s ++ 42 :: 47 :: 32 :: rest)) = ((s.length + 4 : Nat) : Int) := by
    rw [remarkL, h1, h2]
    simp only [Bool.false_eq_true, if_false, if_true, List.drop_succ_cons, List.drop_zero]
    rw [hi, if_neg (by omega)]; omega
  rw [lexL_cons, hr]
  rw [if_neg (by decide), if_neg (by omega), if_neg (by omega)]
  rw [show ((s.length + 4 : Nat) : Int).toNat = s.length + 4 from rfl]
  have e2 : 47 :: 42 :: (s ++ 42 :: 47 :: 32 :: rest) = ([47, 42] ++ s ++ [42, 47]) ++ 32 :: rest := by simp
  rw [e2, List.drop_left' (by simp), lexL_blank (by decide)]
/-! ### tokens -/
theorem quotL_dbl (q : UInt8) : ∀ (s r : BL), (∀ r', r ≠ q :: r') → quotL q (dblL q s ++ q :: r) = some (s, (dblL q s).length + 1)
  | [], r, h => by
    simp only [dblL, List.flatMap_nil, List.nil_append]
    cases r with
    | nil => simp [quotL]
    | cons d r' =>
      have : d ≠ q := fun e => h r' (by rw [e])
      simp [quotL, this]
  | c :: s, r, h => by
    have ih := quotL_dbl q s r h
    have e : dblL q (c :: s) = (if c = q then [q, q] else [c]) ++ dblL q s := by simp [dblL]
    rw [e]
    by_cases hc : c = q
    · subst hc
      rw [if_pos rfl]
      simp only [List.cons_append, List.nil_append]
      unfold quotL
      simp [ih]
    · rw [if_neg hc]
      simp only [List.cons_append, List.nil_append]
      unfold quotL
      rw [if_neg hc, ih]
      simp
theorem trimS_cons (s : BL) : Lib.trimS (32 :: s) [32, 9, 10, 13] = Lib.trimS s [32, 9, 10, 13] := by
  rw [trimS_eq, trimS_eq, trim_swap, trim_swap, List.dropWhile_cons_of_pos (by decide)]
theorem trimS_snoc (s : BL) : Lib.trimS (s ++ [32]) [32, 9, 10, 13] = Lib.trimS s [32, 9, 10, 13] := by
  rw [trimS_eq, trimS_eq, List.reverse_append, List.reverse_singleton, List.singleton_append, List.dropWhile_cons_of_pos (by decide)]
/-- A token, then a gap. -/
theorem lex_one {c : UInt8} {r rest : BL} {t : Tok} {n : Nat} (hb : blankB c = false) (hr : remarkL (c :: r) = 0) (ho : oneL (c :: r) = (t, ((n : Nat) : Int))) (hd : (c :: r).drop n = rest) : lexL (c :: r) = (lexL rest).map (t :: ·) := by
  rw [lexL_cons, hb, hr, ho]
  simp only [Bool.false_eq_true, if_false, if_true]
  rw [if_neg (by omega), show ((n : Nat) : Int).toNat = n from rfl, hd]
theorem rem_ne {x : UInt8} {l : BL} (h1 : x ≠ 47) (h2 : x ≠ 45) (h3 : x ≠ 35) : remarkL (x :: l) = 0 := by
  unfold remarkL hintsL opensL
  simp [pre_cons, h1, h2, h3]
theorem pre_ne {x : UInt8} {l : BL} (h1 : x ≠ 47) : Lib.hasPrefix (x :: l) hintsL = false := by
  unfold hintsL
  simp [pre_cons, h1]
theorem ne_of_nat {x y : UInt8} (h : x.toNat ≠ y.toNat) : x ≠ y := fun e => h (by rw [e])
theorem takeWhile_all' {p : UInt8 → Bool} {s r : BL} {b : UInt8} (hs : s.takeWhile p = s) (hb : p b = false) : (s ++ b :: r).takeWhile p = s := by
  have : ∀ x ∈ s, p x = true := fun x hx => by
    have h := List.all_takeWhile (p := p) (l := s)
    rw [hs] at h
    exact List.all_eq_true.1 h x hx
  rw [List.takeWhile_append_of_pos this, List.takeWhile_cons_of_neg (by simp [hb]), List.append_nil]
theorem tw_len {p : UInt8 → Bool} {s : BL} (h : (s.takeWhile p).length = s.length) : s.takeWhile p = s := (List.takeWhile_prefix p).eq_of_length h
theorem blank_word {b : UInt8} (h : blankB b = true) : wordB b = false ∧ digitB b = false ∧ letterB b = false := by
  simp only [blankB, Bool.or_eq_true, decide_eq_true_eq] at h
  refine ⟨?_, ?_, ?_⟩ <;> (simp only [wordB, letterB, digitB]; simp; omega)
theorem lexN_tok {t : Tok} {g rest : BL} (ht : rightL t = true) (hg : Gap g) : lexL (writeT t ++ g ++ rest) = (lexL rest).map (t :: ·) := by
  obtain ⟨⟨b, gr, rfl, hb⟩, hgl⟩ := hg
  obtain ⟨k, s⟩ := t
  have hgr := hgl rest
  rw [← hgr]
  have hnq : ∀ q : UInt8, blankB q = false → ∀ r', b :: gr ++ rest ≠ q :: r' := fun q hq r' e => by
    simp at e
    exact blank_ne hb hq e.1
  by_cases h2 : k = 2
  · subst h2
    have ew : writeT ((2 : Int), s) ++ b :: gr ++ rest = 34 :: (dblL 34 s ++ 34 :: (b :: gr ++ rest)) := by simp [writeT]
    rw [ew]
    refine lex_one (n := (dblL 34 s).length + 1 + 1) (by decide) (rem_ne (by decide) (by decide) (by decide)) ?_ ?_
    · unfold oneL
      simp only
      rw [pre_ne (by decide)]
      simp only [Bool.false_eq_true, if_false, show letterB 34 = false by decide, show digitB 34 = false by decide]
      rw [if_neg (by decide), if_pos (by decide), quotL_dbl 34 s _ (hnq 34 (by decide))]
    · simp
  by_cases h3 : k = 3
  · subst h3
    have ew : writeT ((3 : Int), s) ++ b :: gr ++ rest = 39 :: (dblL 39 s ++ 39 :: (b :: gr ++ rest)) := by simp [writeT]
    rw [ew]
    refine lex_one (n := (dblL 39 s).length + 1 + 1) (by decide) (rem_ne (by decide) (by decide) (by decide)) ?_ ?_
    · unfold oneL
      simp only
      rw [pre_ne (by decide)]
      simp only [Bool.false_eq_true, if_false, show letterB 39 = false by decide, show digitB 39 = false by decide]
      rw [if_pos (by decide), quotL_dbl 39 s _ (hnq 39 (by decide))]
    · simp
  by_cases h5 : k = 5
  · subst h5
    simp [rightL] at ht
    obtain ⟨hc, htr⟩ := ht
    have hn : noC ((32 :: s ++ [32]) ++ [42]) = true := noC_snoc (by decide) (noC_snoc (by decide) (noC_cons (by decide) (by rw [contains_noC] at hc; simpa using hc)))
    have hi := index_close (b :: gr ++ rest) hn
    have ew : writeT ((5 : Int), s) ++ b :: gr ++ rest = 47 :: 42 :: 43 :: ((32 :: s ++ [32]) ++ 42 :: 47 :: (b :: gr ++ rest)) := by simp [writeT]
    rw [ew]
    have hp : Lib.hasPrefix (47 :: 42 :: 43 :: ((32 :: s ++ [32]) ++ 42 :: 47 :: (b :: gr ++ rest))) hintsL = true := by simp [hintsL, Lib.hasPrefix, List.isPrefixOf]
    refine lex_one (n := s.length + 7) (by decide) (rem_hint hp) ?_ ?_
    · unfold oneL
      simp only
      rw [hp]
      simp only [if_true, List.drop_succ_cons, List.drop_zero]
      rw [hi, if_neg (by omega)]
      have e1 : (((32 :: s ++ [32]).length : Nat) : Int).toNat = (32 :: s ++ [32]).length := rfl
      rw [e1, List.take_left]
      have e2 : Lib.trimS (32 :: s ++ [32]) blanksL = s := by
        rw [show 32 :: s ++ [32] = 32 :: (s ++ [32]) from rfl]
        unfold blanksL at htr ⊢
        rw [trimS_cons, trimS_snoc, htr]
      rw [e2]
      simp
      omega
    · have e3 : 47 :: 42 :: 43 :: ((32 :: s ++ [32]) ++ 42 :: 47 :: (b :: gr ++ rest)) = ([47, 42, 43, 32] ++ s ++ [32, 42, 47]) ++ (b :: gr ++ rest) := by simp
      rw [e3, List.drop_left' (by simp)]
  -- words, numbers, signs
  have h146 : k = 1 ∨ k = 4 ∨ k = 6 := by
    unfold rightL at ht
    simp only at ht
    rw [if_neg (by omega), if_neg h5] at ht
    by_cases h : k = 1 ∨ k = 4 ∨ k = 6
    · exact h
    · rw [if_neg h] at ht; cases ht
  have hright : s ≠ [] ∧ remarkL s = 0 ∧ (oneL s).1 = (k, s) ∧ (oneL s).2 = (s.length : Nat) := by
    unfold rightL at ht
    simp only at ht
    rw [if_neg (by omega), if_neg h5, if_pos h146] at ht
    by_cases h : s = [] ∨ remarkL s ≠ 0
    · rw [if_pos h] at ht; cases ht
    · rw [if_neg h] at ht
      simp at h ht
      exact ⟨h.1, h.2, ht.1, ht.2⟩
  obtain ⟨hne, hrem, ho1, ho2⟩ := hright
  have ew : writeT (k, s) = s := by simp [writeT, h2, h3, h5]
  rw [ew]
  obtain ⟨c, r, rfl⟩ : ∃ c r, s = c :: r := by cases s with
    | nil => exact absurd rfl hne
    | cons c r => exact ⟨c, r, rfl⟩
  obtain ⟨hbw, hbd, hbl⟩ := blank_word hb
  have eA : c :: r ++ b :: gr ++ rest = c :: (r ++ (b :: (gr ++ rest))) := by simp
  have hpf : Lib.hasPrefix (c :: r) hintsL = false := by
    cases hp : Lib.hasPrefix (c :: r) hintsL with
    | false => rfl
    | true =>
      unfold oneL at ho1 ho2
      simp only at ho1 ho2
      rw [hp] at ho1 ho2
      simp only [if_true] at ho1 ho2
      split at ho1
      · simp at ho1 <;> omega
      · simp at ho1 <;> omega
  have hdrop : (c :: (r ++ (b :: (gr ++ rest)))).drop (c :: r).length = b :: gr ++ rest := by
    rw [show c :: (r ++ (b :: (gr ++ rest))) = (c :: r) ++ (b :: (gr ++ rest)) from rfl, List.drop_left]; rfl
  rw [eA]
  cases hl : letterB c with
  | true =>
    have hne47 : c ≠ 47 := fun e => by subst e; cases hl
    have hne45 : c ≠ 45 := fun e => by subst e; cases hl
    have hne35 : c ≠ 35 := fun e => by subst e; cases hl
    have hcb : blankB c = false := by
      cases h : blankB c with
      | false => rfl
      | true => rw [(blank_word h).2.2] at hl; cases hl
    unfold oneL at ho1 ho2
    simp only at ho1 ho2
    rw [hpf, hl] at ho1 ho2
    simp only [Bool.false_eq_true, if_false, if_true] at ho1 ho2
    have htw := tw_len (p := wordB) (s := c :: r) (by omega)
    refine lex_one (n := (c :: r).length) hcb (rem_ne hne47 hne45 hne35) ?_ hdrop
    unfold oneL
    simp only
    rw [pre_ne hne47, hl]
    simp only [Bool.false_eq_true, if_false, if_true]
    have := takeWhile_all' (r := gr ++ rest) htw hbw
    rw [List.cons_append] at this
    rw [this]
    rw [htw] at ho1
    rw [ho1]
  | false =>
  cases hd : digitB c with
  | true =>
    have hne47 : c ≠ 47 := fun e => by subst e; cases hd
    have hne45 : c ≠ 45 := fun e => by subst e; cases hd
    have hne35 : c ≠ 35 := fun e => by subst e; cases hd
    have hcb : blankB c = false := by
      cases h : blankB c with
      | false => rfl
      | true => rw [(blank_word h).2.1] at hd; cases hd
    unfold oneL at ho1 ho2
    simp only at ho1 ho2
    rw [hpf, hl, hd] at ho1 ho2
    simp only [Bool.false_eq_true, if_false, if_true] at ho1 ho2
    have htw := tw_len (p := digitB) (s := c :: r) (by omega)
    refine lex_one (n := (c :: r).length) hcb (rem_ne hne47 hne45 hne35) ?_ hdrop
    unfold oneL
    simp only
    rw [pre_ne hne47, hl, hd]
    simp only [Bool.false_eq_true, if_false, if_true]
    have := takeWhile_all' (r := gr ++ rest) htw hbd
    rw [List.cons_append] at this
    rw [this]
    rw [htw] at ho1
    rw [ho1]
  | false =>
    unfold oneL at ho1 ho2
    simp only at ho1 ho2
    rw [hpf, hl, hd] at ho1 ho2
    simp only [Bool.false_eq_true, if_false] at ho1 ho2
    by_cases h39 : c.toNat = 39
    · rw [if_pos h39] at ho1
      exfalso
      cases hq : quotL c r with
      | none => rw [hq] at ho1; simp at ho1 <;> omega
      | some x => rw [hq] at ho1; simp at ho1 <;> omega
    rw [if_neg h39] at ho1 ho2
    by_cases h34 : c.toNat = 34 ∨ c.toNat = 96
    · rw [if_pos h34] at ho1
      exfalso
      cases hq : quotL c r with
      | none => rw [hq] at ho1; simp at ho1 <;> omega
      | some x => rw [hq] at ho1; simp at ho1 <;> omega
    rw [if_neg h34] at ho1 ho2
    by_cases h33 : 33 ≤ c.toNat ∧ c.toNat ≤ 126
    · rw [if_pos h33] at ho1 ho2
      simp at ho1
      obtain ⟨rfl, rfl⟩ := ho1
      have hcb : blankB c = false := by
        simp only [blankB]; simp; omega
      have hn35 : c ≠ 35 := fun e => by subst e; revert hrem; decide
      have hb42 : b ≠ 42 := blank_ne hb (by decide)
      have hb45 : b ≠ 45 := blank_ne hb (by decide)
      have hp2 : Lib.hasPrefix (c :: ([] ++ (b :: (gr ++ rest)))) hintsL = false := by
        unfold hintsL
        simp [pre_cons, hb42]
      refine lex_one (n := 1) hcb ?_ ?_ ?_
      · unfold remarkL
        rw [hp2]
        unfold opensL
        simp [pre_cons, hb42, hb45, hn35]
      · unfold oneL
        simp only
        rw [hp2, hl, hd]
        simp only [Bool.false_eq_true, if_false]
        rw [if_neg h39, if_neg h34, if_pos h33]
        rfl
      · rfl
    · rw [if_neg h33] at ho2
      simp at ho2
      omega
/-- Tokens, each with a gap behind it, lex back. -/
def gapped (g : BL) (l : List Tok) : BL := l.flatMap fun t => writeT t ++ g
theorem lex_gapped {g : BL} (hg : Gap g) : ∀ {l : List Tok}, l.all rightL = true → lexL (gapped g l) = some l
  | [], _ => rfl
  | t :: l, h => by
    simp only [List.all_cons, Bool.and_eq_true] at h
    have : gapped g (t :: l) = writeT t ++ g ++ gapped g l := by simp [gapped]
    rw [this, lexN_tok h.1 hg, lex_gapped hg h.2]
    rfl
theorem lexR_gapped {g : BL} (hg : Gap g) {l : List Tok} (h : l.all rightL = true) : lexR (gapped g l) = if 200 < (gapped g l).length then ([], 4) else (l, 0) := by
  unfold lexR
  rw [lex_gapped hg h]
end Go.Proofs.YtgclahlbifbgdaaGreatDoor
