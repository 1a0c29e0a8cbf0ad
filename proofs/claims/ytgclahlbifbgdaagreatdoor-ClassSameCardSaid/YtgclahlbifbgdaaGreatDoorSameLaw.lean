/- Remarks, blanks, signs ; at the end, and letters' greatness, in plain words. -/
import Derived.Test.YtgclahlbifbgdaaGreatDoorProg
import Derived.Test.YtgclahlbifbgdaaGreatDoorLexBack
import Derived.Test.YtgclahlbifbgdaaGreatDoorOneLaw
import Derived.Lib.Case
import Derived.KernelRfl
set_option linter.unusedSimpArgs false
set_option linter.unusedVariables false
set_option maxRecDepth 100000
namespace Go.Proofs.YtgclahlbifbgdaaGreatDoor
open Go Go.Proofs.YtgclahlbifbgdaaGreatDoor.SL Go.RowKit
theorem pre_nil (s : BL) : Lib.hasPrefix s [] = true := by simp [Lib.hasPrefix]
/-! ### a blank at the end -/
theorem hasPrefix_b : ∀ {p s : BL}, (32 : UInt8) ∉ p → Lib.hasPrefix (s ++ [32]) p = Lib.hasPrefix s p
  | [], s, _ => by cases s <;> rfl
  | x :: p, [], hp => by
    simp only [List.mem_cons, not_or] at hp
    rw [List.nil_append, pre_cons, decide_eq_false hp.1]; rfl
  | x :: p, c :: s, hp => by
    simp only [List.mem_cons, not_or] at hp
    rw [List.cons_append, pre_cons, pre_cons, hasPrefix_b hp.2]
theorem index_b {s sub : BL} (hp : (32 : UInt8) ∉ sub) (hne : sub ≠ []) : Lib.index (s ++ [32]) sub = Lib.index s sub := by
  rcases Lib.index_spec s sub with ⟨h1, h2⟩ | ⟨i, h1, _⟩
  · rw [h1]
    refine Lib.index_none fun j hj => ?_
    unfold Lib.occAt
    by_cases hle : j ≤ s.length
    · rw [List.drop_append_of_le_length hle]
      have := hasPrefix_b (s := s.drop j) hp
      unfold Lib.hasPrefix at this
      rw [this]
      exact h2 j hle
    · rw [List.drop_eq_nil_of_le (by simp; omega)]
      cases sub with
      | nil => exact absurd rfl hne
      | cons x sub => rfl
  · exact index_app _ (by omega)
theorem takeWhile_b {p : UInt8 → Bool} (hp : p 32 = false) : ∀ {s : BL}, (s ++ [32]).takeWhile p = s.takeWhile p
  | [] => by simp [hp]
  | c :: s => by
    rw [List.cons_append, List.takeWhile_cons, List.takeWhile_cons, takeWhile_b hp]
theorem quot_b {q : UInt8} (hq : q ≠ 32) : ∀ {s : BL}, quotL q (s ++ [32]) = quotL q s
  | [] => by
    rw [List.nil_append]
    unfold quotL
    rw [if_neg (fun e => hq e.symm)]
    rfl
  | [c] => by
    rw [List.cons_append, List.nil_append]
    unfold quotL
    by_cases hc : c = q
    · rw [if_pos hc, if_pos hc]
      simp only
      rw [if_neg (fun e => hq e.symm)]
    · rw [if_neg hc, if_neg hc]
      have := quot_b hq (s := [])
      rw [List.nil_append] at this
      rw [this]
  | c :: d :: s => by
    rw [List.cons_append, List.cons_append]
    unfold quotL
    by_cases hc : c = q
    · rw [if_pos hc, if_pos hc]
      simp only
      by_cases hd : d = q
      · rw [if_pos hd, if_pos hd, quot_b hq]
      · rw [if_neg hd, if_neg hd]
    · rw [if_neg hc, if_neg hc]
      have := quot_b hq (s := d :: s)
      rw [List.cons_append] at this
      rw [this]
theorem indexByte_b : ∀ {s : BL}, Lib.indexByte (s ++ [32]) 10 = Lib.indexByte s 10
  | [] => by decide
  | x :: s => by
    rw [List.cons_append]
    unfold Lib.indexByte
    rw [indexByte_b]
theorem one_b {c : UInt8} {s : BL} (hb : blankB c = false) : oneL (c :: (s ++ [32])) = oneL (c :: s) := by
  have hc : c ≠ 32 := fun e => by subst e; cases hb
  have e0 : c :: (s ++ [32]) = (c :: s) ++ [32] := rfl
  unfold oneL
  simp only
  rw [e0, hasPrefix_b (by decide), takeWhile_b (by decide), takeWhile_b (by decide), quot_b hc]
  by_cases h1 : Lib.hasPrefix (c :: s) hintsL = true
  · rw [if_pos h1, if_pos h1]
    have hlen : 3 ≤ (c :: s).length := by
      obtain ⟨t, ht⟩ := List.isPrefixOf_iff_prefix.1 h1
      rw [← ht]; simp [hintsL]
    rw [List.drop_append_of_le_length hlen, index_b (by decide) (by decide)]
    by_cases h3 : Lib.index ((c :: s).drop 3) closesL < 0
    · rw [if_pos h3, if_pos h3]
    · have hle := index_le ((c :: s).drop 3) closesL (by omega)
      rw [if_neg h3, if_neg h3, List.take_append_of_le_length (by omega)]
  · rw [if_neg h1, if_neg h1]
theorem lex_b : ∀ (n : Nat) {s : BL}, s.length ≤ n → lexL (s ++ [32]) = lexL s
  | n, [], _ => by rw [List.nil_append, lexL_blank (by decide)]
  | 0, c :: s, hn => by simp at hn
  | n + 1, c :: s, hn => by
    simp only [List.length_cons] at hn
    rw [List.cons_append, lexL_cons, lexL_cons]
    by_cases hb : blankB c = true
    · rw [if_pos hb, if_pos hb]
      exact lex_b n (by omega)
    · rw [if_neg hb, if_neg hb]
      have hb' : blankB c = false := by simpa using hb
      rw [one_b hb']
      have e0 : c :: (s ++ [32]) = (c :: s) ++ [32] := rfl
      -- the remark
      by_cases hline : (Lib.hasPrefix (c :: s) hintsL = false ∧ Lib.hasPrefix (c :: s) opensL = false ∧ (Lib.hasPrefix (c :: s) [45, 45] || Lib.hasPrefix (c :: s) [35]) = true ∧ Lib.indexByte (c :: s) 10 < 0)
      · obtain ⟨l1, l2, l3, l4⟩ := hline
        have r1 : remarkL (c :: (s ++ [32])) = ((s.length + 2 : Nat) : Int) := by
          unfold remarkL
          rw [e0, hasPrefix_b (by decide), hasPrefix_b (by decide), hasPrefix_b (by decide), hasPrefix_b (by decide), l1, l2, l3, indexByte_b]
          simp only [Bool.false_eq_true, if_false, if_true]
          rw [if_pos l4]
          simp; omega
        have r2 : remarkL (c :: s) = ((s.length + 1 : Nat) : Int) := by
          unfold remarkL
          rw [l1, l2, l3]
          simp only [Bool.false_eq_true, if_false, if_true]
          rw [if_pos l4]
          simp
        rw [r1, r2, if_neg (by omega), if_neg (by omega), if_neg (by omega), if_neg (by omega)]
        have t1 : (((s.length + 2 : Nat) : Int)).toNat = s.length + 2 := rfl
        have t2 : (((s.length + 1 : Nat) : Int)).toNat = s.length + 1 := rfl
        rw [t1, t2, List.drop_eq_nil_of_le (by simp only [List.length_cons, List.length_append, List.length_nil]; omega), List.drop_eq_nil_of_le (by simp only [List.length_cons]; omega)]
      · have hr : remarkL (c :: (s ++ [32])) = remarkL (c :: s) := by
          unfold remarkL
          rw [e0, hasPrefix_b (by decide), hasPrefix_b (by decide), hasPrefix_b (by decide), hasPrefix_b (by decide), indexByte_b]
          by_cases l1 : Lib.hasPrefix (c :: s) hintsL = true
          · rw [if_pos l1, if_pos l1]
          · rw [if_neg l1, if_neg l1]
            by_cases l2 : Lib.hasPrefix (c :: s) opensL = true
            · rw [if_pos l2, if_pos l2]
              have hlen : 2 ≤ (c :: s).length := by
                obtain ⟨t, ht⟩ := List.isPrefixOf_iff_prefix.1 l2
                rw [← ht]; simp [opensL]
              rw [List.drop_append_of_le_length hlen, index_b (by decide) (by decide)]
            · rw [if_neg l2, if_neg l2]
              by_cases l3 : (Lib.hasPrefix (c :: s) [45, 45] || Lib.hasPrefix (c :: s) [35]) = true
              · rw [if_pos l3, if_pos l3]
                have l4 : ¬ Lib.indexByte (c :: s) 10 < 0 := fun h => hline ⟨by simpa using l1, by simpa using l2, l3, h⟩
                rw [if_neg l4, if_neg l4]
              · rw [if_neg l3, if_neg l3]
        rw [hr]
        by_cases h0 : remarkL (c :: s) = 0
        · rw [if_pos h0, if_pos h0]
          by_cases h1 : (oneL (c :: s)).2 < 0
          · rw [if_pos h1, if_pos h1]
          · rw [if_neg h1, if_neg h1]
            obtain ⟨k1, k2⟩ := oneL_le (c := c) (r := s) (by omega)
            rw [e0, List.drop_append_of_le_length k2, lex_b n (by rw [List.length_drop, List.length_cons]; omega)]
        · rw [if_neg h0, if_neg h0]
          by_cases h1 : remarkL (c :: s) < 0
          · rw [if_pos h1, if_pos h1]
          · rw [if_neg h1, if_neg h1]
            have hle := remarkL_le c s
            rw [e0, List.drop_append_of_le_length (by omega)]
            exact lex_b n (by rw [List.length_drop, List.length_cons]; omega)
/-! ### texts that are begun -/
/-- A text that has these tokens, whatever stands behind it. -/
def LexPre (acc : BL) (ts : List Tok) : Prop := ∀ rest, lexL (acc ++ rest) = (lexL rest).map (ts ++ ·)
theorem LexPre.nil : LexPre [] [] := fun rest => by
  rw [List.nil_append]; cases lexL rest <;> rfl
theorem LexPre.step {acc p : BL} {ts : List Tok} {t : Tok} (h : LexPre acc ts) (hp : ∀ rest, lexL (p ++ rest) = (lexL rest).map (t :: ·)) : LexPre (acc ++ p) (ts ++ [t]) := fun rest => by
  rw [List.append_assoc, h, hp]
  cases lexL rest <;> simp
theorem LexPre.lex {acc : BL} {ts : List Tok} (h : LexPre acc ts) : lexL acc = some ts := by
  have := h []
  rw [List.append_nil, lexL_nil] at this
  simpa using this
theorem gapB {b : UInt8} (h : blankB b = true) : Gap [b] := ⟨⟨b, [], rfl, h⟩, fun rest => lexL_blank h⟩
theorem piece_plain {t : Tok} (ht : rightL t = true) (rest : BL) : lexL (writeT t ++ [32] ++ rest) = (lexL rest).map (t :: ·) := lexN_tok ht (gapB (by decide))
theorem lex_remark (y : BL) : lexL ([47, 42, 59, 42, 47] ++ y) = lexL y := by
  have hi : Lib.index (([47, 42, 59, 42, 47] ++ y).drop 2) closesL = 1 := by
    have := index_close (a := [59]) y (by decide)
    simpa using this
  have hr : remarkL ([47, 42, 59, 42, 47] ++ y) = 5 := by
    unfold remarkL
    rw [hi]
    unfold hintsL opensL
    simp [pre_cons, pre_nil]
  rw [show ([47, 42, 59, 42, 47] ++ y : BL) = 47 :: ([42, 59, 42, 47] ++ y) from rfl] at hr ⊢
  rw [lexL_cons, if_neg (by decide), hr]
  rfl
theorem piece_wide {t : Tok} (ht : rightL t = true) (rest : BL) : lexL ([47, 42, 59, 42, 47] ++ writeT t ++ [10] ++ rest) = (lexL rest).map (t :: ·) := by
  have : ([47, 42, 59, 42, 47] ++ writeT t ++ [10] ++ rest : BL) = [47, 42, 59, 42, 47] ++ (writeT t ++ [10] ++ rest) := by simp
  rw [this, lex_remark]
  exact lexN_tok ht (gapB (by decide))
theorem byte_all {p : UInt8 → Bool} (h : ((List.range 256).all fun i => p (UInt8.ofNat i)) = true) (c : UInt8) : p c = true := by
  have := List.all_eq_true.1 h c.toNat (List.mem_range.2 (UInt8.toNat_lt c))
  simpa using this
theorem lower_all (c : UInt8) : greatB (Lib.lowerB c) = greatB c ∧ letterB (Lib.lowerB c) = letterB c ∧ wordB (Lib.lowerB c) = wordB c := by
  have := byte_all (p := fun c => (greatB (Lib.lowerB c) == greatB c) && (letterB (Lib.lowerB c) == letterB c) && (wordB (Lib.lowerB c) == wordB c)) (by decide +kernel) c
  simp only [Bool.and_eq_true, beq_iff_eq] at this
  exact ⟨this.1.1, this.1.2, this.2⟩
theorem one_word {l : BL} (h : (oneL l).1.1 = 1) : ∃ c r, l = c :: r ∧ letterB c = true ∧ oneL l = ((1, greatL (l.takeWhile wordB)), (((l.takeWhile wordB).length : Nat) : Int)) := by
  cases l with
  | nil => simp [oneL] at h
  | cons c r =>
    refine ⟨c, r, rfl, ?_⟩
    unfold oneL at h ⊢
    simp only at h ⊢
    by_cases h1 : Lib.hasPrefix (c :: r) hintsL = true
    · rw [if_pos h1] at h; split at h <;> simp at h
    · rw [if_neg h1] at h ⊢
      by_cases h2 : letterB c = true
      · rw [if_pos h2]; exact ⟨h2, rfl⟩
      · rw [if_neg h2] at h
        repeat' split at h
        all_goals simp at h
theorem word_right {t : Tok} (ht : rightL t = true) (hk : t.1 = 1) : ∃ c r, t.2 = c :: r ∧ letterB c = true ∧ (∀ x ∈ t.2, wordB x = true) ∧ greatL t.2 = t.2 := by
  unfold rightL at ht
  rw [if_neg (by omega), if_neg (by omega), if_pos (by omega)] at ht
  by_cases h0 : t.2 = [] ∨ remarkL t.2 ≠ 0
  · rw [if_pos h0] at ht; cases ht
  · rw [if_neg h0] at ht
    simp only [Bool.and_eq_true, decide_eq_true_eq] at ht
    obtain ⟨h1, h2⟩ := ht
    obtain ⟨c, r, e, hc, ho⟩ := one_word (l := t.2) (by rw [h1, hk])
    rw [ho] at h1 h2
    simp only at h1 h2
    have htw : t.2.takeWhile wordB = t.2 := tw_len (by omega)
    rw [htw] at h1
    refine ⟨c, r, e, hc, fun x hx => ?_, ?_⟩
    · rw [← htw] at hx
      exact List.all_eq_true.1 (List.all_takeWhile (p := wordB)) x hx
    · exact congrArg Prod.snd h1
theorem piece_low {t : Tok} (ht : rightL t = true) (hk : t.1 = 1) (rest : BL) : lexL (Lib.toLowerA (writeT t) ++ [32] ++ rest) = (lexL rest).map (t :: ·) := by
  have hw : writeT t = t.2 := by unfold writeT; rw [if_neg (by omega), if_neg (by omega), if_neg (by omega)]
  obtain ⟨c, r, e, hc, hall, hg⟩ := word_right ht hk
  rw [hw]
  obtain ⟨k, s⟩ := t
  simp only at hk e hall hg ⊢
  subst hk
  have hl : ∀ x ∈ Lib.toLowerA s, wordB x = true := fun x hx => by
    obtain ⟨y, hy, rfl⟩ := List.mem_map.1 hx
    rw [(lower_all y).2.2]; exact hall y hy
  have hgl : greatL (Lib.toLowerA s) = s := by
    have : greatL (Lib.toLowerA s) = greatL s := by
      unfold greatL Lib.toLowerA
      rw [List.map_map]
      exact List.map_congr_left fun x _ => (lower_all x).1
    rw [this, hg]
  have hlen : (Lib.toLowerA s).length = s.length := by simp [Lib.toLowerA]
  have hhead : ∃ c' r', Lib.toLowerA s = c' :: r' ∧ letterB c' = true := by
    rw [e]
    exact ⟨Lib.lowerB c, r.map Lib.lowerB, rfl, by rw [(lower_all c).2.1]; exact hc⟩
  generalize Lib.toLowerA s = u at hl hgl hlen hhead
  obtain ⟨c', r', rfl, hc'⟩ := hhead
  have hb : blankB c' = false := by
    cases hb : blankB c' with
    | false => rfl
    | true => rw [(blank_word hb).2.2] at hc'; cases hc'
  have hn : c' ≠ 47 ∧ c' ≠ 45 ∧ c' ≠ 35 := by
    refine ⟨?_, ?_, ?_⟩ <;> (intro e; subst e; revert hc'; decide)
  have htw : ((c' :: r') ++ 32 :: rest).takeWhile wordB = c' :: r' := by
    have := List.takeWhile_append_of_pos (l₂ := 32 :: rest) hl
    rw [this, List.takeWhile_cons_of_neg (by decide), List.append_nil]
  have e1 : (c' :: r') ++ [32] ++ rest = c' :: (r' ++ 32 :: rest) := by simp
  rw [e1]
  have e2 : c' :: (r' ++ 32 :: rest) = (c' :: r') ++ 32 :: rest := rfl
  have ho : oneL (c' :: (r' ++ 32 :: rest)) = ((1, s), ((s.length : Nat) : Int)) := by
    unfold oneL
    simp only
    rw [pre_ne hn.1, if_pos hc', e2, htw, hgl, hlen]
    simp
  rw [lex_one hb (rem_ne hn.1 hn.2.1 hn.2.2) ho (rest := 32 :: rest) (by rw [e2, ← hlen, List.drop_left]), lexL_blank (by decide)]
/-! ### what the law writes -/
def lowT (t : Tok) : BL := if t.1 = 1 then Lib.toLowerA (writeT t) else writeT t
theorem lowT_len (t : Tok) : (lowT t).length = (writeT t).length := by unfold lowT; split <;> simp [Lib.toLowerA]
def smallL (l : List Tok) : BL := l.flatMap fun t => lowT t ++ [32]
theorem smallL_succ {l : List Tok} {k : Nat} {x : Tok} (h : l[k]? = some x) : smallL (l.take (k + 1)) = smallL (l.take k) ++ (lowT x ++ [32]) := by
  rw [List.take_add_one, h]; simp [smallL]
theorem small_pre : ∀ {l : List Tok}, l.all rightL = true → LexPre (smallL l) l
  | [], _ => LexPre.nil
  | t :: l, h => fun rest => by
    simp only [List.all_cons, Bool.and_eq_true] at h
    have e : smallL (t :: l) ++ rest = lowT t ++ [32] ++ (smallL l ++ rest) := by simp [smallL]
    have hp : ∀ rest, lexL (lowT t ++ [32] ++ rest) = (lexL rest).map (t :: ·) := fun rest => by
      unfold lowT
      by_cases hk : t.1 = 1
      · rw [if_pos hk]; exact piece_low h.1 hk rest
      · rw [if_neg hk]; exact piece_plain h.1 rest
    rw [e, hp, small_pre h.2]
    cases lexL rest <;> simp
theorem write_gap : ∀ (l : List Tok), l ≠ [] → writeL l ++ [32] = gapped [32] l
  | [], h => absurd rfl h
  | [t], _ => by simp [writeL, gapped, Lib.join, List.intercalate]
  | t :: u :: l, _ => by
    have ih := write_gap (u :: l) (by simp)
    have e : writeL (t :: u :: l) = writeT t ++ ([32] ++ writeL (u :: l)) := by
      unfold writeL
      rw [List.map_cons, List.map_cons, join_cons2]
    rw [e, List.append_assoc, List.append_assoc, ih]
    simp [gapped]
theorem gap_pre : ∀ {l : List Tok}, l.all rightL = true → LexPre (gapped [32] l) l
  | [], _ => LexPre.nil
  | t :: l, h => fun rest => by
    simp only [List.all_cons, Bool.and_eq_true] at h
    have e : gapped [32] (t :: l) ++ rest = writeT t ++ [32] ++ (gapped [32] l ++ rest) := by simp [gapped]
    rw [e, piece_plain h.1, gap_pre h.2]
    cases lexL rest <;> simp
theorem write_pre {l : List Tok} (h : l.all rightL = true) : LexPre (writeL l ++ [32]) l := by
  cases l with
  | nil =>
      intro rest
      have : writeL [] ++ [32] ++ rest = 32 :: rest := rfl
      rw [this, lexL_blank (by decide)]
      cases lexL rest <;> rfl
  | cons t l => rw [write_gap _ (by simp)]; exact gap_pre h
theorem write_lex {l : List Tok} (h : l.all rightL = true) : lexL (writeL l) = some l := by
  rw [← lex_b _ (Nat.le_refl (writeL l).length)]
  exact (write_pre h).lex
theorem gapped_small (l : List Tok) : (smallL l).length = (gapped [32] l).length := by
  induction l with
  | nil => rfl
  | cons t l ih =>
    have e1 : smallL (t :: l) = lowT t ++ [32] ++ smallL l := by simp [smallL]
    have e2 : gapped [32] (t :: l) = writeT t ++ [32] ++ gapped [32] l := by simp [gapped]
    rw [e1, e2]
    simp only [List.length_append, ih, lowT_len]
theorem gapped_len_le (l : List Tok) : (gapped [32] l).length ≤ (writeL l).length + 1 := by
  by_cases h : l = []
  · subst h; simp [gapped]
  · rw [← write_gap l h]; simp
theorem gapped_take (l : List Tok) (k : Nat) : (gapped [32] (l.take k)).length ≤ (gapped [32] l).length := by
  have : gapped [32] l = gapped [32] (l.take k) ++ gapped [32] (l.drop k) := by
    unfold gapped
    rw [← List.flatMap_append, List.take_append_drop]
  rw [this]; simp
theorem len_gapped (l : List Tok) : l.length ≤ (gapped [32] l).length := by
  induction l with
  | nil => simp
  | cons t l ih =>
    have e2 : gapped [32] (t :: l) = writeT t ++ [32] ++ gapped [32] l := by simp [gapped]
    rw [e2]
    simp only [List.length_append, List.length_cons, List.length_nil]
    omega
theorem gapped_succ' {l : List Tok} {k : Nat} {x : Tok} (h : l[k]? = some x) : gapped [32] (l.take (k + 1)) = gapped [32] (l.take k) ++ (writeT x ++ [32]) := by
  rw [List.take_add_one, h]; simp [gapped]
/-! ### classes -/
theorem class_of {x : BL} {l : List Tok} (h : lexL x = some l) (hx : x.length ≤ 200) : classL x = tokN 201 (trimE (noHints l)) := by
  have e : lexR x = (l, 0) := by
    unfold lexR
    rw [if_neg (by omega), h]
  unfold classL
  rw [e, if_pos rfl]
theorem tokN_ne : ∀ (f : Nat) (l : List Tok), tokN f l ≠ 0
  | 0, l => by show (7 : Int) ≠ 0; decide
  | f + 1, l => by
    have ih := tokN_ne f (l.drop 2)
    generalize hg : tokN f (l.drop 2) = g at ih
    rw [tokN_succ, hg]
    split
    · decide
    split
    · decide
    split
    · split
      · split
        · exact ih
        · decide
      · decide
    split
    · decide
    split
    · unfold asksL
      split
      · decide
      · split <;> decide
    split
    · unfold beginL; split <;> decide
    split
    · unfold startL; split <;> decide
    split
    · unfold endsL; split <;> decide
    split
    · unfold endsL; split <;> decide
    split
    · unfold setL; split <;> decide
    decide
theorem class_ne {x : BL} {l : List Tok} (h : lexL x = some l) (hx : x.length ≤ 200) : classL x ≠ 0 := by
  rw [class_of h hx]; exact tokN_ne _ _
theorem class_signs {l : List Tok} (h : l.all rightL = true) (hl : (writeL l).length ≤ 150) : classL (writeL l ++ [32, 59, 32, 59]) = classL (writeL l) := by
  have e : lexL (writeL l ++ [32, 59, 32, 59]) = some (l ++ [signL, signL]) := by
    have := write_pre h [59, 32, 59]
    rw [lex_semi, lexL_blank (by decide), lex_semi, lexL_nil] at this
    have e2 : writeL l ++ [32] ++ [59, 32, 59] = writeL l ++ [32, 59, 32, 59] := by simp
    rw [e2] at this
    simpa using this
  rw [class_of e (by simp; omega), class_of (write_lex h) (by omega)]
  have : noHints (l ++ [signL, signL]) = (noHints l ++ [signL]) ++ [signL] := by
    unfold noHints
    rw [List.filter_append, List.append_assoc]
    rfl
  rw [this, trimE_snoc, if_pos rfl, trimE_snoc, if_pos rfl]
theorem class_remark {l : List Tok} (h : l.all rightL = true) (hl : (writeL l).length ≤ 150) : classL ([45, 45, 32, 120, 10] ++ writeL l) = classL (writeL l) := by
  have e : lexL ([45, 45, 32, 120, 10] ++ writeL l) = some l := by
    have hr : remarkL (45 :: ([45, 32, 120, 10] ++ writeL l)) = 4 := by
      unfold remarkL hintsL opensL
      have hi : Lib.indexByte (45 :: ([45, 32, 120, 10] ++ writeL l)) 10 = 4 := by
        have := (indexByte_app (c := 10) (s := [45, 45, 32, 120, 10]) (writeL l) (by decide)).1
        rw [show (45 :: ([45, 32, 120, 10] ++ writeL l) : BL) = [45, 45, 32, 120, 10] ++ writeL l from rfl, this]
        decide
      rw [hi]
      simp [pre_cons, pre_nil]
    rw [show ([45, 45, 32, 120, 10] ++ writeL l : BL) = 45 :: ([45, 32, 120, 10] ++ writeL l) from rfl, lexL_cons, if_neg (by decide), hr, if_neg (by decide), if_neg (by decide)]
    show lexL (10 :: writeL l) = _
    rw [lexL_blank (by decide)]
    exact write_lex h
  rw [class_of e (by simp; omega), class_of (write_lex h) (by omega)]
theorem class_small {l : List Tok} (h : l.all rightL = true) (hl : (writeL l).length ≤ 150) : classL (smallL l) = classL (writeL l) := by
  have := gapped_len_le l
  have := gapped_small l
  rw [class_of (small_pre h).lex (by omega), class_of (write_lex h) (by omega)]
theorem class_wide {l : List Tok} (h : l.all rightL = true) (hl : (writeL l).length ≤ 150) {W : BL} (hw : LexPre W l) (hW : W.length ≤ 200) : classL W = classL (writeL l) := by
  rw [class_of hw.lex hW, class_of (write_lex h) (by omega)]
end Go.Proofs.YtgclahlbifbgdaaGreatDoor
