/- Two statements behind one another, in plain words. -/
import Derived.Test.YtgclahlbifbgdaaGreatDoorProg
import Derived.Test.YtgclahlbifbgdaaGreatDoorSafeLaw
import Derived.KernelRfl
set_option linter.unusedSimpArgs false
set_option linter.unusedVariables false
set_option maxRecDepth 100000
namespace Go.Proofs.YtgclahlbifbgdaaGreatDoor
open Go Go.Proofs.YtgclahlbifbgdaaGreatDoor.SL Go.RowKit
/-- A text that ends with a line's end. -/
def Nl (s : BL) : Prop := ∃ a, s = a ++ [10]
theorem Nl.drop {s : BL} (h : Nl s) (k : Nat) : s.drop k = [] ∨ Nl (s.drop k) := by
  obtain ⟨a, rfl⟩ := h
  by_cases hk : k ≤ a.length
  · exact .inr ⟨a.drop k, by rw [List.drop_append_of_le_length hk]⟩
  · left
    rw [List.drop_eq_nil_iff]
    simp; omega
theorem Nl.tail {c : UInt8} {r : BL} (h : Nl (c :: r)) (hc : c ≠ 10) : Nl r := by
  obtain ⟨a, ha⟩ := h
  cases a with
  | nil => simp at ha; exact absurd ha.1 hc
  | cons x a => simp only [List.cons_append, List.cons.injEq] at ha; exact ⟨a, ha.2⟩
theorem Nl.ne {s : BL} (h : Nl s) : s ≠ [] := by obtain ⟨a, rfl⟩ := h; simp
theorem takeWhile_app {p : UInt8 → Bool} (hp : p 10 = false) : ∀ {s : BL} (r : BL), Nl s → (s ++ r).takeWhile p = s.takeWhile p
  | [], r, h => absurd rfl h.ne
  | c :: s, r, h => by
    rw [List.cons_append, List.takeWhile_cons, List.takeWhile_cons]
    by_cases hc : c = 10
    · subst hc; rw [hp]; rfl
    · rw [takeWhile_app hp r (h.tail hc)]
theorem hasPrefix_app : ∀ {p s : BL} (r : BL), (10 : UInt8) ∉ p → Nl s → Lib.hasPrefix (s ++ r) p = Lib.hasPrefix s p
  | [], s, r, _, _ => by cases s <;> cases r <;> rfl
  | x :: p, [], r, _, h => absurd rfl h.ne
  | x :: p, c :: s, r, hp, h => by
    simp only [List.mem_cons, not_or] at hp
    rw [List.cons_append, pre_cons, pre_cons]
    by_cases hc : c = 10
    · subst hc
      rw [decide_eq_false hp.1]; rfl
    · rw [hasPrefix_app r hp.2 (h.tail hc)]
theorem index_app {s sub : BL} (r : BL) (h : 0 ≤ Lib.index s sub) : Lib.index (s ++ r) sub = Lib.index s sub := by
  have hroom := Lib.index_room s sub h
  rcases Lib.index_spec s sub with ⟨h1, _⟩ | ⟨i, h1, h2, h3, h4⟩
  · omega
  · rw [h1]
    have same (j : Nat) (hj : j ≤ i) : Lib.occAt (s ++ r) sub j = Lib.occAt s sub j := by
      unfold Lib.occAt
      have hjl : j + sub.length ≤ s.length := by omega
      rw [List.drop_append_of_le_length (by omega)]
      have hd : sub.length ≤ (s.drop j).length := by rw [List.length_drop]; omega
      generalize s.drop j = t at hd
      clear h h1 h2 h3 h4 hroom hjl hj
      induction sub generalizing t with
      | nil => cases t <;> rfl
      | cons x sub ih =>
        cases t with
        | nil => simp at hd
        | cons y t => 
          simp only [List.cons_append, List.isPrefixOf]
          rw [ih t (by simpa using hd)]
    exact Lib.index_first (by simp; omega) (by rw [same i (Nat.le_refl _)]; exact h3) (fun j hj => by rw [same j (by omega)]; exact h4 j hj)
theorem indexByte_app {c : UInt8} : ∀ {s : BL} (r : BL), c ∈ s → Lib.indexByte (s ++ r) c = Lib.indexByte s c ∧ 0 ≤ Lib.indexByte s c
  | [], r, h => by simp at h
  | x :: s, r, h => by
    rw [List.cons_append]
    unfold Lib.indexByte
    by_cases hx : x = c
    · simp [hx]
    · have hm : c ∈ s := by
        rcases List.mem_cons.1 h with e | e
        · exact absurd e.symm hx
        · exact e
      obtain ⟨h1, h2⟩ := indexByte_app (s := s) r hm
      rw [h1]
      refine ⟨rfl, ?_⟩
      have hb : (x == c) = false := by simpa using hx
      have hn : (Lib.indexByte s c == -1) = false := by
        cases hq : (Lib.indexByte s c == -1) with
        | false => rfl
        | true => have : Lib.indexByte s c = -1 := by simpa using hq
                  omega
      simp [hb, hn]
      omega
theorem quot_app {q : UInt8} (hq : q ≠ 10) : ∀ {s t : BL} {n : Nat} (r : BL), Nl s → quotL q s = some (t, n) → quotL q (s ++ r) = some (t, n)
  | [], t, n, r, h, _ => absurd rfl h.ne
  | c :: s, t, n, r, h, e => by
    rw [List.cons_append]
    by_cases hc : c = q
    · subst hc
      have hs := h.tail hq
      cases s with
      | nil => exact absurd rfl hs.ne
      | cons d s =>
        rw [List.cons_append]
        unfold quotL at e ⊢
        simp only [if_true] at e ⊢
        by_cases hd : d = c
        · simp only [hd, if_true] at e ⊢
          subst hd
          cases hu : quotL d s with
          | none => rw [hu] at e; cases e
          | some x =>
            rw [quot_app hq r (hs.tail hq) (t := x.1) (n := x.2) hu]
            rw [hu] at e
            exact e
        · simp only [if_neg hd] at e ⊢
          exact e
    · unfold quotL at e ⊢
      simp only [if_neg hc] at e ⊢
      by_cases h10 : s = []
      · subst h10; simp [quotL] at e
      · have hs : Nl s := by
          obtain ⟨a, ha⟩ := h
          cases a with
          | nil => simp at ha; exact absurd ha.2 h10
          | cons x a => simp only [List.cons_append, List.cons.injEq] at ha; exact ⟨a, ha.2⟩
        cases hu : quotL q s with
        | none => rw [hu] at e; cases e
        | some x =>
          rw [quot_app hq r hs (t := x.1) (n := x.2) hu]
          rw [hu] at e
          exact e
theorem Nl.mem {s : BL} (h : Nl s) : (10 : UInt8) ∈ s := by obtain ⟨a, rfl⟩ := h; simp
theorem Nl.dropIf {s : BL} (h : Nl s) {k : Nat} (hk : k < s.length) : Nl (s.drop k) := by
  rcases h.drop k with e | e
  · rw [List.drop_eq_nil_iff] at e; omega
  · exact e
theorem remark_app {s : BL} (r : BL) (h : Nl s) (hn : ¬ remarkL s < 0) : remarkL (s ++ r) = remarkL s := by
  unfold remarkL at hn ⊢
  rw [hasPrefix_app r (by decide) h, hasPrefix_app r (by decide) h, hasPrefix_app r (by decide) h, hasPrefix_app r (by decide) h]
  by_cases h1 : Lib.hasPrefix s hintsL = true
  · rw [if_pos h1, if_pos h1]
  · rw [if_neg h1] at hn ⊢
    rw [if_neg h1]
    by_cases h2 : Lib.hasPrefix s opensL = true
    · rw [if_pos h2] at hn ⊢
      rw [if_pos h2]
      by_cases h3 : Lib.index (s.drop 2) closesL < 0
      · rw [if_pos h3] at hn; omega
      · have hlen : 2 ≤ s.length := by
          obtain ⟨t, ht⟩ := List.isPrefixOf_iff_prefix.1 h2
          rw [← ht]; simp [opensL]
        rw [List.drop_append_of_le_length hlen, index_app r (by omega)]
    · rw [if_neg h2, if_neg h2]
      by_cases h4 : (Lib.hasPrefix s [45, 45] || Lib.hasPrefix s [35]) = true
      · rw [if_pos h4, if_pos h4]
        obtain ⟨e1, e2⟩ := indexByte_app r h.mem
        rw [e1, if_neg (by omega), if_neg (by omega)]
      · rw [if_neg h4, if_neg h4]
theorem one_app {c : UInt8} {s : BL} (r : BL) (h : Nl (c :: s)) (hb : blankB c = false) (hn : ¬ (oneL (c :: s)).2 < 0) : oneL (c :: (s ++ r)) = oneL (c :: s) := by
  have hc : c ≠ 10 := fun e => by subst e; cases hb
  have hs : Nl s := h.tail hc
  have e0 : c :: (s ++ r) = (c :: s) ++ r := rfl
  unfold oneL at hn ⊢
  simp only at hn ⊢
  rw [e0, hasPrefix_app r (by decide) h]
  by_cases h1 : Lib.hasPrefix (c :: s) hintsL = true
  · rw [if_pos h1] at hn ⊢
    rw [if_pos h1]
    by_cases h3 : Lib.index ((c :: s).drop 3) closesL < 0
    · rw [if_pos h3] at hn; simp at hn
    · have hlen : 3 ≤ (c :: s).length := by
        obtain ⟨t, ht⟩ := List.isPrefixOf_iff_prefix.1 h1
        rw [← ht]; simp [hintsL]
      have hr := index_app (s := (c :: s).drop 3) (sub := closesL) r (by omega)
      have hle := index_le ((c :: s).drop 3) closesL (by omega)
      rw [List.drop_append_of_le_length hlen, hr, if_neg h3, if_neg h3, List.take_append_of_le_length (by omega)]
  · rw [if_neg h1] at hn ⊢
    rw [if_neg h1]
    by_cases h2 : letterB c = true
    · rw [if_pos h2, if_pos h2, takeWhile_app (by decide) r h]
    · rw [if_neg h2] at hn ⊢
      rw [if_neg h2]
      by_cases h3 : digitB c = true
      · rw [if_pos h3, if_pos h3, takeWhile_app (by decide) r h]
      · rw [if_neg h3] at hn ⊢
        rw [if_neg h3]
        by_cases h4 : c.toNat = 39
        · rw [if_pos h4] at hn ⊢
          rw [if_pos h4]
          cases hq : quotL c s with
          | none => rw [hq] at hn; simp at hn
          | some x => rw [quot_app hc r hs (t := x.1) (n := x.2) hq]
        · rw [if_neg h4] at hn ⊢
          rw [if_neg h4]
          by_cases h5 : c.toNat = 34 ∨ c.toNat = 96
          · rw [if_pos h5] at hn ⊢
            rw [if_pos h5]
            cases hq : quotL c s with
            | none => rw [hq] at hn; simp at hn
            | some x => rw [quot_app hc r hs (t := x.1) (n := x.2) hq]
          · rw [if_neg h5, if_neg h5]
theorem lex_app : ∀ (n : Nat) {s : BL} {l : List Tok} (r : BL), s.length ≤ n → (s = [] ∨ Nl s) → lexL s = some l → lexL (s ++ r) = (lexL r).map (l ++ ·)
  | n, [], l, r, _, _, e => by
    rw [lexL_nil] at e; cases e
    rw [List.nil_append]
    cases lexL r <;> rfl
  | 0, c :: s, l, r, hn, _, e => by simp at hn
  | n + 1, c :: s, l, r, hn, h, e => by
    have h : Nl (c :: s) := by rcases h with h | h; cases h; exact h
    simp only [List.length_cons] at hn
    rw [List.cons_append, lexL_cons]
    rw [lexL_cons] at e
    by_cases hb : blankB c = true
    · rw [if_pos hb] at e ⊢
      refine lex_app n r (by omega) ?_ e
      rcases h.drop 1 with e1 | e1
      · exact .inl e1
      · exact .inr e1
    · rw [if_neg hb] at e ⊢
      have hb' : blankB c = false := by simpa using hb
      have hneg : ¬ remarkL (c :: s) < 0 := fun hh => by
        by_cases h0 : remarkL (c :: s) = 0
        · omega
        · rw [if_neg h0, if_pos hh] at e; cases e
      have er := remark_app r h hneg
      rw [List.cons_append] at er
      rw [er]
      by_cases h0 : remarkL (c :: s) = 0
      · rw [if_pos h0] at e ⊢
        by_cases h1 : (oneL (c :: s)).2 < 0
        · rw [if_pos h1] at e; cases e
        · rw [one_app r h hb' h1, if_neg h1]
          rw [if_neg h1] at e
          obtain ⟨k1, k2⟩ := oneL_le (c := c) (r := s) (by omega)
          rw [show c :: (s ++ r) = (c :: s) ++ r from rfl, List.drop_append_of_le_length k2]
          cases hu : lexL ((c :: s).drop (oneL (c :: s)).2.toNat) with
          | none => rw [hu] at e; cases e
          | some us =>
            rw [hu] at e
            cases e
            rw [lex_app n r (by rw [List.length_drop, List.length_cons]; omega) (h.drop _) hu]
            cases lexL r <;> rfl
      · rw [if_neg h0, if_neg hneg] at e ⊢
        have hle := remarkL_le c s
        rw [show c :: (s ++ r) = (c :: s) ++ r from rfl, List.drop_append_of_le_length (by omega)]
        exact lex_app n r (by rw [List.length_drop, List.length_cons]; omega) (h.drop _) e
theorem lex_semi (b : BL) : lexL (59 :: b) = (lexL b).map (signL :: ·) := by
  have hr : remarkL (59 :: b) = 0 := by
    unfold remarkL hintsL opensL
    rw [pre_cons, pre_cons, pre_cons, pre_cons]
    rfl
  have ho : oneL (59 :: b) = (signL, 1) := by
    unfold oneL hintsL
    simp only
    rw [pre_cons]
    rfl
  rw [lexL_cons, if_neg (by decide), hr, if_pos rfl, ho, if_neg (by decide)]
  rfl
theorem trim_sign {x m : List Tok} (h : ∃ t ∈ m, t ≠ signL) : signL ∈ trimE (x ++ signL :: m) := by
  obtain ⟨k, hk⟩ := trimE_split (x ++ signL :: m)
  obtain ⟨t, ht, hts⟩ := h
  obtain ⟨p, hp⟩ := List.getElem?_of_mem ht
  have e1 : (x ++ signL :: m)[x.length + 1 + p]? = some t := by
    rw [List.getElem?_append_right (by omega), show x.length + 1 + p - x.length = p + 1 by omega, List.getElem?_cons_succ]
    exact hp
  have e2 : (x ++ signL :: m)[x.length]? = some signL := by
    rw [List.getElem?_append_right (by omega)]; simp
  have hlt : x.length + 1 + p < (trimE (x ++ signL :: m)).length := by
    rcases Nat.lt_or_ge (x.length + 1 + p) (trimE (x ++ signL :: m)).length with h | h
    · exact h
    · rw [hk, List.getElem?_append_right h, List.getElem?_replicate] at e1
      split at e1
      · cases e1; exact absurd rfl hts
      · cases e1
  rw [hk, List.getElem?_append_left (by omega)] at e2
  exact List.mem_of_getElem? e2
theorem two_unknown {a b : BL} (hl : a.length + b.length ≤ 190) (ha : (lexR (a ++ [10])).2 = 0) (hb : (lexR b).2 = 0) (h1 : ∀ t ∈ (lexR (a ++ [10])).1, t.1 ≠ 5) (h2 : ∀ t ∈ (lexR b).1, t.1 ≠ 5)
    (hs : ∃ t ∈ (lexR b).1, t ≠ signL) : classL (a ++ [10, 59] ++ b) = 7 := by
  unfold lexR at ha hb h1 h2 hs
  rw [if_neg (by simp; omega)] at ha h1
  rw [if_neg (by omega)] at hb h2 hs
  cases e1 : lexL (a ++ [10]) with
  | none => rw [e1] at ha; simp at ha
  | some l =>
    cases e2 : lexL b with
    | none => rw [e2] at hb; simp at hb
    | some m =>
      rw [e1] at h1
      rw [e2] at h2 hs
      simp only at h1 h2 hs
      have e3 : lexL (a ++ [10, 59] ++ b) = some (l ++ signL :: m) := by
        have := lex_app _ (59 :: b) (Nat.le_refl _) (.inr ⟨a, rfl⟩) e1
        rw [lex_semi, e2] at this
        simpa using this
      have hn : noHints (l ++ signL :: m) = l ++ signL :: m := by
        unfold noHints
        rw [List.filter_eq_self]
        intro t ht
        rcases List.mem_append.1 ht with ht | ht
        · simp [h1 t ht]
        · rcases List.mem_cons.1 ht with rfl | ht
          · rfl
          · simp [h2 t ht]
      have er : lexR (a ++ [10, 59] ++ b) = (l ++ signL :: m, 0) := by
        unfold lexR
        rw [if_neg (by simp; omega), e3]
      unfold classL
      rw [er]
      simp only [if_true]
      rw [hn, show (201 : Nat) = 200 + 1 from rfl, tokN_succ, if_pos]
      rw [List.any_eq_true]
      exact ⟨signL, trim_sign hs, by simp⟩
end Go.Proofs.YtgclahlbifbgdaaGreatDoor
