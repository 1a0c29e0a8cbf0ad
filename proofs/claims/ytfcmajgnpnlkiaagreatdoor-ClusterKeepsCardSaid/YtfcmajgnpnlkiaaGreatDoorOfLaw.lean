/- What a statement does, in plain words. -/
import Derived.Test.YtfcmajgnpnlkiaaGreatDoorProg
import Derived.Test.YtfcmajgnpnlkiaaGreatDoorPlanLaw
import Derived.Test.YtfcmajgnpnlkiaaGreatDoorTrimDef
import Derived.KernelRfl
set_option linter.unusedSimpArgs false
set_option linter.unusedVariables false
set_option maxRecDepth 100000
namespace Go.Proofs.YtfcmajgnpnlkiaaGreatDoor
open Go Go.Proofs.YtfcmajgnpnlkiaaGreatDoor.SL Go.RowKit
def word1 (t : Tok) : BL := if t.1 = 1 then t.2 else if t.1 = 3 then [63] else if t.1 = 6 then Lib.replaceAll t.2 [63] [63, 63] else [63, 63]
def strsL (l : List Tok) : List BL := (l.filter fun t => decide (t.1 = 3)).map (·.2)
def trimW (ws : List BL) : List BL := (ws.reverse.dropWhile fun w => decide (w = [59])).reverse
def wordsL (l : List Tok) : List BL := (noHints l).map word1
def textL (l : List Tok) : BL := Lib.join (trimW (wordsL l)) [32]
def form1 : BL := [83, 69, 76, 69, 67, 84, 32, 86, 32, 70, 82, 79, 77, 32, 75, 86, 32, 87, 72, 69, 82, 69, 32, 75, 32, 61, 32, 63]
def toks1 : List Tok := [(1, [83, 69, 76, 69, 67, 84]), (1, [86]), (1, [70, 82, 79, 77]), (1, [75, 86]), (1, [87, 72, 69, 82, 69]), (1, [75]), (6, [61]), (3, [])]
theorem form1_join : form1 = Lib.join (toks1.map word1) [32] := by decide +kernel
def form2 : BL := [83, 69, 76, 69, 67, 84, 32, 42, 32, 70, 82, 79, 77, 32, 75, 86]
def toks2 : List Tok := [(1, [83, 69, 76, 69, 67, 84]), (6, [42]), (1, [70, 82, 79, 77]), (1, [75, 86])]
theorem form2_join : form2 = Lib.join (toks2.map word1) [32] := by decide +kernel
def form3 : BL := [73, 78, 83, 69, 82, 84, 32, 73, 78, 84, 79, 32, 75, 86, 32, 86, 65, 76, 85, 69, 83, 32, 40, 32, 63, 32, 44, 32, 63, 32, 41]
def toks3 : List Tok := [(1, [73, 78, 83, 69, 82, 84]), (1, [73, 78, 84, 79]), (1, [75, 86]), (1, [86, 65, 76, 85, 69, 83]), (6, [40]), (3, []), (6, [44]), (3, []), (6, [41])]
theorem form3_join : form3 = Lib.join (toks3.map word1) [32] := by decide +kernel
def form4 : BL := [85, 80, 68, 65, 84, 69, 32, 75, 86, 32, 83, 69, 84, 32, 86, 32, 61, 32, 63, 32, 87, 72, 69, 82, 69, 32, 75, 32, 61, 32, 63]
def toks4 : List Tok := [(1, [85, 80, 68, 65, 84, 69]), (1, [75, 86]), (1, [83, 69, 84]), (1, [86]), (6, [61]), (3, []), (1, [87, 72, 69, 82, 69]), (1, [75]), (6, [61]), (3, [])]
theorem form4_join : form4 = Lib.join (toks4.map word1) [32] := by decide +kernel
def form5 : BL := [68, 69, 76, 69, 84, 69, 32, 70, 82, 79, 77, 32, 75, 86, 32, 87, 72, 69, 82, 69, 32, 75, 32, 61, 32, 63]
def toks5 : List Tok := [(1, [68, 69, 76, 69, 84, 69]), (1, [70, 82, 79, 77]), (1, [75, 86]), (1, [87, 72, 69, 82, 69]), (1, [75]), (6, [61]), (3, [])]
theorem form5_join : form5 = Lib.join (toks5.map word1) [32] := by decide +kernel
def ofL (l : List Tok) : PM :=
  if textL l = form1 then (1, (strsL l).getD 0 [], [])
  else if textL l = form2 then (2, [], [])
  else if textL l = form3 then (3, (strsL l).getD 0 [], (strsL l).getD 1 [])
  else if textL l = form4 then (4, (strsL l).getD 1 [], (strsL l).getD 0 [])
  else if textL l = form5 then (5, (strsL l).getD 0 [], [])
  else (0, [], [])
def planL (s : BL) : PM := if (lexR s).2 = 0 then ofL (lexR s).1 else (0, [], [])
def matchT (t g : Tok) : Bool := decide (t.1 = g.1) && (decide (t.1 = 3) || decide (t.2 = g.2))
def matchF : List Tok → List Tok → Bool
  | [], [] => true
  | t :: l, g :: f => matchT t g && matchF l f
  | _, _ => false
def TokOk (t : Tok) : Prop := (t.1 = 1 ∧ t.2 ≠ [] ∧ ∀ x ∈ t.2, wordB x = true) ∨ t.1 = 2 ∨ t.1 = 3 ∨ t.1 = 4 ∨ t.1 = 5 ∨ (t.1 = 6 ∧ ∃ c, t.2 = [c] ∧ wordB c = false ∧ c ≠ 32)
theorem byte_all' {p : UInt8 → Bool} (h : ((List.range 256).all fun i => p (UInt8.ofNat i)) = true) (c : UInt8) : p c = true := by
  have := List.all_eq_true.1 h c.toNat (List.mem_range.2 (UInt8.toNat_lt c))
  simpa using this
theorem great_word (c : UInt8) : wordB (greatB c) = wordB c := by
  have := byte_all' (p := fun c => wordB (greatB c) == wordB c) (by decide +kernel) c
  simpa using this
theorem one_ok {c : UInt8} {r : BL} (h : 0 ≤ (oneL (c :: r)).2) : TokOk (oneL (c :: r)).1 := by
  unfold oneL at h ⊢
  simp only at h ⊢
  by_cases h1 : Lib.hasPrefix (c :: r) hintsL = true
  · rw [if_pos h1] at h ⊢
    by_cases h2 : Lib.index ((c :: r).drop 3) closesL < 0
    · rw [if_pos h2] at h; simp at h
    · rw [if_neg h2]; exact .inr (.inr (.inr (.inr (.inl rfl))))
  · rw [if_neg h1] at h ⊢
    by_cases h2 : letterB c = true
    · rw [if_pos h2];refine .inl ⟨rfl, ?_, fun x hx => ?_⟩
      · have hw : wordB c = true := by unfold wordB; rw [h2]; rfl
        simp [List.takeWhile_cons, hw, greatL]
      · obtain ⟨y, hy, rfl⟩ := List.mem_map.1 hx;rw [great_word];exact List.all_eq_true.1 (List.all_takeWhile (p := wordB)) y hy
    · rw [if_neg h2] at h ⊢
      by_cases h3 : digitB c = true
      · rw [if_pos h3]; exact .inr (.inr (.inr (.inl rfl)))
      · rw [if_neg h3] at h ⊢
        by_cases h4 : c.toNat = 39
        · rw [if_pos h4] at h ⊢
          cases hq : quotL c r with
          | none => rw [hq] at h; simp at h
          | some x => exact .inr (.inr (.inl rfl))
        · rw [if_neg h4] at h ⊢
          by_cases h5 : c.toNat = 34 ∨ c.toNat = 96
          · rw [if_pos h5] at h ⊢
            cases hq : quotL c r with
            | none => rw [hq] at h; simp at h
            | some x => exact .inr (.inl rfl)
          · rw [if_neg h5] at h ⊢
            by_cases h6 : 33 ≤ c.toNat ∧ c.toNat ≤ 126
            · rw [if_pos h6];refine .inr (.inr (.inr (.inr (.inr ⟨rfl, c, rfl, ?_, fun e => ?_⟩))))
              · unfold wordB
                simp only [Bool.or_eq_false_iff];exact ⟨by simpa using h2, by simpa using h3⟩
              · subst e; have := h6.1; revert this; decide
            · rw [if_neg h6] at h; simp at h
theorem lexL_ok : ∀ (n : Nat) {l : BL} {ts : List Tok}, l.length ≤ n → lexL l = some ts → ∀ t ∈ ts, TokOk t
  | n, [], ts, _, e => by rw [lexL_nil] at e; cases e; intro t ht; simp at ht
  | 0, c :: r, ts, hn, _ => by simp at hn
  | n + 1, c :: r, ts, hn, e => by
    rw [lexL_cons] at e;simp only [List.length_cons] at hn
    by_cases hb : blankB c = true
    · rw [if_pos hb] at e; exact lexL_ok n (by omega) e
    · rw [if_neg hb] at e
      by_cases h0 : remarkL (c :: r) = 0
      · rw [if_pos h0] at e
        by_cases h1 : (oneL (c :: r)).2 < 0
        · rw [if_pos h1] at e; cases e
        · rw [if_neg h1] at e;have hk := (oneL_le (c := c) (r := r) (by omega)).1
          cases hu : lexL ((c :: r).drop (oneL (c :: r)).2.toNat) with
          | none => rw [hu] at e; cases e
          | some us =>
            rw [hu] at e
            cases e
            intro t ht
            rcases List.mem_cons.1 ht with rfl | ht
            · exact one_ok (by omega)
            · exact lexL_ok n (by rw [List.length_drop, List.length_cons]; omega) hu t ht
      · rw [if_neg h0] at e
        by_cases h1 : remarkL (c :: r) < 0
        · rw [if_pos h1] at e; cases e
        · rw [if_neg h1] at e;exact lexL_ok n (by rw [List.length_drop, List.length_cons]; omega) e
theorem lexR_ok (s : BL) : ∀ t ∈ (lexR s).1, TokOk t := by
  unfold lexR
  split
  · intro t ht; simp at ht
  · cases h : lexL s with
    | none => intro t ht; simp at ht
    | some ts => exact lexL_ok _ (Nat.le_refl _) h
theorem repl_one (c : UInt8) : Lib.replaceAll [c] [63] [63, 63] = if c = 63 then [63, 63] else [c] := by
  have := byte_all' (p := fun c => Lib.replaceAll [c] [63] [63, 63] == if c = 63 then [63, 63] else [c]) (by decide +kernel) c
  simpa using this
theorem word_not {c : UInt8} (h : wordB c = true) : c ≠ 32 ∧ c ≠ 63 ∧ c ≠ 59 := by
  refine ⟨?_, ?_, ?_⟩ <;> (intro e; subst e; revert h; decide)
theorem word1_ok {t : Tok} (h : TokOk t) : word1 t ≠ [] ∧ (32 : UInt8) ∉ word1 t := by
  unfold word1
  rcases h with ⟨h, h2, h3⟩ | h | h | h | h | ⟨h, c, e, h2, h3⟩
  · rw [if_pos h];exact ⟨h2, fun hm => (word_not (h3 _ hm)).1 rfl⟩
  · simp [h]
  · simp [h]
  · simp [h]
  · simp [h]
  · rw [if_neg (by omega), if_neg (by omega), if_pos h, e, repl_one]
    split
    · simp
    · exact ⟨by simp, by simpa using fun e => h3 e.symm⟩
theorem word1_sign {t : Tok} (h : TokOk t) : (decide (word1 t = [59]) = decide (t = signL)) := by
  have key : word1 t = [59] ↔ t = signL := by
    constructor
    · intro e
      unfold word1 at e
      rcases h with ⟨h, h2, h3⟩ | h | h | h | h | ⟨h, c, e2, h2, h3⟩
      · rw [if_pos h] at e;have := (word_not (h3 59 (by rw [e]; simp))).2.2;exact absurd rfl this
      · simp [h] at e
      · simp [h] at e
      · simp [h] at e
      · simp [h] at e
      · rw [if_neg (by omega), if_neg (by omega), if_pos h, e2, repl_one] at e
        split at e
        · simp at e
        · exact Prod.ext h (by rw [e2]; exact e)
    · intro e; subst e; decide
  by_cases h1 : t = signL
  · rw [decide_eq_true h1, decide_eq_true (key.2 h1)]
  · rw [decide_eq_false h1, decide_eq_false (fun e => h1 (key.1 e))]
theorem dropWhile_map {α β : Type} {f : α → β} {p : β → Bool} {q : α → Bool} : ∀ {l : List α}, (∀ x ∈ l, p (f x) = q x) → (l.map f).dropWhile p = (l.dropWhile q).map f
  | [], _ => rfl
  | a :: l, h => by
    rw [List.map_cons, List.dropWhile_cons, List.dropWhile_cons, h a (by simp)]
    cases q a with
    | true => simpa using dropWhile_map fun x hx => h x (by simp [hx])
    | false => simp
theorem trimW_map {l : List Tok} (h : ∀ t ∈ l, TokOk t) : trimW (l.map word1) = (trimE l).map word1 := by
  unfold trimW trimE
  rw [← List.map_reverse, dropWhile_map (q := fun t => decide (t = signL)) (fun t ht => word1_sign (h t (List.mem_reverse.1 ht))), List.map_reverse]
theorem join_inj : ∀ {a b : List BL}, (∀ w ∈ a, w ≠ [] ∧ (32 : UInt8) ∉ w) → (∀ w ∈ b, w ≠ [] ∧ (32 : UInt8) ∉ w) → Lib.join a [32] = Lib.join b [32] → a = b := by
  have cut : ∀ {u v x y : BL}, (32 : UInt8) ∉ u → (32 : UInt8) ∉ v → u ++ 32 :: x = v ++ 32 :: y → u = v ∧ x = y := by
    intro u
    induction u with
    | nil =>
      intro v x y _ hv e
      cases v with
      | nil => simp at e; exact ⟨rfl, e⟩
      | cons b v => simp only [List.nil_append, List.cons_append, List.cons.injEq] at e; exact absurd e.1 (by simp at hv; exact hv.1)
    | cons a u ih =>
      intro v x y hu hv e
      cases v with
      | nil => simp only [List.nil_append, List.cons_append, List.cons.injEq] at e; exact absurd e.1.symm (by simp at hu; exact hu.1)
      | cons b v =>
        simp only [List.cons_append, List.cons.injEq] at e;obtain ⟨h1, h2⟩ := ih (v := v) (by simp at hu; exact hu.2) (by simp at hv; exact hv.2) e.2;exact ⟨by rw [e.1, h1], h2⟩
  have j1 : ∀ w : BL, Lib.join [w] [32] = w := fun w => by simp [Lib.join, List.intercalate]
  have j2 : ∀ (w x : BL) (r : List BL), Lib.join (w :: x :: r) [32] = w ++ 32 :: Lib.join (x :: r) [32] := fun w x r => by simp [Lib.join, List.intercalate]
  intro a
  induction a with
  | nil =>
    intro b _ hb e
    cases b with
    | nil => rfl
    | cons w r =>
      exfalso
      have hw := (hb w (by simp)).1
      cases r with
      | nil => rw [j1] at e; exact hw e.symm
      | cons x r => rw [j2] at e; exact absurd e.symm (by simp [Lib.join, List.intercalate])
  | cons w r ih =>
    intro b ha hb e;have hw := ha w (by simp)
    cases b with
    | nil =>
      exfalso
      cases r with
      | nil => rw [j1] at e; exact hw.1 e
      | cons x r => rw [j2] at e; exact absurd e (by simp [Lib.join, List.intercalate])
    | cons v s =>
      have hv := hb v (by simp)
      cases r with
      | nil =>
        cases s with
        | nil => rw [j1, j1] at e; rw [e]
        | cons y s =>
          exfalso
          rw [j1, j2] at e;exact hw.2 (by rw [e]; simp)
      | cons x r =>
        cases s with
        | nil =>
          exfalso
          rw [j1, j2] at e;exact hv.2 (by rw [← e]; simp)
        | cons y s =>
          rw [j2, j2] at e;obtain ⟨e1, e2⟩ := cut hw.2 hv.2 e;rw [e1, ih (b := y :: s) (fun z hz => ha z (by simp [hz])) (fun z hz => hb z (by simp [hz])) e2]
def FormOk (g : Tok) : Prop := (g.1 = 1 ∧ ∀ x ∈ g.2, wordB x = true) ∨ g.1 = 3 ∨ (g.1 = 6 ∧ ∃ c, g.2 = [c] ∧ wordB c = false ∧ c ≠ 63)
theorem word1_match {t g : Tok} (h : TokOk t) (hg : FormOk g) (h5 : t.1 ≠ 5) : word1 t = word1 g ↔ matchT t g = true := by
  unfold matchT
  simp only [Bool.and_eq_true, Bool.or_eq_true, decide_eq_true_eq];have w63 : wordB 63 = false := by decide
  unfold word1
  rcases hg with ⟨hg, hg2⟩ | hg | ⟨hg, d, e2, hg2, hg3⟩
  · rw [if_pos hg]
    rcases h with ⟨h, h2, h3⟩ | h | h | h | h | ⟨h, c, e, h2, h3⟩
    · rw [if_pos h]; simp [h, hg]
    · simp only [h, hg]
      constructor
      · intro e; have := hg2 63 (by rw [← e]; simp); rw [w63] at this; cases this
      · rintro ⟨e, _⟩; omega
    · simp only [h, hg]
      constructor
      · intro e; have := hg2 63 (by rw [← e]; simp); rw [w63] at this; cases this
      · rintro ⟨e, _⟩; omega
    · simp only [h, hg]
      constructor
      · intro e; have := hg2 63 (by rw [← e]; simp); rw [w63] at this; cases this
      · rintro ⟨e, _⟩; omega
    · exact absurd h h5
    · rw [if_neg (by omega), if_neg (by omega), if_pos h, e, repl_one]
      constructor
      · intro e3
        split at e3
        · have := hg2 63 (by rw [← e3]; simp); rw [w63] at this; cases this
        · have := hg2 c (by rw [← e3]; simp); rw [h2] at this; cases this
      · rintro ⟨e, _⟩; omega
  · rw [if_neg (by omega : ¬ g.1 = 1), if_pos hg]
    rcases h with ⟨h, h2, h3⟩ | h | h | h | h | ⟨h, c, e, h2, h3⟩
    · rw [if_pos h]
      constructor
      · intro e; have := h3 63 (by rw [e]; simp); rw [w63] at this; cases this
      · rintro ⟨e, _⟩; omega
    · simp [h, hg]
    · simp [h, hg]
    · simp [h, hg]
    · exact absurd h h5
    · rw [if_neg (by omega), if_neg (by omega), if_pos h, e, repl_one]
      constructor
      · intro e3
        split at e3
        · simp at e3
        · rename_i hc; simp at e3; exact absurd e3 hc
      · rintro ⟨e, _⟩; omega
  · rw [if_neg (by omega : ¬ g.1 = 1), if_neg (by omega : ¬ g.1 = 3), if_pos hg, e2, repl_one, if_neg hg3]
    rcases h with ⟨h, h2, h3⟩ | h | h | h | h | ⟨h, c, e, h2, h3⟩
    · rw [if_pos h]
      constructor
      · intro e; have := h3 d (by rw [e]; simp); rw [hg2] at this; cases this
      · rintro ⟨e, _⟩; omega
    · simp [h, hg]
    · simp only [h, hg]
      constructor
      · intro e; simp at e; exact absurd e.symm hg3
      · rintro ⟨e, _⟩; omega
    · simp [h, hg]
    · exact absurd h h5
    · rw [if_neg (by omega), if_neg (by omega), if_pos h, e, repl_one]
      constructor
      · intro e3
        split at e3
        · simp at e3
        · exact ⟨by omega, .inr e3⟩
      · rintro ⟨_, e3 | e3⟩
        · omega
        · have : c = d := by simpa using e3
          rw [if_neg (by rw [this]; exact hg3), this]
theorem map_match : ∀ {m f : List Tok}, (∀ t ∈ m, TokOk t ∧ t.1 ≠ 5) → (∀ g ∈ f, FormOk g) → (m.map word1 = f.map word1 ↔ matchF m f = true)
  | [], [], _, _ => by simp [matchF]
  | [], g :: f, _, _ => by simp [matchF]
  | t :: m, [], _, _ => by simp [matchF]
  | t :: m, g :: f, hm, hf => by
    have h1 := word1_match (hm t (by simp)).1 (hf g (by simp)) (hm t (by simp)).2;have ih := map_match (m := m) (f := f) (fun t ht => hm t (by simp [ht])) (fun g hg => hf g (by simp [hg]))
    unfold matchF
    rw [List.map_cons, List.map_cons, List.cons.injEq, h1, ih, Bool.and_eq_true]
theorem strs_hints (l : List Tok) : strsL (noHints l) = strsL l := by
  unfold strsL noHints
  rw [List.filter_filter]
  congr 1
  apply List.filter_congr
  intro t _
  by_cases h : t.1 = 3 <;> simp [h]
theorem strs_trim (l : List Tok) : strsL (trimE l) = strsL l := by
  obtain ⟨k, hk⟩ : ∃ k, l = trimE l ++ List.replicate k signL := trimE_split l
  conv => rhs; rw [hk]
  unfold strsL
  have e : (List.replicate k signL).filter (fun t => decide (t.1 = 3)) = [] := by
    rw [List.filter_eq_nil_iff];intro t ht;rw [List.eq_of_mem_replicate ht]; decide
  rw [List.filter_append, e, List.append_nil]
theorem toks1_ok : ∀ g ∈ toks1, FormOk g := by
  intro g hg;simp only [toks1, List.mem_cons, List.not_mem_nil, or_false] at hg
  rcases hg with rfl | rfl | rfl | rfl | rfl | rfl | rfl | rfl <;> first | exact .inl ⟨rfl, by decide⟩ | exact .inr (.inl rfl) | exact .inr (.inr ⟨rfl, _, rfl, by decide, by decide⟩)
theorem toks1_words : ∀ w ∈ toks1.map word1, w ≠ [] ∧ (32 : UInt8) ∉ w := by decide +kernel
theorem toks2_ok : ∀ g ∈ toks2, FormOk g := by
  intro g hg;simp only [toks2, List.mem_cons, List.not_mem_nil, or_false] at hg
  rcases hg with rfl | rfl | rfl | rfl <;> first | exact .inl ⟨rfl, by decide⟩ | exact .inr (.inl rfl) | exact .inr (.inr ⟨rfl, _, rfl, by decide, by decide⟩)
theorem toks2_words : ∀ w ∈ toks2.map word1, w ≠ [] ∧ (32 : UInt8) ∉ w := by decide +kernel
theorem toks3_ok : ∀ g ∈ toks3, FormOk g := by
  intro g hg;simp only [toks3, List.mem_cons, List.not_mem_nil, or_false] at hg
  rcases hg with rfl | rfl | rfl | rfl | rfl | rfl | rfl | rfl | rfl <;> first | exact .inl ⟨rfl, by decide⟩ | exact .inr (.inl rfl) | exact .inr (.inr ⟨rfl, _, rfl, by decide, by decide⟩)
theorem toks3_words : ∀ w ∈ toks3.map word1, w ≠ [] ∧ (32 : UInt8) ∉ w := by decide +kernel
theorem toks4_ok : ∀ g ∈ toks4, FormOk g := by
  intro g hg;simp only [toks4, List.mem_cons, List.not_mem_nil, or_false] at hg
  rcases hg with rfl | rfl | rfl | rfl | rfl | rfl | rfl | rfl | rfl | rfl <;> first | exact .inl ⟨rfl, by decide⟩ | exact .inr (.inl rfl) | exact .inr (.inr ⟨rfl, _, rfl, by decide, by decide⟩)
theorem toks4_words : ∀ w ∈ toks4.map word1, w ≠ [] ∧ (32 : UInt8) ∉ w := by decide +kernel
theorem toks5_ok : ∀ g ∈ toks5, FormOk g := by
  intro g hg;simp only [toks5, List.mem_cons, List.not_mem_nil, or_false] at hg
  rcases hg with rfl | rfl | rfl | rfl | rfl | rfl | rfl <;> first | exact .inl ⟨rfl, by decide⟩ | exact .inr (.inl rfl) | exact .inr (.inr ⟨rfl, _, rfl, by decide, by decide⟩)
theorem toks5_words : ∀ w ∈ toks5.map word1, w ≠ [] ∧ (32 : UInt8) ∉ w := by decide +kernel
theorem text_match {l : List Tok} (h : ∀ t ∈ l, TokOk t) {f : List Tok} {F : BL} (hF : F = Lib.join (f.map word1) [32]) (hf : ∀ g ∈ f, FormOk g) (hw : ∀ w ∈ f.map word1, w ≠ [] ∧ (32 : UInt8) ∉ w) :
    (textL l = F) ↔ matchF (trimE (noHints l)) f = true := by
  have hn : ∀ t ∈ noHints l, TokOk t := fun t ht => h t (List.mem_filter.1 ht).1
  have hm : ∀ t ∈ trimE (noHints l), TokOk t ∧ t.1 ≠ 5 := fun t ht => by
    have := trimE_sub ht;refine ⟨hn t this, fun e => ?_⟩;have := (List.mem_filter.1 this).2;simp [e] at this
  unfold textL wordsL
  rw [trimW_map hn, hF, ← map_match hm hf]
  constructor
  · intro e;refine join_inj (fun w hw => ?_) hw e;obtain ⟨t, ht, rfl⟩ := List.mem_map.1 hw;exact word1_ok (hm t ht).1
  · intro e; rw [e]
theorem match_strs : ∀ {m f : List Tok}, matchF m f = true → (strsL m).length = (strsL f).length
  | [], [], _ => rfl
  | [], g :: f, h => by cases h
  | t :: m, [], h => by cases h
  | t :: m, g :: f, h => by
    unfold matchF matchT at h
    simp only [Bool.and_eq_true, decide_eq_true_eq] at h;have ih := match_strs h.2
    unfold strsL at ih ⊢
    simp only [List.length_map] at ih ⊢;rw [List.filter_cons, List.filter_cons, h.1.1]
    split <;> simp [ih]
theorem text_strs {l : List Tok} (h : ∀ t ∈ l, TokOk t) {f : List Tok} {F : BL} (hF : F = Lib.join (f.map word1) [32]) (hf : ∀ g ∈ f, FormOk g) (hw : ∀ w ∈ f.map word1, w ≠ [] ∧ (32 : UInt8) ∉ w) (e : textL l = F) : (strsL l).length = (strsL f).length := by
  have := match_strs ((text_match h hF hf hw).1 e);rw [strs_trim, strs_hints] at this;exact this
end Go.Proofs.YtfcmajgnpnlkiaaGreatDoor
