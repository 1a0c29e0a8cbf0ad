/- Tokens without hints, and without signs ; at the end, in plain words. -/
import Derived.Test.YtfcmajgnpnlkiaaGreatDoorProg
import Derived.Test.YtfcmajgnpnlkiaaGreatDoorLexLen
set_option linter.unusedSimpArgs false
set_option linter.unusedVariables false
set_option maxRecDepth 100000
namespace Go.Proofs.YtfcmajgnpnlkiaaGreatDoor
open Go Go.Proofs.YtfcmajgnpnlkiaaGreatDoor.SL Go.RowKit
def signL : Tok := (6, [59])
def trimE (l : List Tok) : List Tok := (l.reverse.dropWhile fun t => decide (t = signL)).reverse
theorem trimE_nil : trimE [] = [] := rfl
theorem trimE_snoc (l : List Tok) (x : Tok) : trimE (l ++ [x]) = if x = signL then trimE l else l ++ [x] := by
  unfold trimE
  rw [List.reverse_append, List.reverse_singleton, List.singleton_append]
  by_cases h : x = signL
  · rw [if_pos h, List.dropWhile_cons_of_pos (by simp [h])]
  · rw [if_neg h, List.dropWhile_cons_of_neg (by simp [h])]; simp
theorem trimE_sub {l : List Tok} {t : Tok} (h : t ∈ trimE l) : t ∈ l := by
  unfold trimE at h
  have := (List.dropWhile_sublist (p := fun t : Tok => decide (t = signL)) (l := l.reverse)).subset (List.mem_reverse.1 h)
  simpa using this
def noHints (l : List Tok) : List Tok := l.filter fun t => !decide (t.1 = 5)
theorem noHints_succ {l : List Tok} {k : Nat} {x : Tok} (h : l[k]? = some x) : noHints (l.take (k + 1)) = noHints (l.take k) ++ (if x.1 = 5 then [] else [x]) := by
  unfold noHints
  rw [List.take_add_one, h, List.filter_append]
  congr 1
  by_cases h5 : x.1 = 5 <;> simp [h5]
theorem noHints_le (l : List Tok) : (noHints l).length ≤ l.length := List.length_filter_le _ _
theorem trimE_split (l : List Tok) : ∃ k, l = trimE l ++ List.replicate k signL := by
  refine ⟨(l.reverse.takeWhile fun t => decide (t = signL)).length, ?_⟩
  have h1 : l.reverse.takeWhile (fun t => decide (t = signL)) = List.replicate (l.reverse.takeWhile fun t => decide (t = signL)).length signL := by
    rw [List.eq_replicate_iff];refine ⟨rfl, fun b hb => ?_⟩;have := List.all_takeWhile (p := fun t => decide (t = signL)) (l := l.reverse)
    simpa using List.all_eq_true.1 this b hb
  have h2 := List.takeWhile_append_dropWhile (p := fun t => decide (t = signL)) (l := l.reverse);have h3 : l = ((l.reverse.takeWhile fun t => decide (t = signL)) ++ (l.reverse.dropWhile fun t => decide (t = signL))).reverse := by rw [h2, List.reverse_reverse]
  rw [List.reverse_append] at h3;rw [h1, List.reverse_replicate] at h3;exact h3
theorem trimS_le (l : BL) : (Lib.trimS l [32, 9, 10, 13]).length ≤ l.length := by
  rw [trimS_eq];have h1 := (List.dropWhile_sublist (p := blankB) (l := (l.reverse.dropWhile blankB).reverse)).length_le;have h2 := (List.dropWhile_sublist (p := blankB) (l := l.reverse)).length_le;rw [List.length_reverse] at h1 h2;omega
theorem one_len (l : BL) : (oneL l).1.2.length ≤ l.length := by
  cases l with
  | nil => simp [oneL]
  | cons c r =>
    unfold oneL
    simp only
    split
    · split
      · simp
      · refine Nat.le_trans (trimS_le _) ?_;rw [List.length_take, List.length_drop]; omega
    · split
      · unfold greatL
        rw [List.length_map]; exact takeWhile_le _ _
      · split
        · exact takeWhile_le _ _
        · split
          · cases hq : quotL c r with
            | none => simp
            | some x => have := quotL_le (t := x.1) (n := x.2) hq; simp only [List.length_cons]; omega
          · split
            · cases hq : quotL c r with
              | none => simp
              | some x => have := quotL_le (t := x.1) (n := x.2) hq; simp only [List.length_cons]; omega
            · split <;> simp
theorem lexL_short : ∀ (n : Nat) {l : BL} {ts : List Tok}, l.length ≤ n → lexL l = some ts → ∀ t ∈ ts, t.2.length ≤ n := by
  intro n
  induction n with
  | zero =>
    intro l ts hl h;have : l = [] := List.eq_nil_of_length_eq_zero (by omega);subst this;rw [lexL_nil] at h; cases h; intro t ht; cases ht
  | succ n ih =>
    intro l ts hl h
    cases l with
    | nil => rw [lexL_nil] at h; cases h; intro t ht; cases ht
    | cons c r =>
      rw [lexL_cons] at h;have hl' := hl;simp only [List.length_cons] at hl
      have key : ∀ (k : Nat) (us : List Tok), 1 ≤ k → lexL ((c :: r).drop k) = some us → ∀ t ∈ us, t.2.length ≤ n := fun k us hk hu =>
        ih (by rw [List.length_drop, List.length_cons]; omega) hu
      have up : ∀ {us : List Tok}, (∀ t ∈ us, t.2.length ≤ n) → ∀ t ∈ us, t.2.length ≤ n + 1 := fun h t ht => Nat.le_succ_of_le (h t ht)
      split at h
      · exact up (ih (by omega) h)
      · split at h
        · split at h
          · cases h
          · rename_i h1
            cases hu : lexL ((c :: r).drop (oneL (c :: r)).2.toNat) with
            | none => rw [hu] at h; cases h
            | some us =>
              rw [hu] at h
              cases h
              have := key _ us (oneL_le (by omega)).1 hu;intro t ht
              rcases List.mem_cons.1 ht with rfl | ht
              · exact Nat.le_trans (one_len _) hl'
              · exact Nat.le_succ_of_le (this t ht)
        · split at h
          · cases h
          · exact up (key _ ts (by omega) h)
theorem lexR_short (s : BL) : ∀ t ∈ (lexR s).1, t.2.length ≤ 200 := by
  unfold lexR
  split
  · intro t ht; cases ht
  · cases h : lexL s with
    | none => intro t ht; cases ht
    | some ts => exact lexL_short 200 (by omega) h
end Go.Proofs.YtfcmajgnpnlkiaaGreatDoor
