/- Package class: what it computes, in plain words. -/
import Derived.Test.YtgclahlbifbgdaaGreatDoorProg
import Derived.Test.YtgclahlbifbgdaaGreatDoorClassLaw
set_option linter.unusedSimpArgs false
set_option linter.unusedVariables false
set_option maxRecDepth 100000
namespace Go.Proofs.YtgclahlbifbgdaaGreatDoor
open Go Go.Proofs.YtgclahlbifbgdaaGreatDoor.SL Go.RowKit
theorem tokN_succ (f : Nat) (l : List Tok) : tokN (f + 1) l = if (l.any fun t => decide (t = signL)) then 7
    else if readsW.contains (wordAt l 0) then 1
    else if wordAt l 0 = wEXPLAIN then (if wordIn l 1 anaW then (if tokN f (l.drop 2) = 2 ∨ tokN f (l.drop 2) = 7 then tokN f (l.drop 2) else 1) else 1)
    else if changeW.contains (wordAt l 0) then 2
    else if askW.contains (wordAt l 0) then asksL l
    else if wordAt l 0 = wBEGIN then beginL l
    else if wordAt l 0 = wSTART then startL l
    else if wordAt l 0 = wCOMMIT then endsL 4 l
    else if wordAt l 0 = wROLLBACK then endsL 5 l
    else if wordAt l 0 = wSET then setL l
    else 7 := rfl
theorem Row_take {α : Type} {enc : α → List Value} {e : TypeId} {size : Nat} {A : Option Addr} {c : Nat} {xs : List α} {h : PH} (r : Row enc e size A c xs h) (k : Nat) : Row enc e size A c (xs.take k) h := by
  obtain ⟨hl, hr⟩ := r
  refine ⟨fun x hx => hl x (List.mem_of_mem_take hx), ?_⟩
  rcases hr with ⟨h1, h2, h3⟩ | ⟨g, off, cur, h1, h2, h3, h4, h5, h6⟩
  · exact .inl ⟨h1, h2, by rw [h3]; simp⟩
  · refine .inr ⟨g, off, cur, h1, h2, by rw [List.length_take]; omega, h4, h5, ?_⟩
    have hs : (xs.map enc).flatten = ((xs.take k).map enc).flatten ++ ((xs.drop k).map enc).flatten := by
      rw [← List.flatten_append, ← List.map_append, List.take_append_drop]
    have hl2 : ((xs.take k).map enc).flatten.length = (xs.take k).length * size := flat_len fun x hx => hl x (List.mem_of_mem_take hx)
    have := congrArg (List.take ((xs.take k).length * size)) h6
    rw [hs, ← hl2, List.take_left, hl2, List.take_take, Nat.min_eq_left (Nat.mul_le_mul_right _ (by rw [List.length_take]; omega))] at this
    exact this
theorem at_rowTake {w0 : World} {n : Nat} {ds : List Deferred} {R : Act → World → Prop} {env : Env} {α : Type} {enc : α → List Value} {l : List HP} (j k : Nat) {e : TypeId} {size : Nat} {A : Option Addr} {c : Nat} {xs : List α} (hk : nth k l = some (Row enc e size A c xs))
    (h : At w0 n ds R env (setAt k (Row enc e size A c (xs.take j)) l)) : At w0 n ds R env l := fun a w f s => by
  refine h a w f ?_
  obtain ⟨r, hp, hs⟩ := nth_pull hk
  have s1 : Sat w0 w (Row enc e size A c xs :: r) := s.imp fun _ hh => star_perm hp hh
  have s2 : Sat w0 w (Row enc e size A c (xs.take j) :: r) := s1.imp fun h ⟨p, q, h1, h2, h3⟩ => ⟨p, q, Row_take h1 j, h2, h3⟩
  exact s2.imp fun _ hh => star_perm (hs _).symm hh
/-- Without signs ; at the end. -/
def trimE (l : List Tok) : List Tok := (l.reverse.dropWhile fun t => decide (t = signL)).reverse
theorem trimE_nil : trimE [] = [] := rfl
theorem trimE_snoc (l : List Tok) (x : Tok) : trimE (l ++ [x]) = if x = signL then trimE l else l ++ [x] := by
  unfold trimE
  rw [List.reverse_append, List.reverse_singleton, List.singleton_append]
  by_cases h : x = signL
  · rw [if_pos h, List.dropWhile_cons_of_pos (by simp [h])]
  · rw [if_neg h, List.dropWhile_cons_of_neg (by simp [h])]; simp
theorem trimE_sub {l : List Tok} {t : Tok} (h : t ∈ trimE l) : t ∈ l := by
  unfold trimE at h
  have := (List.dropWhile_sublist (p := fun t : Tok => decide (t = signL)) (l := l.reverse)).subset (List.mem_reverse.1 h)
  simpa using this
def noHints (l : List Tok) : List Tok := l.filter fun t => !decide (t.1 = 5)
/-- A statement's class. -/
def classL (s : BL) : Int := if (lexR s).2 = 0 then tokN 201 (trimE (noHints (lexR s).1)) else 0
/-- Where a statement asks to go. -/
def askOf (t : Tok) : Int := if t.1 = 5 ∧ t.2 = [112, 114, 105, 109, 97, 114, 121] then 1 else if t.1 = 5 ∧ t.2 = [114, 101, 112, 108, 105, 99, 97] then 2 else 0
def asksT : List Tok → Int
  | [] => 0
  | t :: l => if askOf t = 0 then asksT l else askOf t
theorem asksT_at : ∀ {l : List Tok} {k : Nat} {x : Tok}, (∀ y ∈ l.take k, askOf y = 0) → l[k]? = some x → askOf x ≠ 0 → asksT l = askOf x
  | [], k, x, _, h, _ => by simp at h
  | a :: l, 0, x, _, h, hx => by simp at h; subst h; rw [asksT, if_neg hx]
  | a :: l, k + 1, x, h1, h, hx => by
    rw [asksT, if_pos (h1 a (by simp))]
    exact asksT_at (k := k) (fun y hy => h1 y (by simp [hy])) (by simpa using h) hx
theorem asksT_none : ∀ {l : List Tok}, (∀ y ∈ l, askOf y = 0) → asksT l = 0
  | [], _ => rfl
  | a :: l, h => by rw [asksT, if_pos (h a (by simp))]; exact asksT_none fun y hy => h y (by simp [hy])
theorem great_no32 {c : UInt8} (h : wordB c = true) : greatB c ≠ 32 := by
  intro e
  have h2 := congrArg UInt8.toNat e
  have h3 : (32 : UInt8).toNat = 32 := rfl
  simp only [wordB, letterB, digitB, Bool.or_eq_true, Bool.and_eq_true, decide_eq_true_eq] at h
  unfold greatB at h2
  split at h2
  · rename_i hc
    rw [UInt8.toNat_sub_of_le _ _ (by simp [UInt8.le_iff_toNat_le]; omega)] at h2
    omega
  · omega
theorem one_good {l : BL} (h : (oneL l).1.1 = 1) : (oneL l).1.2 ≠ [] ∧ (32 : UInt8) ∉ (oneL l).1.2 := by
  cases l with
  | nil => simp [oneL] at h
  | cons c r =>
    unfold oneL at h ⊢
    simp only at h ⊢
    split at h
    · split at h <;> simp at h
    · rename_i h1
      rw [if_neg h1]
      split at h
      · rename_i h2
        rw [if_pos h2]
        have hw : wordB c = true := by simp [wordB, h2]
        refine ⟨?_, ?_⟩
        · unfold greatL
          rw [List.takeWhile_cons_of_pos hw]; simp
        · intro hm
          unfold greatL at hm
          obtain ⟨x, hx, he⟩ := List.mem_map.1 hm
          exact great_no32 (List.all_eq_true.1 (List.all_takeWhile (p := wordB) (l := c :: r)) x hx) he
      · exfalso
        split at h
        · simp at h
        · split at h
          · split at h <;> simp at h
          · split at h
            · split at h <;> simp at h
            · split at h <;> simp at h
theorem lexL_good : ∀ (n : Nat) {l : BL} {ts : List Tok}, l.length ≤ n → lexL l = some ts → Good ts := by
  intro n
  induction n with
  | zero =>
    intro l ts hl h
    have : l = [] := List.eq_nil_of_length_eq_zero (by omega)
    subst this
    rw [lexL_nil] at h; cases h; intro t ht; cases ht
  | succ n ih =>
    intro l ts hl h
    cases l with
    | nil => rw [lexL_nil] at h; cases h; intro t ht; cases ht
    | cons c r =>
      rw [lexL_cons] at h
      simp only [List.length_cons] at hl
      have key : ∀ (k : Nat) (us : List Tok), 1 ≤ k → lexL ((c :: r).drop k) = some us → Good us := fun k us hk hu =>
        ih (by rw [List.length_drop, List.length_cons]; omega) hu
      split at h
      · exact ih (by omega) h
      · split at h
        · split at h
          · cases h
          · rename_i h1
            cases hu : lexL ((c :: r).drop (oneL (c :: r)).2.toNat) with
            | none => rw [hu] at h; cases h
            | some us =>
              rw [hu] at h
              cases h
              have := key _ us (oneL_le (by omega)).1 hu
              intro t ht hk
              rcases List.mem_cons.1 ht with rfl | ht
              · exact one_good hk
              · exact this t ht hk
        · split at h
          · cases h
          · exact key _ ts (by omega) h
theorem lexR_good (s : BL) : Good (lexR s).1 := by
  unfold lexR
  split
  · intro t ht; cases ht
  · cases h : lexL s with
    | none => intro t ht; cases ht
    | some ts => exact lexL_good _ (Nat.le_refl _) h
theorem trimS_le (l : BL) : (Lib.trimS l [32, 9, 10, 13]).length ≤ l.length := by
  rw [trimS_eq]
  have h1 := (List.dropWhile_sublist (p := blankB) (l := (l.reverse.dropWhile blankB).reverse)).length_le
  have h2 := (List.dropWhile_sublist (p := blankB) (l := l.reverse)).length_le
  rw [List.length_reverse] at h1 h2
  omega
theorem one_len (l : BL) : (oneL l).1.2.length ≤ l.length := by
  cases l with
  | nil => simp [oneL]
  | cons c r =>
    unfold oneL
    simp only
    split
    · split
      · simp
      · refine Nat.le_trans (trimS_le _) ?_
        rw [List.length_take, List.length_drop]; omega
    · split
      · unfold greatL
        rw [List.length_map]; exact takeWhile_le _ _
      · split
        · exact takeWhile_le _ _
        · split
          · cases hq : quotL c r with
            | none => simp
            | some x => have := quotL_le (t := x.1) (n := x.2) hq; simp only [List.length_cons]; omega
          · split
            · cases hq : quotL c r with
              | none => simp
              | some x => have := quotL_le (t := x.1) (n := x.2) hq; simp only [List.length_cons]; omega
            · split <;> simp
theorem lexL_short : ∀ (n : Nat) {l : BL} {ts : List Tok}, l.length ≤ n → lexL l = some ts → ∀ t ∈ ts, t.2.length ≤ n := by
  intro n
  induction n with
  | zero =>
    intro l ts hl h
    have : l = [] := List.eq_nil_of_length_eq_zero (by omega)
    subst this
    rw [lexL_nil] at h; cases h; intro t ht; cases ht
  | succ n ih =>
    intro l ts hl h
    cases l with
    | nil => rw [lexL_nil] at h; cases h; intro t ht; cases ht
    | cons c r =>
      rw [lexL_cons] at h
      have hl' := hl
      simp only [List.length_cons] at hl
      have key : ∀ (k : Nat) (us : List Tok), 1 ≤ k → lexL ((c :: r).drop k) = some us → ∀ t ∈ us, t.2.length ≤ n := fun k us hk hu =>
        ih (by rw [List.length_drop, List.length_cons]; omega) hu
      have up : ∀ {us : List Tok}, (∀ t ∈ us, t.2.length ≤ n) → ∀ t ∈ us, t.2.length ≤ n + 1 := fun h t ht => Nat.le_succ_of_le (h t ht)
      split at h
      · exact up (ih (by omega) h)
      · split at h
        · split at h
          · cases h
          · rename_i h1
            cases hu : lexL ((c :: r).drop (oneL (c :: r)).2.toNat) with
            | none => rw [hu] at h; cases h
            | some us =>
              rw [hu] at h
              cases h
              have := key _ us (oneL_le (by omega)).1 hu
              intro t ht
              rcases List.mem_cons.1 ht with rfl | ht
              · exact Nat.le_trans (one_len _) hl'
              · exact Nat.le_succ_of_le (this t ht)
        · split at h
          · cases h
          · exact up (key _ ts (by omega) h)
theorem lexR_short (s : BL) : ∀ t ∈ (lexR s).1, t.2.length ≤ 200 := by
  unfold lexR
  split
  · intro t ht; cases ht
  · cases h : lexL s with
    | none => intro t ht; cases ht
    | some ts => exact lexL_short 200 (by omega) h
theorem noHints_succ {l : List Tok} {k : Nat} {x : Tok} (h : l[k]? = some x) : noHints (l.take (k + 1)) = noHints (l.take k) ++ (if x.1 = 5 then [] else [x]) := by
  unfold noHints
  rw [List.take_add_one, h, List.filter_append]
  congr 1
  by_cases h5 : x.1 = 5 <;> simp [h5]
theorem noHints_le (l : List Tok) : (noHints l).length ≤ l.length := List.length_filter_le _ _
end Go.Proofs.YtgclahlbifbgdaaGreatDoor
