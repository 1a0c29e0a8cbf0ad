/- What is classed as a read writes nothing, in plain words. -/
import Derived.Test.YtgclahlbifbgdaaGreatDoorProg
import Derived.Test.YtgclahlbifbgdaaGreatDoorClassDef
import Derived.KernelRfl
set_option linter.unusedSimpArgs false
set_option linter.unusedVariables false
set_option maxRecDepth 100000
namespace Go.Proofs.YtgclahlbifbgdaaGreatDoor
open Go Go.Proofs.YtgclahlbifbgdaaGreatDoor.SL Go.RowKit
/-- The words behind which nothing may write. -/
def headsW : List BL := [wSELECT, wWITH, wTABLE, wVALUES]
def finalW : List BL := [wSELECT, wWITH, wTABLE, wVALUES, wSHOW, wDESCRIBE, wDESC, wEXPLAIN]
/-- The law's scan: none where it tells false; else the head. -/
def scanT : List Tok → BL → Bool → Option BL
  | [], h, _ => some h
  | t :: r, h, b =>
    if t.1 = 5 then scanT r h b
    else if b = true ∧ t ≠ signL then none
    else if t = signL then scanT r h true
    else if h = [] ∧ t.1 ≠ 1 then none
    else if t.1 = 1 ∧ headsW.contains (if h = [] then t.2 else h) = true ∧ writesW.contains t.2 = true then none
    else scanT r (if h = [] then t.2 else h) b
theorem scan_cons (t : Tok) (r : List Tok) (h : BL) (b : Bool) : scanT (t :: r) h b = if t.1 = 5 then scanT r h b
    else if b = true ∧ t ≠ signL then none
    else if t = signL then scanT r h true
    else if h = [] ∧ t.1 ≠ 1 then none
    else if t.1 = 1 ∧ headsW.contains (if h = [] then t.2 else h) = true ∧ writesW.contains t.2 = true then none
    else scanT r (if h = [] then t.2 else h) b := rfl
theorem scan_hints : ∀ (l : List Tok) (h : BL) (b : Bool), scanT l h b = scanT (noHints l) h b
  | [], _, _ => rfl
  | t :: r, h, b => by
    unfold noHints
    by_cases h5 : t.1 = 5
    · rw [scan_cons, if_pos h5, List.filter_cons_of_neg (by simp [h5])]
      exact scan_hints r h b
    · rw [List.filter_cons_of_pos (by simp [h5]), scan_cons, scan_cons, if_neg h5, if_neg h5]
      have e := fun h b => scan_hints r h b
      unfold noHints at e
      rw [e, e]
theorem scan_signs : ∀ (k : Nat) (h : BL) (b : Bool), scanT (List.replicate k signL) h b = some h
  | 0, _, _ => rfl
  | k + 1, h, b => by
    rw [List.replicate_succ, scan_cons, if_neg (by decide), if_neg (by simp), if_pos rfl]
    exact scan_signs k h true
theorem trimE_split (l : List Tok) : ∃ k, l = trimE l ++ List.replicate k signL := by
  refine ⟨(l.reverse.takeWhile fun t => decide (t = signL)).length, ?_⟩
  have h1 : l.reverse.takeWhile (fun t => decide (t = signL)) = List.replicate (l.reverse.takeWhile fun t => decide (t = signL)).length signL := by
    rw [List.eq_replicate_iff]
    refine ⟨rfl, fun b hb => ?_⟩
    have := List.all_takeWhile (p := fun t => decide (t = signL)) (l := l.reverse)
    simpa using List.all_eq_true.1 this b hb
  have h2 := List.takeWhile_append_dropWhile (p := fun t => decide (t = signL)) (l := l.reverse)
  have h3 : l = ((l.reverse.takeWhile fun t => decide (t = signL)) ++ (l.reverse.dropWhile fun t => decide (t = signL))).reverse := by rw [h2, List.reverse_reverse]
  rw [List.reverse_append] at h3
  rw [h1, List.reverse_replicate] at h3
  exact h3
theorem scan_body {w : BL} (hw : w ≠ []) : ∀ (l : List Tok) (k : Nat), (∀ t ∈ l, t ≠ signL) → (headsW.contains w = true → hasIn l writesW = false) → scanT (l ++ List.replicate k signL) w false = some w
  | [], k, _, _ => scan_signs k w false
  | t :: r, k, h1, h2 => by
    have ih := scan_body hw r k (fun t ht => h1 t (by simp [ht])) (fun hh => by
      have := h2 hh
      unfold hasIn at this ⊢
      rw [List.any_cons, Bool.or_eq_false_iff] at this
      exact this.2)
    rw [List.cons_append, scan_cons]
    by_cases h5 : t.1 = 5
    · rw [if_pos h5]; exact ih
    · rw [if_neg h5, if_neg (by simp), if_neg (h1 t (by simp)), if_neg (by simp [hw]), if_neg hw, if_neg]
      · exact ih
      · rintro ⟨a, b, c⟩
        have := h2 b
        unfold hasIn at this
        rw [List.any_cons, Bool.or_eq_false_iff] at this
        rw [a, c] at this
        simp at this
theorem scan_start {l : List Tok} {w : BL} (hw : w ≠ []) (h0 : wordAt l 0 = w) (k : Nat) (h1 : ∀ t ∈ l, t ≠ signL) (h2 : headsW.contains w = true → hasIn l writesW = false) : scanT (l ++ List.replicate k signL) [] false = some w := by
  cases l with
  | nil => exact absurd h0.symm (by simpa [wordAt] using hw)
  | cons t r =>
    unfold wordAt at h0
    simp only [List.getElem?_cons_zero] at h0
    by_cases ht : t.1 = 1
    · rw [if_pos ht] at h0
      subst h0
      have hr := scan_body hw r k (fun t ht => h1 t (by simp [ht])) (fun hh => by
        have := h2 hh
        unfold hasIn at this ⊢
        rw [List.any_cons, Bool.or_eq_false_iff] at this
        exact this.2)
      rw [List.cons_append, scan_cons, if_neg (by omega), if_neg (by simp), if_neg (h1 t (by simp)), if_neg (by simp [ht]), if_pos rfl, if_neg]
      · exact hr
      · rintro ⟨a, b, c⟩
        have := h2 b
        unfold hasIn at this
        rw [List.any_cons, Bool.or_eq_false_iff] at this
        rw [a, c] at this
        simp at this
    · rw [if_neg ht] at h0
      exact absurd h0.symm hw
theorem read_scan {s : BL} (h : classL s = 1) : (lexR s).2 = 0 ∧ ∃ H, scanT (lexR s).1 [] false = some H ∧ finalW.contains H = true := by
  unfold classL at h
  by_cases h0 : (lexR s).2 = 0
  · rw [if_pos h0] at h
    refine ⟨h0, ?_⟩
    rw [scan_hints]
    generalize noHints (lexR s).1 = l at h
    obtain ⟨k, hk⟩ := trimE_split l
    rw [hk]
    generalize trimE l = b at h
    rw [show (201 : Nat) = 200 + 1 from rfl, tokN_succ] at h
    by_cases hs : (b.any fun t => decide (t = signL)) = true
    · rw [if_pos hs] at h; omega
    · rw [if_neg hs] at h
      have h1 : ∀ t ∈ b, t ≠ signL := fun t ht e => hs (List.any_eq_true.2 ⟨t, ht, by simp [e]⟩)
      refine ⟨wordAt b 0, ?_⟩
      by_cases c1 : readsW.contains (wordAt b 0) = true
      · have hm : wordAt b 0 = wSHOW ∨ wordAt b 0 = wDESCRIBE ∨ wordAt b 0 = wDESC := by simpa [readsW] using c1
        rcases hm with e | e | e <;> rw [e] <;> exact ⟨scan_start (by decide) e k h1 (fun hh => absurd hh (by decide)), by decide⟩
      · rw [if_neg c1] at h
        by_cases c2 : wordAt b 0 = wEXPLAIN
        · rw [c2]
          exact ⟨scan_start (by decide) c2 k h1 (fun hh => absurd hh (by decide)), by decide⟩
        · rw [if_neg c2] at h
          by_cases c3 : changeW.contains (wordAt b 0) = true
          · rw [if_pos c3] at h; omega
          · rw [if_neg c3] at h
            by_cases c4 : askW.contains (wordAt b 0) = true
            · rw [if_pos c4] at h
              have ha : hasIn b writesW = false := by
                unfold asksL at h
                cases hh : hasIn b writesW with
                | false => rfl
                | true => rw [hh] at h; simp at h
              have hm : wordAt b 0 = wSELECT ∨ wordAt b 0 = wVALUES ∨ wordAt b 0 = wTABLE ∨ wordAt b 0 = wWITH := by simpa [askW] using c4
              rcases hm with e | e | e | e <;> rw [e] <;> exact ⟨scan_start (by decide) e k h1 (fun _ => ha), by decide⟩
            · rw [if_neg c4] at h
              unfold beginL startL endsL setL at h
              repeat' split at h
              all_goals omega
  · rw [if_neg h0] at h; omega
end Go.Proofs.YtgclahlbifbgdaaGreatDoor
