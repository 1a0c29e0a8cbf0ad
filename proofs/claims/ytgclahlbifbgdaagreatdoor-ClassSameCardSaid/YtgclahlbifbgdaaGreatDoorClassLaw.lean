/- Classing, in plain words: the class of tokens. -/
import Derived.Test.YtgclahlbifbgdaaGreatDoorProg
import Derived.Test.YtgclahlbifbgdaaGreatDoorClass2
import Derived.KernelRfl
set_option linter.unusedSimpArgs false
set_option linter.unusedVariables false
set_option maxRecDepth 100000
namespace Go.Proofs.YtgclahlbifbgdaaGreatDoor
open Go Go.Proofs.YtgclahlbifbgdaaGreatDoor.SL Go.RowKit
/-- Words, each between two spaces. -/
def spaced (ws : List BL) : BL := 32 :: ws.flatMap (· ++ [32])
def inL (w l : BL) : Bool := decide (w ≠ []) && Lib.contains l (32 :: (w ++ [32]))
/-- The word of a place; or nothing. -/
def wordAt (l : List Tok) (i : Nat) : BL := match l[i]? with | some t => if t.1 = 1 then t.2 else [] | none => []
def hasW (l : List Tok) (s : BL) : Bool := (List.range l.length).any fun i => inL (wordAt l i) s
def wSHOW : BL := [83, 72, 79, 87]
def wDESCRIBE : BL := [68, 69, 83, 67, 82, 73, 66, 69]
def wDESC : BL := [68, 69, 83, 67]
def wEXPLAIN : BL := [69, 88, 80, 76, 65, 73, 78]
def wCREATE : BL := [67, 82, 69, 65, 84, 69]
def wDROP : BL := [68, 82, 79, 80]
def wALTER : BL := [65, 76, 84, 69, 82]
def wTRUNCATE : BL := [84, 82, 85, 78, 67, 65, 84, 69]
def wGRANT : BL := [71, 82, 65, 78, 84]
def wREVOKE : BL := [82, 69, 86, 79, 75, 69]
def wCALL : BL := [67, 65, 76, 76]
def wLOCK : BL := [76, 79, 67, 75]
def wVALUES : BL := [86, 65, 76, 85, 69, 83]
def wTABLE : BL := [84, 65, 66, 76, 69]
def wBEGIN : BL := [66, 69, 71, 73, 78]
def wSTART : BL := [83, 84, 65, 82, 84]
def wCOMMIT : BL := [67, 79, 77, 77, 73, 84]
def wROLLBACK : BL := [82, 79, 76, 76, 66, 65, 67, 75]
def wSET : BL := [83, 69, 84]
def readsW : List BL := [wSHOW, wDESCRIBE, wDESC]
def changeW : List BL := [wINSERT, wUPDATE, wDELETE, wREPLACE, wCREATE, wDROP, wALTER, wTRUNCATE, wGRANT, wREVOKE, wCALL, wLOCK]
def askW : List BL := [wSELECT, wVALUES, wTABLE, wWITH]
def anaW : List BL := [wANALYZE, wANALYSE]
def wtW : List BL := [wWORK, wTRANSACTION]
def setW : List BL := [wAUTOCOMMIT, wGLOBAL, wPERSIST]
/-- The class of tokens. -/
def tokN : Nat → List Tok → Int
  | 0, _ => 7
  | f + 1, l =>
    if (l.any fun t => decide (t = signL)) then 7
    else if readsW.contains (wordAt l 0) then 1
    else if wordAt l 0 = wEXPLAIN then (if wordIn l 1 anaW then (if tokN f (l.drop 2) = 2 ∨ tokN f (l.drop 2) = 7 then tokN f (l.drop 2) else 1) else 1)
    else if changeW.contains (wordAt l 0) then 2
    else if askW.contains (wordAt l 0) then asksL l
    else if wordAt l 0 = wBEGIN then beginL l
    else if wordAt l 0 = wSTART then startL l
    else if wordAt l 0 = wCOMMIT then endsL 4 l
    else if wordAt l 0 = wROLLBACK then endsL 5 l
    else if wordAt l 0 = wSET then setL l
    else 7
/-- Words are no empty ones, and have no space. -/
def Good (l : List Tok) : Prop := ∀ t ∈ l, t.1 = 1 → t.2 ≠ [] ∧ (32 : UInt8) ∉ t.2
theorem Good.drop {l : List Tok} (h : Good l) (k : Nat) : Good (l.drop k) := fun t ht => h t (List.mem_of_mem_drop ht)
theorem Good.at {l : List Tok} (h : Good l) (i : Nat) : (32 : UInt8) ∉ wordAt l i := by
  unfold wordAt
  cases hi : l[i]? with
  | none => simp
  | some t =>
    simp only
    by_cases hk : t.1 = 1
    · rw [if_pos hk]; exact (h t (List.mem_of_getElem? hi) hk).2
    · rw [if_neg hk]; simp
theorem pre_word : ∀ {a w : BL} {r q : BL}, (32 : UInt8) ∉ a → (32 : UInt8) ∉ w → Lib.hasPrefix (a ++ 32 :: r) (w ++ 32 :: q) = (decide (w = a) && Lib.hasPrefix r q)
  | [], [], r, q, _, _ => by simp [pre_cons]
  | [], x :: w, r, q, _, hw => by
    have : (32 : UInt8) ≠ x := fun e => hw (by simp [← e])
    rw [List.nil_append, List.cons_append, pre_cons]; simp [this]
  | x :: a, [], r, q, ha, _ => by
    have : x ≠ (32 : UInt8) := fun e => ha (by simp [e])
    rw [List.nil_append, List.cons_append, pre_cons]; simp [this]
  | x :: a, y :: w, r, q, ha, hw => by
    simp only [List.mem_cons, not_or] at ha hw
    rw [List.cons_append, List.cons_append, pre_cons, pre_word ha.2 hw.2]
    by_cases h : x = y
    · subst h; simp
    · have h2 : ¬ (y = x ∧ w = a) := fun e => h e.1.symm
      have h3 : ¬ y = x := fun e => h e.symm
      simp [h, h3]
theorem contains_cons (a : UInt8) (l p : BL) : Lib.contains (a :: l) p = (Lib.hasPrefix (a :: l) p || Lib.contains l p) := by
  unfold Lib.contains
  have hge := Lib.index_ge l p
  have e : Lib.index (a :: l) p = if p.isPrefixOf (a :: l) then 0 else if Lib.index l p == -1 then -1 else Lib.index l p + 1 := by conv => lhs; unfold Lib.index
  rw [e]
  unfold Lib.hasPrefix
  cases p.isPrefixOf (a :: l) with
  | true => simp
  | false =>
    by_cases h : Lib.index l p = -1
    · simp [h]
    · have h2 : Lib.index l p ≥ 0 := by omega
      have h3 : Lib.index l p + 1 ≥ 0 := by omega
      simp [h, h2, h3]
theorem contains_skip : ∀ {a r p : BL}, (32 : UInt8) ∉ a → Lib.contains (a ++ r) (32 :: p) = Lib.contains r (32 :: p)
  | [], _, _, _ => rfl
  | x :: a, r, p, h => by
    simp only [List.mem_cons, not_or] at h
    rw [List.cons_append, contains_cons, contains_skip h.2, pre_cons]
    have h3 : ¬ x = 32 := fun e => h.1 e.symm
    simp [h3]
theorem contains_spaced {w : BL} (hw : (32 : UInt8) ∉ w) : ∀ (ws : List BL), (∀ x ∈ ws, (32 : UInt8) ∉ x) → w ≠ [] → Lib.contains (spaced ws) (32 :: (w ++ [32])) = ws.contains w
  | [], _, h0 => by
    unfold spaced
    rw [List.flatMap_nil, contains_cons, pre_cons]
    cases w with
    | nil => exact absurd rfl h0
    | cons x w => simp [Lib.hasPrefix, List.isPrefixOf, Lib.contains, Lib.index]
  | a :: ws, h, h0 => by
    have ih := contains_spaced hw ws (fun x hx => h x (by simp [hx])) h0
    have ha := h a (by simp)
    have e : spaced (a :: ws) = 32 :: (a ++ spaced ws) := by simp [spaced]
    rw [e, contains_cons, contains_skip ha, ih, pre_cons]
    have e2 : spaced ws = 32 :: ws.flatMap (· ++ [32]) := rfl
    rw [e2, pre_word ha hw]
    have e3 : Lib.hasPrefix (ws.flatMap (· ++ [32])) [] = true := by simp [Lib.hasPrefix]
    rw [e3, List.contains_cons]
    by_cases hwa : w = a <;> simp [hwa]
theorem in_spaced {w : BL} (hw : (32 : UInt8) ∉ w) {ws : List BL} (h : ∀ x ∈ ws, (32 : UInt8) ∉ x ∧ x ≠ []) : inL w (spaced ws) = ws.contains w := by
  unfold inL
  by_cases h0 : w = []
  · subst h0
    have : ws.contains ([] : BL) = false := by
      rw [Bool.eq_false_iff]
      intro e
      exact (h [] (by simpa using e)).2 rfl
    rw [this]; simp
  · rw [contains_spaced hw ws (fun x hx => (h x hx).1) h0]; simp [h0]
theorem in_wordIn {l : List Tok} (hg : Good l) (i : Nat) {ws : List BL} (h : ∀ x ∈ ws, (32 : UInt8) ∉ x ∧ x ≠ []) : inL (wordAt l i) (spaced ws) = wordIn l i ws := by
  rw [in_spaced (hg.at i) h]
  unfold wordAt wordIn
  have hn : ws.contains ([] : BL) = false := by
    rw [Bool.eq_false_iff]
    intro e
    exact (h [] (by simpa using e)).2 rfl
  cases l[i]? with
  | none => exact hn
  | some t =>
    simp only
    by_cases hk : t.1 = 1
    · simp [hk]
    · simp only [if_neg hk, decide_eq_false hk, Bool.false_and]; exact hn
theorem eq_wordIn {l : List Tok} (i : Nat) {w : BL} (h : w ≠ []) : decide (wordAt l i = w) = wordIn l i [w] := by
  unfold wordAt wordIn
  cases l[i]? with
  | none => exact decide_eq_false fun e => h e.symm
  | some t =>
    simp only
    by_cases hk : t.1 = 1
    · simp [hk, List.contains_cons]
    · simp only [if_neg hk, decide_eq_false hk, Bool.false_and]; exact decide_eq_false fun e => h e.symm
theorem hasW_spaced {l : List Tok} (hg : Good l) {ws : List BL} (h : ∀ x ∈ ws, (32 : UInt8) ∉ x ∧ x ≠ []) : hasW l (spaced ws) = hasIn l ws := by
  unfold hasW hasIn
  rw [Bool.eq_iff_iff, List.any_eq_true, List.any_eq_true]
  constructor
  · rintro ⟨i, hi, hin⟩
    rw [in_wordIn hg i h] at hin
    unfold wordIn at hin
    cases hx : l[i]? with
    | none => rw [hx] at hin; cases hin
    | some t => rw [hx] at hin; exact ⟨t, List.mem_of_getElem? hx, hin⟩
  · rintro ⟨t, ht, hp⟩
    obtain ⟨i, hi⟩ := List.getElem?_of_mem ht
    refine ⟨i, List.mem_range.2 (List.getElem?_eq_some_iff.1 hi).1, ?_⟩
    rw [in_wordIn hg i h]
    unfold wordIn
    rw [hi]; exact hp
theorem ok_readsW : ∀ x ∈ readsW, (32 : UInt8) ∉ x ∧ x ≠ [] := by decide
theorem ok_changeW : ∀ x ∈ changeW, (32 : UInt8) ∉ x ∧ x ≠ [] := by decide
theorem ok_askW : ∀ x ∈ askW, (32 : UInt8) ∉ x ∧ x ≠ [] := by decide
theorem ok_anaW : ∀ x ∈ anaW, (32 : UInt8) ∉ x ∧ x ≠ [] := by decide
theorem ok_wtW : ∀ x ∈ wtW, (32 : UInt8) ∉ x ∧ x ≠ [] := by decide
theorem ok_setW : ∀ x ∈ setW, (32 : UInt8) ∉ x ∧ x ≠ [] := by decide
theorem ok_writesW : ∀ x ∈ writesW, (32 : UInt8) ∉ x ∧ x ≠ [] := by decide
def selW : List BL := [wSELECT]
theorem ok_selW : ∀ x ∈ selW, (32 : UInt8) ∉ x ∧ x ≠ [] := by decide
theorem sp_readsW : spaced readsW = [32, 83, 72, 79, 87, 32, 68, 69, 83, 67, 82, 73, 66, 69, 32, 68, 69, 83, 67, 32] := by decide
theorem sp_changeW : spaced changeW = [32, 73, 78, 83, 69, 82, 84, 32, 85, 80, 68, 65, 84, 69, 32, 68, 69, 76, 69, 84, 69, 32, 82, 69, 80, 76, 65, 67, 69, 32, 67, 82, 69, 65, 84, 69, 32, 68, 82, 79, 80, 32, 65, 76, 84, 69, 82, 32, 84, 82, 85, 78, 67, 65, 84, 69, 32, 71, 82, 65, 78, 84, 32, 82, 69, 86, 79, 75, 69, 32, 67, 65, 76, 76, 32, 76, 79, 67, 75, 32] := by decide
theorem sp_askW : spaced askW = [32, 83, 69, 76, 69, 67, 84, 32, 86, 65, 76, 85, 69, 83, 32, 84, 65, 66, 76, 69, 32, 87, 73, 84, 72, 32] := by decide
theorem sp_anaW : spaced anaW = [32, 65, 78, 65, 76, 89, 90, 69, 32, 65, 78, 65, 76, 89, 83, 69, 32] := by decide
theorem sp_wtW : spaced wtW = [32, 87, 79, 82, 75, 32, 84, 82, 65, 78, 83, 65, 67, 84, 73, 79, 78, 32] := by decide
theorem sp_setW : spaced setW = [32, 65, 85, 84, 79, 67, 79, 77, 77, 73, 84, 32, 71, 76, 79, 66, 65, 76, 32, 80, 69, 82, 83, 73, 83, 84, 32] := by decide
theorem sp_writesW : spaced writesW = [32, 73, 78, 83, 69, 82, 84, 32, 85, 80, 68, 65, 84, 69, 32, 68, 69, 76, 69, 84, 69, 32, 82, 69, 80, 76, 65, 67, 69, 32, 73, 78, 84, 79, 32, 83, 72, 65, 82, 69, 32] := by decide
theorem sp_selW : spaced selW = [32, 83, 69, 76, 69, 67, 84, 32] := by decide
end Go.Proofs.YtgclahlbifbgdaaGreatDoor
