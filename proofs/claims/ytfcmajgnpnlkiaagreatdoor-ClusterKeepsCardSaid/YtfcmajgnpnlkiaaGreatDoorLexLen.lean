/- How many tokens a text has, in plain words. -/
import Derived.Test.YtfcmajgnpnlkiaaGreatDoorProg
import Derived.Test.YtfcmajgnpnlkiaaGreatDoorLexLaw
set_option linter.unusedSimpArgs false
set_option linter.unusedVariables false
set_option maxRecDepth 100000
namespace Go.Proofs.YtfcmajgnpnlkiaaGreatDoor
open Go Go.Proofs.YtfcmajgnpnlkiaaGreatDoor.SL Go.RowKit
theorem contains_blank (c : UInt8) : ([32, 9, 10, 13] : BL).contains c = blankB c := by
  have key : ∀ a : UInt8, (c == a) = decide (c.toNat = a.toNat) := fun a => by
    by_cases h : c = a
    · subst h; simp
    · have : ¬ c.toNat = a.toNat := fun e => h (UInt8.toNat_inj.1 e);simp [h, this]
  simp only [List.contains_cons, key, List.contains_nil, Bool.or_false, blankB, ← Bool.or_assoc];rfl
theorem trimS_eq (l : BL) : Lib.trimS l [32, 9, 10, 13] = ((l.reverse.dropWhile blankB).reverse).dropWhile blankB := by
  unfold Lib.trimS Lib.trimLeftS Lib.trimRightS
  have : (fun x => ([32, 9, 10, 13] : BL).contains x) = blankB := funext contains_blank;rw [this]
theorem lexL_len : ∀ (n : Nat) {l : BL} {ts : List Tok}, l.length ≤ n → lexL l = some ts → ts.length ≤ l.length := by
  intro n
  induction n with
  | zero =>
    intro l ts hl h;have : l = [] := List.eq_nil_of_length_eq_zero (by omega);subst this;rw [lexL_nil] at h; cases h; simp
  | succ n ih =>
    intro l ts hl h
    cases l with
    | nil => rw [lexL_nil] at h; cases h; simp
    | cons c r =>
      rw [lexL_cons] at h;simp only [List.length_cons] at hl ⊢
      have key : ∀ (k : Nat) (us : List Tok), 1 ≤ k → lexL ((c :: r).drop k) = some us → us.length + 1 ≤ r.length + 1 := fun k us hk hu => by
        have := ih (by rw [List.length_drop, List.length_cons]; omega) hu;rw [List.length_drop, List.length_cons] at this; omega
      split at h
      · have := ih (by omega) h; omega
      · split at h
        · split at h
          · cases h
          · rename_i h1
            cases hu : lexL ((c :: r).drop (oneL (c :: r)).2.toNat) with
            | none => rw [hu] at h; cases h
            | some us =>
              rw [hu] at h
              cases h
              have := key _ us (oneL_le (by omega)).1 hu;simp only [List.length_cons]; omega
        · split at h
          · cases h
          · have := key _ ts (by omega) h; omega
theorem lexR_len (s : BL) : (lexR s).1.length ≤ 200 := by
  unfold lexR
  split
  · simp
  · cases h : lexL s with
    | none => simp
    | some ts =>
      have := lexL_len _ (Nat.le_refl _) h;simp only; omega
end Go.Proofs.YtfcmajgnpnlkiaaGreatDoor
