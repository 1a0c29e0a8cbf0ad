/- The order of texts, in plain words. -/
import Derived.Test.YtfcmajgnpnlkiaaGreatDoorProg
import Derived.Test.YtfcmajgnpnlkiaaGreatDoorStrs
set_option linter.unusedSimpArgs false
set_option linter.unusedVariables false
set_option maxRecDepth 100000
namespace Go.Proofs.YtfcmajgnpnlkiaaGreatDoor
open Go Go.Proofs.YtfcmajgnpnlkiaaGreatDoor.SL Go.RowKit
abbrev ltB (a b : BL) : Bool := Op.bytesLess a b
theorem ltB_cons (a b : UInt8) (x y : BL) : ltB (a :: x) (b :: y) = (decide (a.toNat < b.toNat) || (decide (a.toNat = b.toNat) && ltB x y)) := by
  show (decide (a < b) || (a == b && ltB x y)) = _
  have h1 : decide (a < b) = decide (a.toNat < b.toNat) := by simp [UInt8.lt_iff_toNat_lt]
  have h2 : (a == b) = decide (a.toNat = b.toNat) := by
    rw [Bool.eq_iff_iff];simp [UInt8.toNat_inj]
  rw [h1, h2]
theorem ltB_irrefl : ∀ a : BL, ltB a a = false
  | [] => rfl
  | a :: x => by rw [ltB_cons, ltB_irrefl x]; simp
theorem ltB_trans : ∀ {a b c : BL}, ltB a b = true → ltB b c = true → ltB a c = true
  | a, [], c, h, _ => by cases a <;> cases h
  | a, b :: y, [], _, h => by cases h
  | [], b :: y, c :: z, _, _ => rfl
  | a :: x, b :: y, c :: z, h1, h2 => by
    rw [ltB_cons] at h1 h2 ⊢;simp only [Bool.or_eq_true, Bool.and_eq_true, decide_eq_true_eq] at h1 h2 ⊢
    rcases h1 with h1 | ⟨h1, h1'⟩
    · rcases h2 with h2 | ⟨h2, _⟩ <;> (left; omega)
    · rcases h2 with h2 | ⟨h2, h2'⟩
      · left; omega
      · exact .inr ⟨by omega, ltB_trans h1' h2'⟩
theorem ltB_tri : ∀ {a b : BL}, ltB a b = false → ltB b a = false → a = b
  | [], [], _, _ => rfl
  | [], b :: y, h, _ => by cases h
  | a :: x, [], _, h => by cases h
  | a :: x, b :: y, h1, h2 => by
    rw [ltB_cons] at h1 h2;simp only [Bool.or_eq_false_iff, Bool.and_eq_false_iff, decide_eq_false_iff_not] at h1 h2;have e : a.toNat = b.toNat := by omega
    have h1' := h1.2.resolve_left (fun h => h e);have h2' := h2.2.resolve_left (fun h => h e.symm);rw [ltB_tri h1' h2', UInt8.toNat_inj.1 e]
theorem ltB_asymm {a b : BL} (h : ltB a b = true) : ltB b a = false := by
  cases hb : ltB b a with
  | false => rfl
  | true => have := ltB_trans h hb; rw [ltB_irrefl] at this; cases this
theorem ltB_ne {a b : BL} (h : ltB a b = true) : a ≠ b := fun e => by subst e; rw [ltB_irrefl] at h; cases h
end Go.Proofs.YtfcmajgnpnlkiaaGreatDoor
