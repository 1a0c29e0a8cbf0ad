/- The reference of plans, walked; the law's own functions. -/
import Derived.Test.YtighdkdomfpadaaGreatDoorProg
import Derived.Test.YtighdkdomfpadaaGreatDoorPlanLaw
import Derived.Test.YtighdkdomfpadaaGreatDoorSLB
import Derived.KernelRfl
set_option linter.unusedSimpArgs false
set_option linter.unusedVariables false
set_option maxRecDepth 100000
set_option maxHeartbeats 4000000
namespace Go.Proofs.YtighdkdomfpadaaGreatDoor
open Go Go.Proofs.YtighdkdomfpadaaGreatDoor.SL Go.RowKit
/-- A program's pair, and the document's. -/
theorem tab_at {l : List PR} : tabB l = true ↔ ∀ (i : Nat) (a b : PR), l[i]? = some a → l[i + 1]? = some b → ltB a.1 b.1 = true := by
  induction l with
  | nil => simp [tabB]
  | cons x l ih =>
    cases l with
    | nil => simp [tabB]
    | cons y l =>
      unfold tabB
      rw [Bool.and_eq_true, ih]
      constructor
      · rintro ⟨h1, h2⟩ i a b ha hb
        cases i with
        | zero => simp at ha hb; subst ha; subst hb; exact h1
        | succ i => exact h2 i a b (by simpa using ha) (by simpa using hb)
      · intro h
        exact ⟨h 0 x y rfl rfl, fun i a b ha hb => h (i + 1) a b (by simpa using ha) (by simpa using hb)⟩
end Go.Proofs.YtighdkdomfpadaaGreatDoor
