/- The statement NodeFences, walked. -/
import Derived.Test.YtighdkdomfpadaaGreatDoorProg
import Derived.Test.YtighdkdomfpadaaGreatDoorNodeY
import Derived.Test.YtighdkdomfpadaaGreatDoorSLB
import Derived.KernelRfl
set_option linter.unusedSimpArgs false
set_option linter.unusedVariables false
set_option maxRecDepth 100000
set_option maxHeartbeats 4000000
namespace Go.Proofs.YtighdkdomfpadaaGreatDoor
open Go Go.Proofs.YtighdkdomfpadaaGreatDoor.SL Go.RowKit
theorem do_ok {ss : List ND} {x : AC} (hok : ∀ s ∈ ss, NOk s) (h0 : 0 ≤ x.ep) (h1 : x.ep < 18446744073709551616) (ht : x.tx.length ≤ 300) : (doL ss x).1.length = ss.length ∧ ∀ s ∈ (doL ss x).1, NOk s := by
  have key : ∀ (i : Nat) (s' : ND), NOk s' → (ss.set i s').length = ss.length ∧ ∀ s ∈ ss.set i s', NOk s := fun i s' h => ⟨by simp, fun s hs => by
    rcases List.mem_or_eq_of_mem_set hs with hs | rfl
    · exact hok s hs
    · exact h⟩
  unfold doL
  cases hs : ss[ofI x.nd]? with
  | none => exact ⟨rfl, hok⟩
  | some s =>
    have hns := hok s (List.mem_of_getElem? hs);simp only
    split
    · exact key _ _ (hns.run _ _ _ ht)
    · split
      · exact key _ _ (hns.close _)
      · split
        · exact key _ _ (hns.lead h0 h1)
        · cases hf : ss[ofI x.fr]? with
          | none => exact ⟨rfl, hok⟩
          | some f => exact key _ _ (hns.copy (hok f (List.mem_of_getElem? hf)) _)
theorem large_no {l : List AC} (h : largeL l = false) : l.length ≤ 60 ∧ ∀ x ∈ l, x.tx.length ≤ 300 := by
  unfold largeL at h
  rw [Bool.or_eq_false_iff] at h;obtain ⟨h1, h2⟩ := h;refine ⟨by simpa using h1, fun x hx => ?_⟩;have := List.any_eq_false.1 h2 x hx
  simpa using this
end Go.Proofs.YtighdkdomfpadaaGreatDoor
