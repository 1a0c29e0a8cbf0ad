/- The statement ClusterLeads, walked. -/
import Derived.Test.YtfcmajgnpnlkiaaGreatDoorProg
import Derived.Test.YtfcmajgnpnlkiaaGreatDoorCluLaw
import Derived.Test.YtfcmajgnpnlkiaaGreatDoorSLB
import Derived.KernelRfl
set_option linter.unusedSimpArgs false
set_option linter.unusedVariables false
set_option maxRecDepth 100000
set_option maxHeartbeats 4000000
namespace Go.Proofs.YtfcmajgnpnlkiaaGreatDoor
open Go Go.Proofs.YtfcmajgnpnlkiaaGreatDoor.SL Go.RowKit
theorem large6_no {l : List A6} (h : large6 l = false) : l.length ≤ 60 ∧ ∀ x ∈ l, x.tx.length ≤ 300 := by
  unfold large6 at h
  rw [Bool.or_eq_false_iff] at h;obtain ⟨h1, h2⟩ := h;refine ⟨by simpa using h1, fun x hx => ?_⟩;have := List.any_eq_false.1 h2 x hx
  simpa using this
theorem atC_nat {C : CD} {i : Nat} : atC C i = C.ns[i]? := by unfold atC; rw [if_pos (by omega), Int.toNat_natCast]
end Go.Proofs.YtfcmajgnpnlkiaaGreatDoor
