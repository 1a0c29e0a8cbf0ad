/- The reference of plans, walked: Writes; the law's large. -/
import Derived.Test.YtmedbdcjniggcaaGreatDoorProg
import Derived.Test.YtmedbdcjniggcaaGreatDoorRefPlan2
import Derived.Test.YtmedbdcjniggcaaGreatDoorSLB
import Derived.KernelRfl
set_option linter.unusedSimpArgs false
set_option linter.unusedVariables false
set_option maxRecDepth 100000
set_option maxHeartbeats 4000000
namespace Go.Proofs.YtmedbdcjniggcaaGreatDoor
open Go Go.Proofs.YtmedbdcjniggcaaGreatDoor.SL Go.RowKit
theorem rwAll_succ (p : PM) {l : List PR} {k : Nat} {x : PR} (h : l[k]? = some x) : rwAll p (l.take (k + 1)) = rwStep p x (rwAll p (l.take k)) := by
  unfold rwAll
  rw [List.take_add_one, h, List.foldl_append]
  rfl
theorem rwStep_len (p : PM) (x : PR) (s : RW) : (rwStep p x s).out.length ≤ s.out.length + 2 := by
  unfold rwStep
  split <;> split <;> simp only
  · simp
  · split <;> simp
  · simp
  · split <;> simp
theorem rwAll_len (p : PM) (l : List PR) : ∀ k, k ≤ l.length → (rwAll p (l.take k)).out.length ≤ 2 * k
  | 0, _ => by simp [rwAll]
  | k + 1, h => by
    obtain ⟨x, hx⟩ : ∃ x, l[k]? = some x := ⟨_, List.getElem?_eq_getElem (by omega)⟩
    rw [rwAll_succ p hx]
    have := rwStep_len p x (rwAll p (l.take k))
    have := rwAll_len p l k (by omega)
    omega
/-- How much a table is. -/
def sumP (l : List PR) : Nat := (l.map fun x => x.1.length + x.2.length + 1).sum
def largeP (l : List PR) : Bool := decide (100 < l.length) || decide (10000 < sumP l) || !tabB l
theorem sumP_succ {l : List PR} {k : Nat} {x : PR} (h : l[k]? = some x) : sumP (l.take (k + 1)) = sumP (l.take k) + (x.1.length + x.2.length + 1) := by
  unfold sumP
  rw [List.take_add_one, h]
  simp
theorem sumP_take (l : List PR) (k : Nat) : sumP (l.take k) ≤ sumP l := by
  unfold sumP
  have : l = l.take k ++ l.drop k := (List.take_append_drop k l).symm
  conv => rhs; rw [this]
  rw [List.map_append, List.sum_append]
  omega
theorem sumP_mem {l : List PR} {x : PR} (h : x ∈ l) : x.1.length + x.2.length + 1 ≤ sumP l := by
  unfold sumP
  induction l with
  | nil => simp at h
  | cons a l ih =>
    rw [List.map_cons, List.sum_cons]
    rcases List.mem_cons.1 h with rfl | h
    · omega
    · have := ih h; omega
end Go.Proofs.YtmedbdcjniggcaaGreatDoor
