/- Package lex, walked: Right, Write. -/
import Derived.Test.YtighdkdomfpadaaGreatDoorProg
import Derived.Test.YtighdkdomfpadaaGreatDoorLex
import Derived.Lib.ReplaceLaws
import Derived.Test.YtighdkdomfpadaaGreatDoorSLB
import Derived.KernelRfl
set_option linter.unusedSimpArgs false
set_option linter.unusedVariables false
set_option maxRecDepth 100000
namespace Go.Proofs.YtighdkdomfpadaaGreatDoor
open Go Go.Proofs.YtighdkdomfpadaaGreatDoor.SL Go.RowKit
theorem tok_eq (a b : Tok) : (decide (a.1 = b.1) && decide (a.2 = b.2)) = decide (a = b) := by
  cases a; cases b; simp [Prod.ext_iff]
theorem index_cons (q c : UInt8) (s : BL) : Lib.index (c :: s) [q] = if c = q then 0 else if Lib.index s [q] == -1 then -1 else Lib.index s [q] + 1 := by
  conv => lhs; unfold Lib.index
  have : [q].isPrefixOf (c :: s) = decide (c = q) := by
    by_cases h : c = q
    · subst h; simp [List.isPrefixOf]
    · have h2 : (q == c) = false := by
        cases hb : (q == c) with
        | false => rfl
        | true => exact absurd (by simpa using hb) (fun e : q = c => h e.symm)
      simp only [List.isPrefixOf, h2, Bool.false_and, decide_eq_false h]
  rw [this]
  by_cases h : c = q <;> simp [h]
theorem map_take_succ {α β : Type} (f : α → β) {l : List α} {k : Nat} {x : α} (h : l[k]? = some x) : (l.take (k + 1)).map f = (l.take k).map f ++ [f x] := by
  rw [List.take_add_one, h]; simp
end Go.Proofs.YtighdkdomfpadaaGreatDoor
