/- Package plan's tables, in plain words. -/
import Derived.Test.YtfcmajgnpnlkiaaGreatDoorProg
import Derived.Test.YtfcmajgnpnlkiaaGreatDoorLtLaw
set_option linter.unusedSimpArgs false
set_option linter.unusedVariables false
set_option maxRecDepth 100000
namespace Go.Proofs.YtfcmajgnpnlkiaaGreatDoor
open Go Go.Proofs.YtfcmajgnpnlkiaaGreatDoor.SL Go.RowKit
abbrev PR := BL × BL
def pE (p : PR) : List Value := [SV p.1, SV p.2]
abbrev PM := Int × BL × BL
def planV (p : PM) : Value := .agg #[.int .i64 p.1, SV p.2.1, SV p.2.2]
def tabB : List PR → Bool
  | a :: b :: l => ltB a.1 b.1 && tabB (b :: l)
  | _ => true
def posL (l : List PR) (key : BL) : Nat := (l.takeWhile fun p => ltB p.1 key).length
def isL (l : List PR) (key : BL) : Bool := match l[posL l key]? with | some x => decide (x.1 = key) | none => false
def writesL (p : PM) (l : List PR) : List PR × Int :=
  if p.1 = 3 ∧ isL l p.2.1 = false then (l.take (posL l p.2.1) ++ (p.2.1, p.2.2) :: l.drop (posL l p.2.1), 1)
  else if p.1 = 3 ∨ (p.1 = 4 ∧ isL l p.2.1 = true) then (l.set (posL l p.2.1) (p.2.1, p.2.2), 1)
  else if p.1 = 5 ∧ isL l p.2.1 = true then (l.eraseIdx (posL l p.2.1), 1)
  else (l, 0)
def readsL (p : PM) (l : List PR) : List BL :=
  if p.1 = 1 then (match l[posL l p.2.1]? with | some x => if x.1 = p.2.1 then [x.2] else [] | none => [])
  else if p.1 = 2 then (l.flatMap fun x => [x.1, x.2]).take 20
  else []
theorem tab_cons {a : PR} {l : List PR} (h : tabB (a :: l) = true) : tabB l = true ∧ ∀ x ∈ l, ltB a.1 x.1 = true := by
  induction l generalizing a with
  | nil => exact ⟨rfl, fun x hx => by simp at hx⟩
  | cons b l ih =>
    unfold tabB at h
    simp only [Bool.and_eq_true] at h;refine ⟨h.2, fun x hx => ?_⟩
    rcases List.mem_cons.1 hx with rfl | hx
    · exact h.1
    · exact ltB_trans h.1 ((ih h.2).2 x hx)
theorem tab_mk {a : PR} {l : List PR} (h : tabB l = true) (h1 : ∀ x ∈ l, ltB a.1 x.1 = true) : tabB (a :: l) = true := by
  cases l with
  | nil => rfl
  | cons b l => unfold tabB; rw [h1 b (by simp), h]; rfl
theorem pos_cons (a : PR) (l : List PR) (k : BL) : posL (a :: l) k = if ltB a.1 k = true then posL l k + 1 else 0 := by
  unfold posL
  rw [List.takeWhile_cons]
  cases ltB a.1 k <;> simp
theorem is_cons (a : PR) (l : List PR) (k : BL) : isL (a :: l) k = if ltB a.1 k = true then isL l k else decide (a.1 = k) := by
  unfold isL
  rw [pos_cons]
  cases ltB a.1 k <;> simp
theorem pos_le (l : List PR) (k : BL) : posL l k ≤ l.length := (List.takeWhile_sublist _).length_le
theorem tri_cases (a k : BL) : ltB a k = true ∨ a = k ∨ (ltB a k = false ∧ ltB k a = true ∧ a ≠ k) := by
  cases h1 : ltB a k with
  | true => exact .inl rfl
  | false =>
    cases h2 : ltB k a with
    | true => exact .inr (.inr ⟨rfl, rfl, fun e => ltB_ne h2 e.symm⟩)
    | false => exact .inr (.inl (ltB_tri h1 h2))
end Go.Proofs.YtfcmajgnpnlkiaaGreatDoor
