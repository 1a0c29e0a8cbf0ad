/- What does something is classed so. -/
import Derived.Test.YtmedbdcjniggcaaGreatDoorProg
import Derived.Test.YtmedbdcjniggcaaGreatDoorOfLaw
import Derived.Test.YtmedbdcjniggcaaGreatDoorClassA
import Derived.KernelRfl
set_option linter.unusedSimpArgs false
set_option linter.unusedVariables false
set_option maxRecDepth 100000
namespace Go.Proofs.YtmedbdcjniggcaaGreatDoor
open Go Go.Proofs.YtmedbdcjniggcaaGreatDoor.SL Go.RowKit
theorem match_one {t g : Tok} (h : matchT t g = true) : t = (g.1, if g.1 = 3 then t.2 else g.2) := by
  unfold matchT at h
  simp only [Bool.and_eq_true, Bool.or_eq_true, decide_eq_true_eq] at h
  obtain ⟨h1, h2⟩ := h
  cases t with
  | mk a b =>
    simp only at h1 h2
    subst h1
    by_cases h3 : g.1 = 3
    · rw [if_pos h3]
    · rw [if_neg h3, h2.resolve_left h3]
theorem match_cons {m : List Tok} {g : Tok} {f : List Tok} (h : matchF m (g :: f) = true) : ∃ s q, m = (g.1, if g.1 = 3 then s else g.2) :: q ∧ matchF q f = true := by
  cases m with
  | nil => simp [matchF] at h
  | cons t q =>
    simp only [matchF, Bool.and_eq_true] at h
    exact ⟨t.2, q, by rw [← match_one h.1], h.2⟩
theorem match_nil {m : List Tok} (h : matchF m [] = true) : m = [] := by
  cases m with
  | nil => rfl
  | cons t q => simp [matchF] at h
theorem class1 {m : List Tok} (h : matchF m toks1 = true) : tokN 201 m = 1 := by
  unfold toks1 at h
  obtain ⟨s1, q1, rfl, h1⟩ := match_cons h
  obtain ⟨s2, q2, rfl, h2⟩ := match_cons h1
  obtain ⟨s3, q3, rfl, h3⟩ := match_cons h2
  obtain ⟨s4, q4, rfl, h4⟩ := match_cons h3
  obtain ⟨s5, q5, rfl, h5⟩ := match_cons h4
  obtain ⟨s6, q6, rfl, h6⟩ := match_cons h5
  obtain ⟨s7, q7, rfl, h7⟩ := match_cons h6
  obtain ⟨s8, q8, rfl, h8⟩ := match_cons h7
  rw [match_nil h8]
  kernel_rfl
theorem class2 {m : List Tok} (h : matchF m toks2 = true) : tokN 201 m = 1 := by
  unfold toks2 at h
  obtain ⟨s1, q1, rfl, h1⟩ := match_cons h
  obtain ⟨s2, q2, rfl, h2⟩ := match_cons h1
  obtain ⟨s3, q3, rfl, h3⟩ := match_cons h2
  obtain ⟨s4, q4, rfl, h4⟩ := match_cons h3
  rw [match_nil h4]
  kernel_rfl
theorem class3 {m : List Tok} (h : matchF m toks3 = true) : tokN 201 m = 2 := by
  unfold toks3 at h
  obtain ⟨s1, q1, rfl, h1⟩ := match_cons h
  obtain ⟨s2, q2, rfl, h2⟩ := match_cons h1
  obtain ⟨s3, q3, rfl, h3⟩ := match_cons h2
  obtain ⟨s4, q4, rfl, h4⟩ := match_cons h3
  obtain ⟨s5, q5, rfl, h5⟩ := match_cons h4
  obtain ⟨s6, q6, rfl, h6⟩ := match_cons h5
  obtain ⟨s7, q7, rfl, h7⟩ := match_cons h6
  obtain ⟨s8, q8, rfl, h8⟩ := match_cons h7
  obtain ⟨s9, q9, rfl, h9⟩ := match_cons h8
  rw [match_nil h9]
  kernel_rfl
theorem class4 {m : List Tok} (h : matchF m toks4 = true) : tokN 201 m = 2 := by
  unfold toks4 at h
  obtain ⟨s1, q1, rfl, h1⟩ := match_cons h
  obtain ⟨s2, q2, rfl, h2⟩ := match_cons h1
  obtain ⟨s3, q3, rfl, h3⟩ := match_cons h2
  obtain ⟨s4, q4, rfl, h4⟩ := match_cons h3
  obtain ⟨s5, q5, rfl, h5⟩ := match_cons h4
  obtain ⟨s6, q6, rfl, h6⟩ := match_cons h5
  obtain ⟨s7, q7, rfl, h7⟩ := match_cons h6
  obtain ⟨s8, q8, rfl, h8⟩ := match_cons h7
  obtain ⟨s9, q9, rfl, h9⟩ := match_cons h8
  obtain ⟨s10, q10, rfl, h10⟩ := match_cons h9
  rw [match_nil h10]
  kernel_rfl
theorem class5 {m : List Tok} (h : matchF m toks5 = true) : tokN 201 m = 2 := by
  unfold toks5 at h
  obtain ⟨s1, q1, rfl, h1⟩ := match_cons h
  obtain ⟨s2, q2, rfl, h2⟩ := match_cons h1
  obtain ⟨s3, q3, rfl, h3⟩ := match_cons h2
  obtain ⟨s4, q4, rfl, h4⟩ := match_cons h3
  obtain ⟨s5, q5, rfl, h5⟩ := match_cons h4
  obtain ⟨s6, q6, rfl, h6⟩ := match_cons h5
  obtain ⟨s7, q7, rfl, h7⟩ := match_cons h6
  rw [match_nil h7]
  kernel_rfl
/-- What reads is a read, what writes is a write. -/
theorem plan_class (s : BL) : (((planL s).1 = 1 ∨ (planL s).1 = 2) → classL s = 1) ∧ (((planL s).1 = 3 ∨ (planL s).1 = 4 ∨ (planL s).1 = 5) → classL s = 2) ∧ 0 ≤ (planL s).1 ∧ (planL s).1 ≤ 5 := by
  have hok := lexR_ok s
  unfold planL classL
  by_cases he : (lexR s).2 = 0
  · rw [if_pos he, if_pos he, of_ref hok]
    unfold refOf
    split
    · rename_i h; exact ⟨fun _ => class1 h, fun e => by simp at e, by simp, by simp⟩
    · split
      · rename_i h; exact ⟨fun _ => class2 h, fun e => by simp at e, by simp, by simp⟩
      · split
        · rename_i h; exact ⟨fun e => by simp at e, fun _ => class3 h, by simp, by simp⟩
        · split
          · rename_i h; exact ⟨fun e => by simp at e, fun _ => class4 h, by simp, by simp⟩
          · split
            · rename_i h; exact ⟨fun e => by simp at e, fun _ => class5 h, by simp, by simp⟩
            · exact ⟨fun e => by simp at e, fun e => by simp at e, by simp, by simp⟩
  · rw [if_neg he]
    exact ⟨fun e => by simp at e, fun e => by simp at e, by simp, by simp⟩
end Go.Proofs.YtmedbdcjniggcaaGreatDoor
