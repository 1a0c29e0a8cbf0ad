/- The statement NodeFences, walked. -/
import Derived.Test.YtfcmajgnpnlkiaaGreatDoorProg
import Derived.Test.YtfcmajgnpnlkiaaGreatDoorNodeY
import Derived.Test.YtfcmajgnpnlkiaaGreatDoorSLB
import Derived.KernelRfl
set_option linter.unusedSimpArgs false
set_option linter.unusedVariables false
set_option maxRecDepth 100000
set_option maxHeartbeats 4000000
namespace Go.Proofs.YtfcmajgnpnlkiaaGreatDoor
open Go Go.Proofs.YtfcmajgnpnlkiaaGreatDoor.SL Go.RowKit
theorem lay_law (s : ND) (ts : List BL) : ∃ ext, (layN s ts).1.lg = s.lg ++ ext ∧ (layN s ts).1.ep = s.ep ∧ (layN s ts).1.ld = s.ld ∧ (∀ e ∈ ext, e.1 = s.ep) ∧ (ext ≠ [] → (layN s ts).2 = 0) := by
  unfold layN
  split
  · exact ⟨[], by simp, rfl, rfl, by simp, by simp⟩
  · exact ⟨_, rfl, rfl, rfl, by simp, fun _ => rfl⟩
theorem do_law (s : ND) (k is : Int) (t : BL) : ∃ ext, (doN s k is t).1.lg = s.lg ++ ext ∧ (doN s k is t).1.ep = s.ep ∧ (doN s k is t).1.ld = s.ld ∧ (∀ e ∈ ext, e.1 = s.ep) ∧ (ext ≠ [] → (doN s k is t).2 = 0) := by
  have triv : ∀ (s' : ND) (e : Int), s'.lg = s.lg → s'.ep = s.ep → s'.ld = s.ld → ∃ ext, s'.lg = s.lg ++ ext ∧ s'.ep = s.ep ∧ s'.ld = s.ld ∧ (∀ e ∈ ext, e.1 = s.ep) ∧ (ext ≠ [] → e = 0) := fun s' e h1 h2 h3 => ⟨[], by rw [h1, List.append_nil], h2, h3, by simp, by simp⟩
  unfold doN
  split
  · split <;> exact triv _ _ rfl rfl rfl
  · split
    · split
      · obtain ⟨ext, h1, h2, h3, h4, h5⟩ := lay_law ⟨s.ep, s.ld, s.lg, s.op.eraseIdx _⟩ (trx s.op _);exact ⟨ext, h1, h2, h3, h4, h5⟩
      · exact triv _ _ rfl rfl rfl
    · split
      · split <;> exact triv _ _ rfl rfl rfl
      · split
        · split
          · split <;> exact triv _ _ rfl rfl rfl
          · exact lay_law s [t]
        · exact triv _ _ rfl rfl rfl
structure RunLaw (s : ND) (e : Int) (rd : Bool) (t : BL) (s' : ND) (r : RP) (ext : List Ent) : Prop where
  lg : s'.lg = s.lg ++ ext
  ep : s'.ep = s.ep
  ld : s'.ld = s.ld
  rep : r.ep = s.ep
  rpl : r.pl = s'.lg.length
  all : ∀ x ∈ ext, x.1 = s.ep
  laid : ext ≠ [] → r.er = 0 ∧ e = s.ep ∧ s.ld = true ∧ rd = false ∧ classL t ≠ 1 ∧ classL t ≠ 0
  stale : e ≠ s.ep → r.er = 8
  state : s.ld = false → rd = false → r.er ≠ 0
  reads : r.tx ≠ [] → classL t = 1
theorem run_law (s : ND) (k e : Int) (rd : Bool) (t : BL) : ∃ ext, RunLaw s e rd t (runN s k e rd t).1 (runN s k e rd t).2 ext := by
  have hm : ∀ is, (e ≠ s.ep → mayN s e rd is = 8) ∧ (mayN s e rd is = 0 → e = s.ep ∧ is ≠ 0 ∧ (rd = true → is = 1) ∧ (rd = false → s.ld = true)) := by
    intro is
    unfold mayN
    constructor
    · intro h; rw [if_pos h]
    · split
      · intro h; cases h
      · split
        · intro h; cases h
        · split
          · intro h; cases h
          · rename_i h1 h2 h3
            intro _;refine ⟨by omega, fun h => h2 (.inl h), fun h => ?_, fun h => ?_⟩
            · by_cases h4 : is = 1
              · exact h4
              · exact absurd (.inr ⟨h, h4⟩) h2
            · cases hl : s.ld with
              | true => rfl
              | false => exact absurd ⟨h, hl⟩ h3
  obtain ⟨m1, m2⟩ := hm (classL t)
  unfold runN
  split
  · rename_i hne
    refine ⟨[], by simp, rfl, rfl, rfl, rfl, by simp, by simp, m1, fun h1 h2 => hne, by simp⟩
  · rename_i hz
    have hz' : mayN s e rd (classL t) = 0 := by
      by_cases h : mayN s e rd (classL t) = 0
      · exact h
      · exact absurd h hz
    obtain ⟨a1, a2, a3, a4⟩ := m2 hz'
    split
    · rename_i h1
      exact ⟨[], by simp, rfl, rfl, rfl, rfl, by simp, by simp, fun h => absurd a1 h, fun h2 h3 => (by rw [a4 h3] at h2; cases h2), fun _ => h1⟩
    · rename_i h1
      obtain ⟨ext, b1, b2, b3, b4, b5⟩ := do_law s k (classL t) t;have hrd : rd = false := by cases rd with | false => rfl | true => exact absurd (a3 rfl) h1
      exact ⟨ext, b1, b2, b3, b2, rfl, b4, fun h => ⟨b5 h, a1, a4 hrd, hrd, h1, a2⟩, fun h => absurd a1 h, fun h2 _ => (by rw [a4 hrd] at h2; cases h2), by simp⟩
end Go.Proofs.YtfcmajgnpnlkiaaGreatDoor
