/- Package class: the rules by their words, in plain words. -/
import Derived.Test.YtgclahlbifbgdaaGreatDoorProg
import Derived.Test.YtgclahlbifbgdaaGreatDoorClass6
import Derived.Test.YtgclahlbifbgdaaGreatDoorClassLaw
set_option linter.unusedSimpArgs false
set_option linter.unusedVariables false
set_option maxRecDepth 100000
namespace Go.Proofs.YtgclahlbifbgdaaGreatDoor
open Go Go.Proofs.YtgclahlbifbgdaaGreatDoor.SL Go.RowKit
def fnV (n : Nat) : Value := .func (.func n) #[] #[]
def capV (n b : Nat) : Value := .func (.func n) #[] #[ptrTo b]
/-- The rules: the words that begin statements, each with its function; b4, b5, bs1, bs2: the boxes that functions hold. -/
def rulesL (b4 b5 : Nat) (bs1 bs2 : List Nat) : List (Value × Value) :=
  [(SV wEXPLAIN, fnV 52), (SV wBEGIN, fnV 53), (SV wSTART, fnV 54), (SV wCOMMIT, capV 86 b4), (SV wROLLBACK, capV 86 b5), (SV wSET, fnV 56)]
  ++ (List.zip readsW bs1).map (fun p => (SV p.1, capV 87 p.2)) ++ (List.zip changeW bs2).map (fun p => (SV p.1, capV 87 p.2)) ++ askW.map fun w => (SV w, fnV 58)
theorem SV_inj {a b : BL} (h : SV a = SV b) : a = b := by
  injection h with h
  have := congrArg (fun x : ByteArray => x.data.toList) h
  simpa using this
theorem zip_mem {w : BL} : ∀ {ws : List BL} {bs : List Nat}, ws.length ≤ bs.length → w ∈ ws → ∃ b ∈ bs, (w, b) ∈ List.zip ws bs
  | a :: ws, b :: bs, hl, hm => by
    rcases List.mem_cons.1 hm with rfl | hm
    · exact ⟨b, by simp, by simp⟩
    · obtain ⟨b', h1, h2⟩ := zip_mem (ws := ws) (bs := bs) (by simpa using hl) hm
      exact ⟨b', by simp [h1], by simp [h2]⟩
  | a :: ws, [], hl, _ => by simp at hl
theorem rules_read {b4 b5 : Nat} {bs1 bs2 : List Nat} (hl : bs1.length = 3) {w : BL} (h : readsW.contains w = true) : ∃ b ∈ bs1, (SV w, capV 87 b) ∈ rulesL b4 b5 bs1 bs2 := by
  obtain ⟨b, h1, h2⟩ := zip_mem (ws := readsW) (bs := bs1) (by rw [hl]; decide) (by simpa using h)
  refine ⟨b, h1, ?_⟩
  unfold rulesL
  simp only [List.mem_append]
  exact .inl (.inl (.inr (List.mem_map.2 ⟨(w, b), h2, rfl⟩)))
theorem rules_change {b4 b5 : Nat} {bs1 bs2 : List Nat} (hl : bs2.length = 12) {w : BL} (h : changeW.contains w = true) : ∃ b ∈ bs2, (SV w, capV 87 b) ∈ rulesL b4 b5 bs1 bs2 := by
  obtain ⟨b, h1, h2⟩ := zip_mem (ws := changeW) (bs := bs2) (by rw [hl]; decide) (by simpa using h)
  refine ⟨b, h1, ?_⟩
  unfold rulesL
  simp only [List.mem_append]
  exact .inl (.inr (List.mem_map.2 ⟨(w, b), h2, rfl⟩))
theorem rules_ask {b4 b5 : Nat} {bs1 bs2 : List Nat} {w : BL} (h : askW.contains w = true) : (SV w, fnV 58) ∈ rulesL b4 b5 bs1 bs2 := by
  unfold rulesL
  simp only [List.mem_append]
  exact .inr (List.mem_map.2 ⟨w, by simpa using h, rfl⟩)
theorem rules_none {b4 b5 : Nat} {bs1 bs2 : List Nat} {w : BL} (h1 : readsW.contains w = false) (h2 : w ≠ wEXPLAIN) (h3 : changeW.contains w = false) (h4 : askW.contains w = false) (h5 : w ≠ wBEGIN) (h6 : w ≠ wSTART) (h7 : w ≠ wCOMMIT) (h8 : w ≠ wROLLBACK) (h9 : w ≠ wSET) :
    ∀ p ∈ rulesL b4 b5 bs1 bs2, p.1 ≠ SV w := by
  intro p hp e
  unfold rulesL at hp
  simp only [List.mem_append] at hp
  rcases hp with ((hp | hp) | hp) | hp
  · simp only [List.mem_cons, List.not_mem_nil, or_false] at hp
    rcases hp with rfl | rfl | rfl | rfl | rfl | rfl
    · exact h2 (SV_inj e).symm
    · exact h5 (SV_inj e).symm
    · exact h6 (SV_inj e).symm
    · exact h7 (SV_inj e).symm
    · exact h8 (SV_inj e).symm
    · exact h9 (SV_inj e).symm
  · obtain ⟨q, hq, rfl⟩ := List.mem_map.1 hp
    have := SV_inj e
    have hm : q.1 ∈ readsW := (List.of_mem_zip (a := q.1) (b := q.2) hq).1
    rw [this] at hm
    rw [List.contains_iff_mem.2 hm] at h1; cases h1
  · obtain ⟨q, hq, rfl⟩ := List.mem_map.1 hp
    have := SV_inj e
    have hm : q.1 ∈ changeW := (List.of_mem_zip (a := q.1) (b := q.2) hq).1
    rw [this] at hm
    rw [List.contains_iff_mem.2 hm] at h3; cases h3
  · obtain ⟨q, hq, rfl⟩ := List.mem_map.1 hp
    have := SV_inj e
    rw [this] at hq
    rw [List.contains_iff_mem.2 hq] at h4; cases h4
end Go.Proofs.YtgclahlbifbgdaaGreatDoor
