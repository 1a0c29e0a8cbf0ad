/- What was laid in each epoch: a log that only grows, of which each node of that epoch has the beginning. -/
import Derived.Test.YtfcmajgnpnlkiaaGreatDoorProg
import Derived.Test.YtfcmajgnpnlkiaaGreatDoorCluLaw
set_option linter.unusedSimpArgs false
set_option linter.unusedVariables false
set_option maxRecDepth 100000
namespace Go.Proofs.YtfcmajgnpnlkiaaGreatDoor
open Go Go.Proofs.YtfcmajgnpnlkiaaGreatDoor.SL Go.RowKit
structure Hst (C : CD) (H : Int → List Ent) : Prop where
  pre : ∀ s ∈ C.ns, s.lg <+: H s.ep
  lead : ∀ s ∈ C.ns, s.ld = true → s.lg = H s.ep
structure Grow (C D : CD) (H H' : Int → List Ent) : Prop where
  up : ∀ e, e ≤ C.ep → H e <+: H' e
  step : D.ep = C.ep ∨ (D.ep = C.ep + 1 ∧ D.ct ≤ (H' C.ep).length ∧ D.ct ≤ (H' D.ep).length ∧ (H' C.ep).take D.ct = (H' D.ep).take D.ct)
theorem Grow.same {C : CD} {H : Int → List Ent} : Grow C C H H := ⟨fun _ _ => List.prefix_rfl, .inl rfl⟩
theorem Hst.set {C : CD} {H : Int → List Ent} (I : CInv C) (T : Hst C H) {i : Nat} {s s' : ND} {ext : List Ent} (hs : C.ns[i]? = some s) (hep : s'.ep = s.ep) (hld : s'.ld = s.ld) (hlg : s'.lg = s.lg ++ ext) (hext : ext ≠ [] → s.ld = true) :
    ∃ H', Hst (setC C i s') H' ∧ Grow C (setC C i s') H H' := by
  have hm := List.mem_of_getElem? hs
  by_cases hl : s.ld = true
  · have hsl := T.lead s hm hl;refine ⟨fun e => if e = s.ep then s'.lg else H e, ⟨fun t ht => ?_, fun t ht htl => ?_⟩, ⟨fun e _ => ?_, .inl rfl⟩⟩
    · rcases List.mem_or_eq_of_mem_set ht with ht | rfl
      · by_cases h : t.ep = s.ep
        · simp only [h, if_true];have := T.pre t ht;rw [h, ← hsl] at this;exact this.trans (by rw [hlg]; exact List.prefix_append _ _)
        · simp only [h, if_false]; exact T.pre t ht
      · simp only [hep, if_true]; exact List.prefix_rfl
    · obtain ⟨j, hj⟩ := List.mem_iff_getElem?.1 ht
      rcases set_get hj with ⟨rfl, rfl⟩ | ⟨hne, hj'⟩
      · simp only [hep, if_true]
      · have h : ¬ t.ep = s.ep := fun h => hne (I.uniq i j s t hs hj' hl htl h.symm);simp only [h, if_false];exact T.lead t (List.mem_of_getElem? hj') htl
    · by_cases h : e = s.ep
      · simp only [h, if_true]; rw [← hsl, hlg]; exact List.prefix_append _ _
      · simp only [h, if_false]; exact List.prefix_rfl
  · have hxn : ext = [] := Classical.byContradiction fun h => hl (hext h);rw [hxn, List.append_nil] at hlg;refine ⟨H, ⟨fun t ht => ?_, fun t ht htl => ?_⟩, ⟨fun e _ => List.prefix_rfl, .inl rfl⟩⟩
    · rcases List.mem_or_eq_of_mem_set ht with ht | rfl
      · exact T.pre t ht
      · rw [hlg, hep]; exact T.pre s hm
    · rcases List.mem_or_eq_of_mem_set ht with ht | rfl
      · exact T.lead t ht htl
      · rw [hld] at htl; exact absurd htl hl
theorem Hst.first {C : CD} {H : Int → List Ent} (I : CInv C) (T : Hst C H) : (firstC C).lg = H C.ep := by
  have := T.lead _ (firstC_mem I.ok.n0) I.fld;rw [this, I.fep]
theorem Hst.do_ {C : CD} {H : Int → List Ent} (I : CInv C) (T : Hst C H) (x : A6) : ∃ H', Hst (doC C x).1 H' ∧ Grow C (doC C x).1 H H' := by
  have same : ∃ H', Hst C H' ∧ Grow C C H H' := ⟨H, T, Grow.same⟩
  unfold doC
  split
  · unfold runC
    cases hs : atC C x.nd with
    | none => exact same
    | some s =>
      obtain ⟨i, hn, hi⟩ := atC_some hs;obtain ⟨ext, R⟩ := run_law s x.cn (ep6 C x) x.rd x.tx;simp only [hn, Int.toNat_natCast];exact T.set I hi R.ep R.ld R.lg fun h => (R.laid h).2.2.1
  · split
    · unfold closeC
      cases hs : atC C x.nd with
      | none => exact same
      | some s =>
        obtain ⟨i, hn, hi⟩ := atC_some hs
        have hc : (closeN s x.cn).1.ep = s.ep ∧ (closeN s x.cn).1.ld = s.ld ∧ (closeN s x.cn).1.lg = s.lg := by unfold closeN; split <;> exact ⟨rfl, rfl, rfl⟩
        simp only [hn, Int.toNat_natCast];exact T.set (ext := []) I hi hc.1 hc.2.1 (by rw [hc.2.2, List.append_nil]) (by simp)
    · split
      · unfold promoteC
        cases hs : atC C x.nd with
        | none => exact same
        | some s =>
          obtain ⟨i, hn, hi⟩ := atC_some hs;simp only
          split
          · exact same
          · have htop := I.top s (List.mem_of_getElem? hi);have hlt := (List.getElem?_eq_some_iff.1 hi).1;have hld : leadN s (C.ep + 1) = (⟨C.ep + 1, true, s.lg, []⟩, true) := by unfold leadN; rw [if_neg (by omega)]
            rw [hld];simp only [hn, Int.toNat_natCast];refine ⟨fun e => if e = C.ep + 1 then s.lg else H e, ⟨fun t ht => ?_, fun t ht htl => ?_⟩, ⟨fun e he => ?_, .inr ⟨rfl, ?_, ?_, ?_⟩⟩⟩
            · rcases List.mem_or_eq_of_mem_set ht with ht | rfl
              · have := I.top t ht;simp only [show ¬ t.ep = C.ep + 1 by omega, if_false];exact T.pre t ht
              · simp only [if_true]; exact List.prefix_rfl
            · rcases List.mem_or_eq_of_mem_set ht with ht | rfl
              · have := I.top t ht;simp only [show ¬ t.ep = C.ep + 1 by omega, if_false];exact T.lead t ht htl
              · simp only [if_true]
            · simp only [show ¬ e = C.ep + 1 by omega, if_false]; exact List.prefix_rfl
            · simp only [show ¬ C.ep = C.ep + 1 by omega, if_false];rw [← T.first I]; exact (both_le s.lg (firstC C).lg).2
            · simp only [if_true]; exact (both_le s.lg (firstC C).lg).1
            · simp only [show ¬ C.ep = C.ep + 1 by omega, if_false, if_true];rw [← T.first I]; exact (both_take s.lg (firstC C).lg).symm
      · unfold copyC
        cases hs : atC C x.nd with
        | none => exact same
        | some s =>
          obtain ⟨i, hn, hi⟩ := atC_some hs;simp only
          split
          · exact same
          · rename_i hp
            obtain ⟨h1, h2, h3, _⟩ := I.copied hi (fun h => hp (by rw [hn, h])) x.mn;simp only [hn, Int.toNat_natCast];refine ⟨H, ⟨fun t ht => ?_, fun t ht htl => ?_⟩, ⟨fun e _ => List.prefix_rfl, .inl rfl⟩⟩
            · rcases List.mem_or_eq_of_mem_set ht with ht | rfl
              · exact T.pre t ht
              · rw [h1, ← T.first I]; exact h3
            · rcases List.mem_or_eq_of_mem_set ht with ht | rfl
              · exact T.lead t ht htl
              · rw [h2] at htl; cases htl
theorem Hst.new (n : Nat) : Hst (newC n) (fun _ => []) := by
  have hall : ∀ s ∈ (newC n).ns, s.lg = [] := fun s hs => by
    simp only [newC, List.mem_cons, List.mem_replicate] at hs
    rcases hs with rfl | ⟨_, rfl⟩ <;> rfl
  exact ⟨fun s hs => by rw [hall s hs]; exact List.prefix_rfl, fun s hs _ => hall s hs⟩
end Go.Proofs.YtfcmajgnpnlkiaaGreatDoor
