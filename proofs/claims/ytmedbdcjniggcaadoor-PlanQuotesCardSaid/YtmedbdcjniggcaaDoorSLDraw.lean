/- Regions that draw their order: one walk, quiet operations first, serves every order. -/
import Derived.Test.YtmedbdcjniggcaaDoorSLOps
set_option linter.unusedVariables false
set_option linter.unusedSimpArgs false
namespace Go.Proofs.YtmedbdcjniggcaaDoor.SL
open Go Go.RowKit

/-- What one operation does, no panic let in. -/
def opGoes (P : Program) (ops : Array Oper) (i : Nat) (K : Act → World → Prop) (a : Act) (w : World) : Prop :=
  match ops[i]? with
  | none => K a w
  | some o => if Region.wanted o (yielded ops a.tmps) then Oper.goesV P o a w (fun v w' => K (a.put o.dst v) w') else K (a.put o.dst undef) w
theorem opGoes_mono {P : Program} {ops : Array Oper} {i : Nat} {K K' : Act → World → Prop} {a : Act} {w : World} (h : opGoes P ops i K a w) (k : ∀ a w, K a w → K' a w) : opGoes P ops i K' a w := by
  unfold opGoes at *
  split
  · rename_i ho; simp only [ho] at h; exact k _ _ h
  · rename_i o ho
    simp only [ho] at h
    split
    · rename_i hw; simp only [hw, if_true] at h; exact goesV_mono h fun _ _ => k _ _
    · rename_i hw; simp only [hw] at h; exact k _ _ h
theorem opGoes_wp {P : Program} {ops : Array Oper} {i : Nat} {K : Act → World → Prop} {Q : Exit → Act → World → Prop} {a : Act} {w : World} (ro : Option Nat) (h : opGoes P ops i K a w) : wpOpIn (FW ro) 0 P ops Q i K a w := by
  unfold opGoes at h
  unfold wpOpIn
  split
  · rename_i ho; simp only [ho] at h; exact h
  · rename_i o ho
    simp only [ho] at h
    split
    · rename_i hw; simp only [hw, if_true] at h; exact goesV_in ro h
    · rename_i hw; simp only [hw] at h; exact ⟨fun _ _ => trivial, h⟩
/-- Whatever order is picked from here on; every world on the way is of the class that goes with what has come up. -/
def anyC (P : Program) (ops : Array Oper) (C : Array Bool → World → Prop) (Q : Act → World → Prop) : Nat → Array Bool → Act → World → Prop
  | 0, listed, a, w => Region.ready .any ops listed = [] ∧ Q a w
  | fuel + 1, listed, a, w =>
    (Region.ready .any ops listed = [] → Q a w) ∧
    ∀ i ∈ Region.ready .any ops listed, opGoes P ops i (fun a' w' => C (listed.setIfInBounds i true) w' ∧ anyC P ops C Q fuel (listed.setIfInBounds i true) a' w') a w
theorem wpAny_of_anyC (ro : Option Nat) {P : Program} {ops : Array Oper} {C : Array Bool → World → Prop} {Q : Exit → Act → World → Prop} : ∀ (fuel : Nat) (listed : Array Bool) (a : Act) (w : World), anyC P ops C (Q .normal) fuel listed a w → wpAnyIn (FW ro) 0 P .any ops Q fuel listed a w
  | 0, _, _, _, h => h
  | fuel + 1, _, _, _, h => ⟨h.1, fun i hi => opGoes_wp ro (opGoes_mono (h.2 i hi) fun a' w' k => wpAny_of_anyC ro fuel _ a' w' k.2)⟩
/-- The class: C1 till the operation e has come up, C2 from then on. -/
def cls (e : Nat) (C1 C2 : World → Prop) (listed : Array Bool) (w : World) : Prop := match listed.getD e false with | true => C2 w | false => C1 w
/-- In state a operation o leaves v, in every world of the class, and that world as it is. -/
def YieldsC (P : Program) (ops : Array Oper) (C : World → Prop) (o : Oper) (v : Value) (a : Act) : Prop :=
  (Region.wanted o (yielded ops a.tmps) = true ∧ ∀ w, C w → (execOp a.eval o).run P w = .ok (.value v) w) ∨ (Region.wanted o (yielded ops a.tmps) = false ∧ v = undef)
theorem YieldsC.put {P : Program} {ops : Array Oper} {C : World → Prop} {oi oj : Oper} {v : Value} {a : Act} (h : YieldsC P ops C oi v a) (hap : oi.apart ops oj = true) (hsi : ∀ cs b, oi.op ≠ .select cs b) (u : Value) :
    YieldsC P ops C oi v (a.put oj.dst u) := by
  obtain ⟨_, _, h3⟩ := Oper.apart_spec hap
  unfold YieldsC at *
  rw [execOp_put oi hsi a oj.dst u h3, wanted_put oi a oj.dst u h3]
  exact h
theorem goes_put {P : Program} {ops : Array Oper} {C : World → Prop} {j : Nat} {oi oj : Oper} {v : Value} (hj : ops[j]? = some oj) (hap : oi.apart ops oj = true)
    (hsi : ∀ cs b, oi.op ≠ .select cs b) (hsj : ∀ cs b, oj.op ≠ .select cs b) {K : Act → World → Prop} {a : Act} {w : World} (hy : YieldsC P ops C oi v a) (h : opGoes P ops j K (a.put oi.dst v) w) :
    opGoes P ops j (fun a' w' => YieldsC P ops C oi v a' ∧ K (a'.put oi.dst v) w') a w := by
  obtain ⟨h1, h2, h3⟩ := Oper.apart_spec hap
  unfold opGoes at *
  simp only [hj] at *
  rw [wanted_put oj a oi.dst v h1] at h
  split
  · rename_i hw
    simp only [hw, if_true] at h
    have h' : Oper.goesV P oj a w fun u w' => K ((a.put oi.dst v).put oj.dst u) w' := by
      unfold Oper.goesV at *
      rwa [execOp_put oj hsj a oi.dst v h1] at h
    exact goesV_mono h' fun u w' k => ⟨hy.put hap hsi u, by rw [← Act.put_comm a v u h2]; exact k⟩
  · rename_i hw
    simp only [hw] at h
    exact ⟨hy.put hap hsi undef, by rw [← Act.put_comm a v undef h2]; exact h⟩
theorem YieldsC.goes {P : Program} {ops : Array Oper} {C : World → Prop} {i : Nat} {o : Oper} {v : Value} {a : Act} {w : World} (hi : ops[i]? = some o) (hy : YieldsC P ops C o v a) (hw : C w) {K : Act → World → Prop}
    (h : K (a.put o.dst v) w) : opGoes P ops i K a w := by
  unfold opGoes
  simp only [hi]
  rcases hy with ⟨h1, h2⟩ | ⟨h1, rfl⟩
  · simp only [h1, if_true]; unfold Oper.goesV; rw [h2 w hw]; exact h
  · simp only [h1, Bool.false_eq_true, if_false]; exact h
theorem cls_set {e i : Nat} {C1 C2 : World → Prop} {listed : Array Bool} {w : World} (h : i ≠ e) : cls e C1 C2 (listed.setIfInBounds i true) w = cls e C1 C2 listed w := by
  unfold cls; rw [getD_set_ne false h]
/-- A quiet operation that may come up now may be taken first. -/
theorem anyC_first {P : Program} {ops : Array Oper} {e : Nat} {C1 C2 : World → Prop} {C : World → Prop} {Q : Act → World → Prop} {i : Nat} {oi : Oper} {v : Value} (hi : ops[i]? = some oi) (hsel : ∀ (j : Nat) (o : Oper) cs b, ops[j]? = some o → o.op ≠ .select cs b)
    (hie : i ≠ e) (Inv : Array Bool → Prop) (hInv : ∀ listed j, Inv listed → i ∈ Region.ready .any ops listed → j ∈ Region.ready .any ops listed → j ≠ i → Inv (listed.setIfInBounds j true))
    (hC : ∀ listed w, Inv listed → cls e C1 C2 listed w → C w) :
    ∀ (fuel : Nat) (listed : Array Bool) (a : Act) (w : World), cls e C1 C2 listed w → Inv listed →
      (∀ j oj, ops[j]? = some oj → j ≠ i → listed.getD j true = false → (∀ e ∈ oj.after, Region.binds .any e = true → e.on ≠ i) → oi.apart ops oj = true) →
      i ∈ Region.ready .any ops listed → YieldsC P ops C oi v a →
      anyC P ops (cls e C1 C2) Q fuel (listed.setIfInBounds i true) (a.put oi.dst v) w → anyC P ops (cls e C1 C2) Q (fuel + 1) listed a w := by
  intro fuel
  induction fuel with
  | zero =>
    intro listed a w hw hl hfree hr hy H
    refine ⟨fun h => (by rw [h] at hr; cases hr), fun j hj => ?_⟩
    by_cases hji : j = i
    · subst hji
      exact hy.goes hi (hC _ _ hl hw) ⟨by rw [cls_set hie]; exact hw, H⟩
    · have := ready_mono hj hji
      rw [H.1] at this; cases this
  | succ fuel ih =>
    intro listed a w hw hl hfree hr hy H
    refine ⟨fun h => (by rw [h] at hr; cases hr), fun j hj => ?_⟩
    obtain ⟨hiun, _⟩ := mem_ready.1 hr
    by_cases hji : j = i
    · subst hji
      exact hy.goes hi (hC _ _ hl hw) ⟨by rw [cls_set hie]; exact hw, H⟩
    · obtain ⟨hjun, oj, hoj, hall⟩ := mem_ready.1 hj
      have h1 := H.2 j (ready_mono hj hji)
      have hnot : ∀ e ∈ oj.after, Region.binds .any e = true → e.on ≠ i := fun e he hb heq => by
        have h0 := hall e he hb
        rw [heq] at h0
        rcases Nat.lt_or_ge i listed.size with h' | h'
        · simp [h'] at h0 hiun; rw [h0] at hiun; cases hiun
        · simp [Array.getElem?_eq_none h'] at h0
      have h2 := goes_put hoj (hfree j oj hoj hji hjun hnot) (fun cs b => hsel i oi cs b hi) (fun cs b => hsel j oj cs b hoj) hy h1
      have hfree' : ∀ k ok, ops[k]? = some ok → k ≠ i → (listed.setIfInBounds j true).getD k true = false →
          (∀ e ∈ ok.after, Region.binds .any e = true → e.on ≠ i) → oi.apart ops ok = true := fun k ok hk hki hun hno => by
        refine hfree k ok hk hki ?_ hno
        by_cases hjk : j = k
        · subst hjk; exact hjun
        · rw [getD_set_ne true hjk] at hun; exact hun
      refine opGoes_mono h2 fun a' w' ⟨h3, h4, h5⟩ => ?_
      have h4' : cls e C1 C2 (listed.setIfInBounds j true) w' := by
        rw [Array.setIfInBounds_comm _ _ (Ne.symm hji), cls_set hie] at h4
        exact h4
      refine ⟨h4', ih (listed.setIfInBounds j true) a' w' h4' (hInv listed j hl hr hj hji) hfree' (ready_mono hr (Ne.symm hji)) h3 ?_⟩
      rw [Array.setIfInBounds_comm _ _ hji]
      exact h5
theorem anyC_only {P : Program} {ops : Array Oper} {C : Array Bool → World → Prop} {Q : Act → World → Prop} {i : Nat} {fuel : Nat} {listed : Array Bool} {a : Act} {w : World} (hr : Region.ready .any ops listed = [i])
    (h : opGoes P ops i (fun a' w' => C (listed.setIfInBounds i true) w' ∧ anyC P ops C Q fuel (listed.setIfInBounds i true) a' w') a w) : anyC P ops C Q (fuel + 1) listed a w :=
  ⟨(fun e => by rw [hr] at e; cases e), (fun j hj => by rw [hr] at hj; simp at hj; subst hj; exact h)⟩

/-! The walk in a given order: the kind (0: one of the chain, 1: it reads the world, 2: it doesn't, 3: the one of the chain that turns the class), the operation. -/
def wpPi (P : Program) (ops : Array Oper) (C0 C2 : World → Prop) (Q : Exit → Act → World → Prop) : (C : World → Prop) → List (Nat × Oper) → Act → World → Prop
  | _, [], a, w => Q .normal a w
  | C, (1, o) :: rest, a, w => if Region.wanted o (yielded ops a.tmps) then ∃ v, (∀ w, C w → (execOp a.eval o).run P w = .ok (.value v) w) ∧ wpPi P ops C0 C2 Q C rest (a.put o.dst v) w else wpPi P ops C0 C2 Q C rest (a.put o.dst undef) w
  | C, (2, o) :: rest, a, w => if Region.wanted o (yielded ops a.tmps) then ∃ v, (∀ w, C0 w → (execOp a.eval o).run P w = .ok (.value v) w) ∧ wpPi P ops C0 C2 Q C rest (a.put o.dst v) w else wpPi P ops C0 C2 Q C rest (a.put o.dst undef) w
  | C, (0, o) :: rest, a, w => if Region.wanted o (yielded ops a.tmps) then Oper.goesV P o a w (fun v w' => C w' ∧ wpPi P ops C0 C2 Q C rest (a.put o.dst v) w') else wpPi P ops C0 C2 Q C rest (a.put o.dst undef) w
  | C, (3, o) :: rest, a, w => if Region.wanted o (yielded ops a.tmps) then Oper.goesV P o a w (fun v w' => C2 w' ∧ wpPi P ops C0 C2 Q C2 rest (a.put o.dst v) w') else C2 w ∧ wpPi P ops C0 C2 Q C2 rest (a.put o.dst undef) w
  | _, _ :: _, _, _ => False
/-- i waits for nothing that may still come up and that it could be told from. -/
def freeB (ops : Array Oper) (i : Nat) (listed : Array Bool) : Bool :=
  (List.range ops.size).all fun j => j == i || listed.getD j true || (match ops[i]?, ops[j]? with | some oi, some oj => (oj.after.any fun e => Region.binds .any e && e.on == i) || oi.apart ops oj | _, _ => false)
/-- The order is one that serves. -/
def orderOk (ops : Array Oper) (e : Nat) : List (Nat × Nat) → Array Bool → Bool
  | [], listed => (Region.ready .any ops listed).isEmpty
  | (1, i) :: rest, listed => (Region.ready .any ops listed).contains i && freeB ops i listed && i != e &&
      (listed.getD e false || (match ops[e]? with | some oe => oe.after.any fun x => Region.binds .any x && x.on == i | none => true)) && orderOk ops e rest (listed.setIfInBounds i true)
  | (2, i) :: rest, listed => (Region.ready .any ops listed).contains i && freeB ops i listed && i != e && orderOk ops e rest (listed.setIfInBounds i true)
  | (0, i) :: rest, listed => (Region.ready .any ops listed == [i]) && i != e && orderOk ops e rest (listed.setIfInBounds i true)
  | (3, i) :: rest, listed => (Region.ready .any ops listed == [i]) && i == e && orderOk ops e rest (listed.setIfInBounds i true)
  | _ :: _, _ => false
def inOrder (ops : Array Oper) : List (Nat × Nat) → List (Nat × Oper)
  | [] => []
  | (q, i) :: r => match ops[i]? with | some o => (q, o) :: inOrder ops r | none => inOrder ops r
/-- 2: it doesn't look at the world; 1: it looks; 0: it may turn it. -/
def kindOf (o : Oper) : Nat :=
  match o.op with
  | .move _ | .assign _ | .pick .. | .build .. | .waits _ | .nilCheck _ | .unOp .. | .makeFunc .. | .fieldAddr .. | .field .. | .extract .. | .binOp .. => 2
  | .load .. | .makeInterface .. | .slice .. | .indexAddr .. | .index .. | .lookup .. | .typeAssert .. => 1
  | .call { callee := .builtin .len, .. } | .call { callee := .builtin .cap, .. } | .call { callee := .builtin .min, .. } | .call { callee := .builtin .max, .. } => 1
  | _ => 0
/-- The order that takes the quiet operations first: four times the place, and the kind. -/
def qfirst (ops : Array Oper) : Nat → Array Bool → List Nat
  | 0, _ => []
  | fuel + 1, listed =>
    match (Region.ready .any ops listed).find? fun i => kindOf (ops.getD i default) != 0 with
    | some i => (4 * i + kindOf (ops.getD i default)) :: qfirst ops fuel (listed.setIfInBounds i true)
    | none => match Region.ready .any ops listed with
      | i :: _ => 4 * i :: qfirst ops fuel (listed.setIfInBounds i true)
      | [] => []
theorem freeB_spec {ops : Array Oper} {i : Nat} {oi : Oper} {listed : Array Bool} (hoi : ops[i]? = some oi) (hf : freeB ops i listed = true) :
    ∀ j oj, ops[j]? = some oj → j ≠ i → listed.getD j true = false → (∀ e ∈ oj.after, Region.binds .any e = true → e.on ≠ i) → oi.apart ops oj = true := by
  intro j oj hj hji hun hno
  have := List.all_eq_true.1 hf j (List.mem_range.2 (Array.getElem?_eq_some_iff.1 hj).1)
  simp only [Bool.or_eq_true, hoi, hj] at this
  rcases this with (h1 | h1) | h1
  · simp at h1; exact absurd h1 hji
  · rw [hun] at h1; cases h1
  · rcases h1 with h1 | h1
    · obtain ⟨e, he, hb⟩ := Array.any_eq_true'.1 h1
      simp only [Bool.and_eq_true, beq_iff_eq] at hb
      exact absurd hb.2 (hno e he hb.1)
    · exact h1
theorem cls_listed {e : Nat} {C1 C2 : World → Prop} {listed : Array Bool} {w : World} (h : e < listed.size) : cls e C1 C2 (listed.setIfInBounds e true) w = C2 w := by
  unfold cls; simp [h]
theorem anyC_of_pi {P : Program} {ops : Array Oper} {e : Nat} {C1 C2 C0 : World → Prop} {Q : Exit → Act → World → Prop} (hsel : Region.noSelect ops = true) (h10 : ∀ w, C1 w → C0 w) (h20 : ∀ w, C2 w → C0 w) :
    ∀ (p : List (Nat × Nat)) (C : World → Prop) (listed : Array Bool) (a : Act) (w : World), (C = match listed.getD e false with | true => C2 | false => C1) → C w → orderOk ops e p listed = true →
    wpPi P ops C0 C2 Q C (inOrder ops p) a w → anyC P ops (cls e C1 C2) (Q .normal) p.length listed a w
  | [], C, listed, a, w, hc, hw, ho, h => ⟨by simpa [orderOk] using ho, h⟩
  | (1, i) :: rest, C, listed, a, w, hc, hw, ho, h => by
    simp only [orderOk, Bool.and_eq_true] at ho
    obtain ⟨⟨⟨⟨hr, hf⟩, hne⟩, hb⟩, ho'⟩ := ho
    have hie : i ≠ e := by simpa using hne
    have hr' : i ∈ Region.ready .any ops listed := by simpa using hr
    obtain ⟨_, oi, hoi, _⟩ := mem_ready.1 hr'
    have hin : inOrder ops ((1, i) :: rest) = (1, oi) :: inOrder ops rest := by simp [inOrder, hoi]
    rw [hin] at h
    have hw' : cls e C1 C2 listed w := by unfold cls; subst hc; revert hw; cases listed.getD e false <;> exact id
    have hc' : C = match (listed.setIfInBounds i true).getD e false with | true => C2 | false => C1 := by rw [getD_set_ne false hie]; exact hc
    have go : ∀ v, YieldsC P ops C oi v a → anyC P ops (cls e C1 C2) (Q .normal) rest.length (listed.setIfInBounds i true) (a.put oi.dst v) w → anyC P ops (cls e C1 C2) (Q .normal) (rest.length + 1) listed a w := by
      intro v hy k
      refine anyC_first hoi (Region.noSelect_spec hsel) hie (fun l => l.getD e false = listed.getD e false) ?_ ?_ rest.length listed a w hw' rfl (freeB_spec hoi hf) hr' hy k
      · intro l j hl hil hjl hji
        by_cases hje : j = e
        · subst hje
          obtain ⟨hjun, oj, hoj, hall⟩ := mem_ready.1 hjl
          obtain ⟨hiun, _⟩ := mem_ready.1 hil
          cases hla : listed.getD j false with
          | true =>
            rw [hla] at hl
            rcases Nat.lt_or_ge j l.size with h' | h'
            · simp [h'] at hl hjun; rw [hl] at hjun; cases hjun
            · simp [Array.getElem?_eq_none h'] at hl
          | false =>
            exfalso
            rw [hla, hoj] at hb
            simp only [Bool.false_or] at hb
            obtain ⟨x, hx, hbx⟩ := Array.any_eq_true'.1 hb
            simp only [Bool.and_eq_true, beq_iff_eq] at hbx
            have h0 := hall x hx hbx.1
            rw [hbx.2] at h0
            rcases Nat.lt_or_ge i l.size with h' | h'
            · simp [h'] at h0 hiun; rw [h0] at hiun; cases hiun
            · simp [Array.getElem?_eq_none h'] at h0
        · rw [getD_set_ne false hje]; exact hl
      · intro l w1 hl h1
        unfold cls at h1
        rw [hl] at h1
        subst hc
        revert h1
        cases listed.getD e false <;> exact id
    simp only [wpPi] at h
    by_cases hwt : Region.wanted oi (yielded ops a.tmps) = true
    · simp only [hwt, if_true] at h
      obtain ⟨v, hv, hk⟩ := h
      exact go v (.inl ⟨hwt, hv⟩) (anyC_of_pi hsel h10 h20 rest C _ _ w hc' hw ho' hk)
    · simp only [hwt] at h
      exact go undef (.inr ⟨by simpa using hwt, rfl⟩) (anyC_of_pi hsel h10 h20 rest C _ _ w hc' hw ho' h)
  | (2, i) :: rest, C, listed, a, w, hc, hw, ho, h => by
    simp only [orderOk, Bool.and_eq_true] at ho
    obtain ⟨⟨⟨hr, hf⟩, hne⟩, ho'⟩ := ho
    have hie : i ≠ e := by simpa using hne
    have hr' : i ∈ Region.ready .any ops listed := by simpa using hr
    obtain ⟨_, oi, hoi, _⟩ := mem_ready.1 hr'
    have hin : inOrder ops ((2, i) :: rest) = (2, oi) :: inOrder ops rest := by simp [inOrder, hoi]
    rw [hin] at h
    have hw' : cls e C1 C2 listed w := by unfold cls; subst hc; revert hw; cases listed.getD e false <;> exact id
    have hc' : C = match (listed.setIfInBounds i true).getD e false with | true => C2 | false => C1 := by rw [getD_set_ne false hie]; exact hc
    have go : ∀ v, YieldsC P ops C0 oi v a → anyC P ops (cls e C1 C2) (Q .normal) rest.length (listed.setIfInBounds i true) (a.put oi.dst v) w → anyC P ops (cls e C1 C2) (Q .normal) (rest.length + 1) listed a w := by
      intro v hy k
      refine anyC_first hoi (Region.noSelect_spec hsel) hie (fun _ => True) (fun _ _ _ _ _ _ => trivial) ?_ rest.length listed a w hw' trivial (freeB_spec hoi hf) hr' hy k
      intro l w1 _ h1
      unfold cls at h1
      revert h1
      cases l.getD e false
      · exact h10 w1
      · exact h20 w1
    simp only [wpPi] at h
    by_cases hwt : Region.wanted oi (yielded ops a.tmps) = true
    · simp only [hwt, if_true] at h
      obtain ⟨v, hv, hk⟩ := h
      exact go v (.inl ⟨hwt, hv⟩) (anyC_of_pi hsel h10 h20 rest C _ _ w hc' hw ho' hk)
    · simp only [hwt] at h
      exact go undef (.inr ⟨by simpa using hwt, rfl⟩) (anyC_of_pi hsel h10 h20 rest C _ _ w hc' hw ho' h)
  | (0, i) :: rest, C, listed, a, w, hc, hw, ho, h => by
    simp only [orderOk, Bool.and_eq_true] at ho
    obtain ⟨⟨hr, hne⟩, ho'⟩ := ho
    have hie : i ≠ e := by simpa using hne
    have hr1 : Region.ready .any ops listed = [i] := by simpa using hr
    obtain ⟨_, oi, hoi, _⟩ := mem_ready.1 (show i ∈ Region.ready .any ops listed by rw [hr1]; simp)
    have hin : inOrder ops ((0, i) :: rest) = (0, oi) :: inOrder ops rest := by simp [inOrder, hoi]
    rw [hin] at h
    have hc' : C = match (listed.setIfInBounds i true).getD e false with | true => C2 | false => C1 := by rw [getD_set_ne false hie]; exact hc
    have hcls : ∀ w1, C w1 → cls e C1 C2 (listed.setIfInBounds i true) w1 := by
      intro w1 h1; unfold cls; rw [hc'] at h1; revert h1; cases (listed.setIfInBounds i true).getD e false <;> exact id
    refine anyC_only hr1 ?_
    simp only [wpPi] at h
    unfold opGoes
    simp only [hoi]
    split
    · rename_i hwt
      simp only [hwt, if_true] at h
      exact goesV_mono h fun v w' ⟨k1, k2⟩ => ⟨hcls _ k1, anyC_of_pi hsel h10 h20 rest C _ _ w' hc' k1 ho' k2⟩
    · rename_i hwt
      simp only [hwt] at h
      exact ⟨hcls _ hw, anyC_of_pi hsel h10 h20 rest C _ _ w hc' hw ho' h⟩
  | (3, i) :: rest, C, listed, a, w, hc, hw, ho, h => by
    simp only [orderOk, Bool.and_eq_true] at ho
    obtain ⟨⟨hr, hne⟩, ho'⟩ := ho
    have hie : i = e := by simpa using hne
    subst hie
    have hr1 : Region.ready .any ops listed = [i] := by simpa using hr
    obtain ⟨hun, oi, hoi, _⟩ := mem_ready.1 (show i ∈ Region.ready .any ops listed by rw [hr1]; simp)
    have hin : inOrder ops ((3, i) :: rest) = (3, oi) :: inOrder ops rest := by simp [inOrder, hoi]
    rw [hin] at h
    have hlt : i < listed.size := by
      rcases Nat.lt_or_ge i listed.size with h' | h'
      · exact h'
      · simp [Array.getElem?_eq_none h'] at hun
    have hc' : C2 = match (listed.setIfInBounds i true).getD i false with | true => C2 | false => C1 := by simp [hlt]
    refine anyC_only hr1 ?_
    simp only [wpPi] at h
    unfold opGoes
    simp only [hoi]
    split
    · rename_i hwt
      simp only [hwt, if_true] at h
      exact goesV_mono h fun v w' ⟨k1, k2⟩ => ⟨by rw [cls_listed hlt]; exact k1, anyC_of_pi hsel h10 h20 rest C2 _ _ w' hc' k1 ho' k2⟩
    · rename_i hwt
      simp only [hwt] at h
      exact ⟨by rw [cls_listed hlt]; exact h.1, anyC_of_pi hsel h10 h20 rest C2 _ _ w hc' h.1 ho' h.2⟩
  | (n + 4, i) :: rest, C, listed, a, w, hc, hw, ho, h => by simp [orderOk] at ho
section
variable {ro : Option Nat} {P : Program} {w0 : World} {n : Nat} {ds : List Deferred} {env : Env} {l : List HP} {Q : Exit → Act → World → Prop} {S S2 : List HP}
/-- The walk, the atoms that stay given. -/
abbrev pi (P : Program) (ops : Array Oper) (w0 : World) (S2 : List HP) (Q : Exit → Act → World → Prop) (S : List HP) : List (Nat × Oper) → Act → World → Prop :=
  wpPi P ops (fun w => Sat w0 w []) (fun w => Sat w0 w S2) Q (fun w => Sat w0 w S)
theorem Sat.bare {w : World} (h : Sat w0 w l) : Sat w0 w [] := (h.pulls (ks := []) rfl).left
/-- A region that draws its order: S are the atoms that none of its operations turns till the operation e comes up, S2 those that stay from then on. -/
theorem at_draw {id : Nat} {m : List Oper} (S S2 : List HP) (e : Nat) (p : List (Nat × Nat)) (hm : P.follows .mixedOrders = true) (hok : (Region.noSelect m.toArray && Nat.beq p.length m.length && orderOk m.toArray e p (Array.replicate m.length false)) = true)
    (hS : ∀ w, Sat w0 w l → Sat w0 w S) (h : At w0 n ds (pi P m.toArray w0 S2 Q S (inOrder m.toArray p)) env l) : At w0 n ds (gwp ro P (Code.region id m.toArray true) Q) env l := fun a w f s => by
  simp only [Bool.and_eq_true] at hok
  obtain ⟨⟨h1, h2⟩, h3⟩ := hok
  have hlen : p.length = m.length := Nat.eq_of_beq_eq_true h2
  refine wpIn_region_any hm (wpAny_of_anyC ro (C := cls e (fun w => Sat w0 w S) (fun w => Sat w0 w S2)) _ _ _ _ ?_)
  have := anyC_of_pi (P := P) (C1 := fun w => Sat w0 w S) (C2 := fun w => Sat w0 w S2) (C0 := fun w => Sat w0 w []) (e := e) (Q := Q) h1 (fun _ s => s.bare) (fun _ s => s.bare) p _ (Array.replicate m.length false) a { w with drawn := w.drawn + 1 }
    (by have : (Array.replicate m.length false).getD e false = false := by simp [Array.getD, Array.getElem_replicate]
        rw [this]) (hS _ (s.drew _)) h3 (h a _ f (s.drew _))
  rw [hlen] at this
  simpa using this
variable {ops : Array Oper} {o : Oper} {rest : List (Nat × Oper)} {dst : Option Tmp} {op : Op} {type : TypeId} {pos : String} {after : Array Edge} {j : Nat} {want : Bool} {q : Nat}
theorem aq_nil (h : At w0 n ds (Q .normal) env l) : At w0 n ds (pi P ops w0 S2 Q S []) env l := h
theorem aq_v {v : Value} {d : Nat} (h : OpV P w0 n ds env S o v) (hg : o.guard = none) (hd : o.dst = some d) (hn : Nat.blt d n = true)
    (k : At w0 n ds (pi P ops w0 S2 Q S rest) ((d, v) :: env) l) : At w0 n ds (pi P ops w0 S2 Q S ((1, o) :: rest)) env l := fun a w f s => by
  simp only [wpPi, Region.wanted, hg, if_true]
  exact ⟨v, fun w' hw' => h a w' f hw', by rw [hd]; exact k _ w (f.put d v hn) s⟩
theorem aq_p {v : Value} {d : Nat} (h : OpV P w0 n ds env [] o v) (hg : o.guard = none) (hd : o.dst = some d) (hn : Nat.blt d n = true)
    (k : At w0 n ds (pi P ops w0 S2 Q S rest) ((d, v) :: env) l) : At w0 n ds (pi P ops w0 S2 Q S ((2, o) :: rest)) env l := fun a w f s => by
  simp only [wpPi, Region.wanted, hg, if_true]
  exact ⟨v, fun w' hw' => h a w' f hw', by rw [hd]; exact k _ w (f.put d v hn) s⟩
theorem aq_t {Post : Value → List HP → Prop} {d : Nat} (h : OpT P w0 n ds env l o Post) (hg : o.guard = none) (hd : o.dst = some d) (hn : Nat.blt d n = true)
    (k : ∀ v l', Post v l' → (∀ w, Sat w0 w l' → Sat w0 w S) ∧ At w0 n ds (pi P ops w0 S2 Q S rest) ((d, v) :: env) l') : At w0 n ds (pi P ops w0 S2 Q S ((0, o) :: rest)) env l := fun a w f s => by
  simp only [wpPi, Region.wanted, hg, if_true]
  exact goesV_mono (h a w f s) fun v w' ⟨l', hp, s'⟩ => ⟨(k v l' hp).1 w' s', by rw [hd]; exact (k v l' hp).2 _ w' (f.put d v hn) s'⟩
theorem aq_t0 {Post : Value → List HP → Prop} (h : OpT P w0 n ds env l o Post) (hg : o.guard = none) (hd : o.dst = none)
    (k : ∀ v l', Post v l' → (∀ w, Sat w0 w l' → Sat w0 w S) ∧ At w0 n ds (pi P ops w0 S2 Q S rest) env l') : At w0 n ds (pi P ops w0 S2 Q S ((0, o) :: rest)) env l := fun a w f s => by
  simp only [wpPi, Region.wanted, hg, if_true]
  exact goesV_mono (h a w f s) fun v w' ⟨l', hp, s'⟩ => ⟨(k v l' hp).1 w' s', by rw [hd]; exact (k v l' hp).2 _ w' f s'⟩
theorem aq_b {Post : Value → List HP → Prop} {d : Nat} (h : OpT P w0 n ds env l o Post) (hg : o.guard = none) (hd : o.dst = some d) (hn : Nat.blt d n = true)
    (k : ∀ v l', Post v l' → (∀ w, Sat w0 w l' → Sat w0 w S2) ∧ At w0 n ds (pi P ops w0 S2 Q S2 rest) ((d, v) :: env) l') : At w0 n ds (pi P ops w0 S2 Q S ((3, o) :: rest)) env l := fun a w f s => by
  simp only [wpPi, Region.wanted, hg, if_true]
  exact goesV_mono (h a w f s) fun v w' ⟨l', hp, s'⟩ => ⟨(k v l' hp).1 w' s', by rw [hd]; exact (k v l' hp).2 _ w' (f.put d v hn) s'⟩
theorem aq_b0 {Post : Value → List HP → Prop} (h : OpT P w0 n ds env l o Post) (hg : o.guard = none) (hd : o.dst = none)
    (k : ∀ v l', Post v l' → (∀ w, Sat w0 w l' → Sat w0 w S2) ∧ At w0 n ds (pi P ops w0 S2 Q S2 rest) env l') : At w0 n ds (pi P ops w0 S2 Q S ((3, o) :: rest)) env l := fun a w f s => by
  simp only [wpPi, Region.wanted, hg, if_true]
  exact goesV_mono (h a w f s) fun v w' ⟨l', hp, s'⟩ => ⟨(k v l' hp).1 w' s', by rw [hd]; exact (k v l' hp).2 _ w' f s'⟩
/-- The kinds that an unwanted operation may be of. -/
theorem wpPi_unwanted {C0 C2 C : World → Prop} {a : Act} {w : World} {o : Oper} (h : Region.wanted o (yielded ops a.tmps) = false) (hq : Nat.blt q 3 = true) (k : wpPi P ops C0 C2 Q C rest (a.put o.dst undef) w) : wpPi P ops C0 C2 Q C ((q, o) :: rest) a w := by
  match q, hq with
  | 0, _ => simp only [wpPi, h]; exact k
  | 1, _ => simp only [wpPi, h]; exact k
  | 2, _ => simp only [wpPi, h]; exact k
theorem aq_wanted (h : guardV ops env j = some want) (k : At w0 n ds (pi P ops w0 S2 Q S ((q, ⟨dst, op, type, pos, after, none⟩) :: rest)) env l) :
    At w0 n ds (pi P ops w0 S2 Q S ((q, ⟨dst, op, type, pos, after, some (j, want)⟩) :: rest)) env l := fun a w f s => by
  have h1 := k a w f s
  match q, h1 with
  | 0, h1 => simp only [wpPi, Region.wanted, guard_yields f h, beq_self_eq_true, if_true] at h1 ⊢; exact h1
  | 1, h1 => simp only [wpPi, Region.wanted, guard_yields f h, beq_self_eq_true, if_true] at h1 ⊢; exact h1
  | 2, h1 => simp only [wpPi, Region.wanted, guard_yields f h, beq_self_eq_true, if_true] at h1 ⊢; exact h1
  | 3, h1 => simp only [wpPi, Region.wanted, guard_yields f h, beq_self_eq_true, if_true] at h1 ⊢; exact h1
  | k + 4, h1 => exact h1.elim
theorem aq_unwanted {b : Bool} {d : Nat} (h : guardV ops env j = some b) (hb : b = !want) (hd : dst = some d) (hn : Nat.blt d n = true) (hq : Nat.blt q 3 = true) (k : At w0 n ds (pi P ops w0 S2 Q S rest) ((d, undef) :: env) l) :
    At w0 n ds (pi P ops w0 S2 Q S ((q, ⟨dst, op, type, pos, after, some (j, want)⟩) :: rest)) env l := fun a w f s => by
  subst hd
  refine wpPi_unwanted ?_ hq (k _ w (f.put d undef hn) s)
  subst hb
  simp only [Region.wanted, guard_yields f h]
  cases want <;> rfl
theorem aq_unwantedN {d : Nat} (h : guardN ops env j = true) (hd : dst = some d) (hn : Nat.blt d n = true) (hq : Nat.blt q 3 = true) (k : At w0 n ds (pi P ops w0 S2 Q S rest) ((d, undef) :: env) l) :
    At w0 n ds (pi P ops w0 S2 Q S ((q, ⟨dst, op, type, pos, after, some (j, want)⟩) :: rest)) env l := fun a w f s => by
  subst hd
  refine wpPi_unwanted ?_ hq (k _ w (f.put d undef hn) s)
  simp [Region.wanted, guardN_yields f h]
theorem aq_unwanted0 {b : Bool} (h : guardV ops env j = some b) (hb : b = !want) (hd : dst = none) (hq : Nat.blt q 3 = true) (k : At w0 n ds (pi P ops w0 S2 Q S rest) env l) :
    At w0 n ds (pi P ops w0 S2 Q S ((q, ⟨dst, op, type, pos, after, some (j, want)⟩) :: rest)) env l := fun a w f s => by
  subst hd
  refine wpPi_unwanted ?_ hq (k _ w f s)
  subst hb
  simp only [Region.wanted, guard_yields f h]
  cases want <;> rfl
end
end Go.Proofs.YtmedbdcjniggcaaDoor.SL
