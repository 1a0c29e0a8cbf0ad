/- Regions that draw their order: one walk, quiet operations first, serves every order. -/
import Derived.Test.YtjcmadaajiimiaaSLOps
set_option linter.unusedVariables false
set_option linter.unusedSimpArgs false
namespace Go.Proofs.Ytjcmadaajiimiaa.SL
open Go Go.RowKit

/-- What one operation does, no panic let in. -/
def opGoes (P : Program) (ops : Array Oper) (i : Nat) (K : Act → World → Prop) (a : Act) (w : World) : Prop :=
  match ops[i]? with
  | none => K a w
  | some o => if Region.wanted o (yielded ops a.tmps) then Oper.goesV P o a w (fun v w' => K (a.put o.dst v) w') else K (a.put o.dst undef) w
theorem opGoes_mono {P : Program} {ops : Array Oper} {i : Nat} {K K' : Act → World → Prop} {a : Act} {w : World} (h : opGoes P ops i K a w) (k : ∀ a w, K a w → K' a w) : opGoes P ops i K' a w := by
  unfold opGoes at *
  split
  · rename_i ho; simp only [ho] at h; exact k _ _ h
  · rename_i o ho
    simp only [ho] at h
    split
    · rename_i hw; simp only [hw, if_true] at h; exact goesV_mono h fun _ _ => k _ _
    · rename_i hw; simp only [hw] at h; exact k _ _ h
theorem opGoes_wp {P : Program} {ops : Array Oper} {i : Nat} {K : Act → World → Prop} {Q : Exit → Act → World → Prop} {a : Act} {w : World} (h : opGoes P ops i K a w) : wpOp P ops Q i K a w := by
  unfold opGoes at h
  unfold wpOp
  split
  · rename_i ho; simp only [ho] at h; exact h
  · rename_i o ho
    simp only [ho] at h
    split
    · rename_i hw; simp only [hw, if_true] at h; exact .inl (goesV_wp h)
    · rename_i hw; simp only [hw] at h; exact h
/-- Whatever order is picked from here on; every world on the way is of the class C. -/
def anyC (P : Program) (ops : Array Oper) (C : World → Prop) (Q : Act → World → Prop) : Nat → Array Bool → Act → World → Prop
  | 0, listed, a, w => Region.ready .any ops listed = [] ∧ Q a w
  | fuel + 1, listed, a, w =>
    (Region.ready .any ops listed = [] → Q a w) ∧
    ∀ i ∈ Region.ready .any ops listed, opGoes P ops i (fun a' w' => C w' ∧ anyC P ops C Q fuel (listed.setIfInBounds i true) a' w') a w
theorem wpAny_of_anyC {P : Program} {ops : Array Oper} {C : World → Prop} {Q : Exit → Act → World → Prop} : ∀ (fuel : Nat) (listed : Array Bool) (a : Act) (w : World), anyC P ops C (Q .normal) fuel listed a w → wpAny P .any ops Q fuel listed a w
  | 0, _, _, _, h => h
  | fuel + 1, _, _, _, h => ⟨h.1, fun i hi => opGoes_wp (opGoes_mono (h.2 i hi) fun a' w' k => wpAny_of_anyC fuel _ a' w' k.2)⟩
/-- In state a operation o leaves v, in every world of the class, and that world as it is. -/
def YieldsC (P : Program) (ops : Array Oper) (C : World → Prop) (o : Oper) (v : Value) (a : Act) : Prop :=
  (Region.wanted o (yielded ops a.tmps) = true ∧ ∀ w, C w → (execOp a.eval o).run P w = .ok (.value v) w) ∨ (Region.wanted o (yielded ops a.tmps) = false ∧ v = undef)
theorem YieldsC.put {P : Program} {ops : Array Oper} {C : World → Prop} {oi oj : Oper} {v : Value} {a : Act} (h : YieldsC P ops C oi v a) (hap : oi.apart ops oj = true) (hsi : ∀ cs b, oi.op ≠ .select cs b) (u : Value) :
    YieldsC P ops C oi v (a.put oj.dst u) := by
  obtain ⟨_, _, h3⟩ := Oper.apart_spec hap
  unfold YieldsC at *
  rw [execOp_put oi hsi a oj.dst u h3, wanted_put oi a oj.dst u h3]
  exact h
theorem goes_put {P : Program} {ops : Array Oper} {C : World → Prop} {j : Nat} {oi oj : Oper} {v : Value} (hj : ops[j]? = some oj) (hap : oi.apart ops oj = true)
    (hsi : ∀ cs b, oi.op ≠ .select cs b) (hsj : ∀ cs b, oj.op ≠ .select cs b) {K : Act → World → Prop} {a : Act} {w : World} (hy : YieldsC P ops C oi v a) (h : opGoes P ops j K (a.put oi.dst v) w) :
    opGoes P ops j (fun a' w' => YieldsC P ops C oi v a' ∧ K (a'.put oi.dst v) w') a w := by
  obtain ⟨h1, h2, h3⟩ := Oper.apart_spec hap
  unfold opGoes at *
  simp only [hj] at *
  rw [wanted_put oj a oi.dst v h1] at h
  split
  · rename_i hw
    simp only [hw, if_true] at h
    have h' : Oper.goesV P oj a w fun u w' => K ((a.put oi.dst v).put oj.dst u) w' := by
      unfold Oper.goesV at *
      rwa [execOp_put oj hsj a oi.dst v h1] at h
    exact goesV_mono h' fun u w' k => ⟨hy.put hap hsi u, by rw [← Act.put_comm a v u h2]; exact k⟩
  · rename_i hw
    simp only [hw] at h
    exact ⟨hy.put hap hsi undef, by rw [← Act.put_comm a v undef h2]; exact h⟩
theorem YieldsC.goes {P : Program} {ops : Array Oper} {C : World → Prop} {i : Nat} {o : Oper} {v : Value} {a : Act} {w : World} (hi : ops[i]? = some o) (hy : YieldsC P ops C o v a) (hw : C w) {K : Act → World → Prop}
    (h : K (a.put o.dst v) w) : opGoes P ops i K a w := by
  unfold opGoes
  simp only [hi]
  rcases hy with ⟨h1, h2⟩ | ⟨h1, rfl⟩
  · simp only [h1, if_true]; unfold Oper.goesV; rw [h2 w hw]; exact h
  · simp only [h1, Bool.false_eq_true, if_false]; exact h
/-- A quiet operation that may come up now may be taken first. -/
theorem anyC_first {P : Program} {ops : Array Oper} {C : World → Prop} {Q : Act → World → Prop} {i : Nat} {oi : Oper} {v : Value} (hi : ops[i]? = some oi) (hsel : ∀ (j : Nat) (o : Oper) cs b, ops[j]? = some o → o.op ≠ .select cs b) :
    ∀ (fuel : Nat) (listed : Array Bool) (a : Act) (w : World), C w →
      (∀ j oj, ops[j]? = some oj → j ≠ i → listed.getD j true = false → (∀ e ∈ oj.after, Region.binds .any e = true → e.on ≠ i) → oi.apart ops oj = true) →
      i ∈ Region.ready .any ops listed → YieldsC P ops C oi v a →
      anyC P ops C Q fuel (listed.setIfInBounds i true) (a.put oi.dst v) w → anyC P ops C Q (fuel + 1) listed a w := by
  intro fuel
  induction fuel with
  | zero =>
    intro listed a w hw hfree hr hy H
    refine ⟨fun h => (by rw [h] at hr; cases hr), fun j hj => ?_⟩
    by_cases hji : j = i
    · subst hji; exact hy.goes hi hw ⟨hw, H⟩
    · have := ready_mono hj hji
      rw [H.1] at this; cases this
  | succ fuel ih =>
    intro listed a w hw hfree hr hy H
    refine ⟨fun h => (by rw [h] at hr; cases hr), fun j hj => ?_⟩
    by_cases hji : j = i
    · subst hji; exact hy.goes hi hw ⟨hw, H⟩
    · obtain ⟨hjun, oj, hoj, hall⟩ := mem_ready.1 hj
      obtain ⟨hiun, _⟩ := mem_ready.1 hr
      have h1 := H.2 j (ready_mono hj hji)
      have hnot : ∀ e ∈ oj.after, Region.binds .any e = true → e.on ≠ i := fun e he hb heq => by
        have h0 := hall e he hb
        rw [heq] at h0
        rcases Nat.lt_or_ge i listed.size with h' | h'
        · simp [h'] at h0 hiun; rw [h0] at hiun; cases hiun
        · simp [Array.getElem?_eq_none h'] at h0
      have h2 := goes_put hoj (hfree j oj hoj hji hjun hnot) (fun cs b => hsel i oi cs b hi) (fun cs b => hsel j oj cs b hoj) hy h1
      have hfree' : ∀ k ok, ops[k]? = some ok → k ≠ i → (listed.setIfInBounds j true).getD k true = false →
          (∀ e ∈ ok.after, Region.binds .any e = true → e.on ≠ i) → oi.apart ops ok = true := fun k ok hk hki hun hno => by
        refine hfree k ok hk hki ?_ hno
        by_cases hjk : j = k
        · subst hjk; exact hjun
        · rw [getD_set_ne true hjk] at hun; exact hun
      refine opGoes_mono h2 fun a' w' ⟨h3, h4, h5⟩ => ⟨h4, ih (listed.setIfInBounds j true) a' w' h4 hfree' (ready_mono hr (Ne.symm hji)) h3 ?_⟩
      rw [Array.setIfInBounds_comm _ _ hji]
      exact h5
theorem anyC_only {P : Program} {ops : Array Oper} {C : World → Prop} {Q : Act → World → Prop} {i : Nat} {fuel : Nat} {listed : Array Bool} {a : Act} {w : World} (hr : Region.ready .any ops listed = [i])
    (h : opGoes P ops i (fun a' w' => C w' ∧ anyC P ops C Q fuel (listed.setIfInBounds i true) a' w') a w) : anyC P ops C Q (fuel + 1) listed a w :=
  ⟨(fun e => by rw [hr] at e; cases e), (fun j hj => by rw [hr] at hj; simp at hj; subst hj; exact h)⟩

/-! The walk in a given order: (true: quiet), its place, the operation. -/
def wpPi (P : Program) (ops : Array Oper) (C : World → Prop) (Q : Exit → Act → World → Prop) : List (Bool × Oper) → Act → World → Prop
  | [], a, w => Q .normal a w
  | (true, o) :: rest, a, w => if Region.wanted o (yielded ops a.tmps) then ∃ v, (∀ w, C w → (execOp a.eval o).run P w = .ok (.value v) w) ∧ wpPi P ops C Q rest (a.put o.dst v) w else wpPi P ops C Q rest (a.put o.dst undef) w
  | (false, o) :: rest, a, w => if Region.wanted o (yielded ops a.tmps) then Oper.goesV P o a w (fun v w' => C w' ∧ wpPi P ops C Q rest (a.put o.dst v) w') else wpPi P ops C Q rest (a.put o.dst undef) w
/-- The order is one that serves. -/
def orderOk (ops : Array Oper) : List (Bool × Nat) → Array Bool → Bool
  | [], listed => (Region.ready .any ops listed).isEmpty
  | (true, i) :: rest, listed => (Region.ready .any ops listed).contains i &&
      ((List.range ops.size).all fun j => j == i || listed.getD j true || (match ops[i]?, ops[j]? with | some oi, some oj => (oj.after.any fun e => Region.binds .any e && e.on == i) || oi.apart ops oj | _, _ => false)) &&
      orderOk ops rest (listed.setIfInBounds i true)
  | (false, i) :: rest, listed => (Region.ready .any ops listed == [i]) && orderOk ops rest (listed.setIfInBounds i true)
def inOrder (ops : Array Oper) : List (Bool × Nat) → List (Bool × Oper)
  | [] => []
  | (q, i) :: r => match ops[i]? with | some o => (q, o) :: inOrder ops r | none => inOrder ops r
def isQuiet (o : Oper) : Bool :=
  match o.op with
  | .move _ | .assign _ | .pick .. | .build .. | .load .. | .waits _ | .nilCheck _ | .binOp .. | .unOp .. | .makeInterface .. | .makeFunc .. | .slice .. | .fieldAddr .. | .field .. | .indexAddr .. | .index .. | .lookup .. | .extract .. | .typeAssert .. => true
  | .call { callee := .builtin .len, .. } | .call { callee := .builtin .cap, .. } | .call { callee := .builtin .min, .. } | .call { callee := .builtin .max, .. } => true
  | _ => false
/-- The order that takes the quiet operations first: twice the place, one more for a quiet one. -/
def qfirst (ops : Array Oper) : Nat → Array Bool → List Nat
  | 0, _ => []
  | fuel + 1, listed =>
    match (Region.ready .any ops listed).find? fun i => isQuiet (ops.getD i default) with
    | some i => (2 * i + 1) :: qfirst ops fuel (listed.setIfInBounds i true)
    | none => match Region.ready .any ops listed with
      | i :: _ => 2 * i :: qfirst ops fuel (listed.setIfInBounds i true)
      | [] => []
theorem anyC_of_pi {P : Program} {ops : Array Oper} {C : World → Prop} {Q : Exit → Act → World → Prop} (hsel : Region.noSelect ops = true) : ∀ (p : List (Bool × Nat)) (listed : Array Bool) (a : Act) (w : World), C w → orderOk ops p listed = true →
    wpPi P ops C Q (inOrder ops p) a w → anyC P ops C (Q .normal) p.length listed a w
  | [], listed, a, w, hw, ho, h => ⟨by simpa [orderOk] using ho, h⟩
  | (true, i) :: rest, listed, a, w, hw, ho, h => by
    simp only [orderOk, Bool.and_eq_true] at ho
    obtain ⟨⟨hr, hf⟩, ho'⟩ := ho
    have hr' : i ∈ Region.ready .any ops listed := by simpa using hr
    obtain ⟨_, oi, hoi, _⟩ := mem_ready.1 hr'
    have hin : inOrder ops ((true, i) :: rest) = (true, oi) :: inOrder ops rest := by simp [inOrder, hoi]
    rw [hin] at h
    have hfree : ∀ j oj, ops[j]? = some oj → j ≠ i → listed.getD j true = false → (∀ e ∈ oj.after, Region.binds .any e = true → e.on ≠ i) → oi.apart ops oj = true := by
      intro j oj hj hji hun hno
      have := List.all_eq_true.1 hf j (List.mem_range.2 (Array.getElem?_eq_some_iff.1 hj).1)
      simp only [Bool.or_eq_true, hoi, hj] at this
      rcases this with (h1 | h1) | h1
      · simp at h1; exact absurd h1 hji
      · rw [hun] at h1; cases h1
      · rcases h1 with h1 | h1
        · obtain ⟨e, he, hb⟩ := Array.any_eq_true'.1 h1
          simp only [Bool.and_eq_true, beq_iff_eq] at hb
          exact absurd hb.2 (hno e he hb.1)
        · exact h1
    simp only [wpPi] at h
    by_cases hwt : Region.wanted oi (yielded ops a.tmps) = true
    · simp only [hwt, if_true] at h
      obtain ⟨v, hv, hk⟩ := h
      exact anyC_first hoi (Region.noSelect_spec hsel) rest.length listed a w hw hfree hr' (.inl ⟨hwt, hv⟩) (anyC_of_pi hsel rest _ _ w hw ho' hk)
    · simp only [hwt] at h
      exact anyC_first hoi (Region.noSelect_spec hsel) rest.length listed a w hw hfree hr' (.inr ⟨by simpa using hwt, rfl⟩) (anyC_of_pi hsel rest _ _ w hw ho' h)
  | (false, i) :: rest, listed, a, w, hw, ho, h => by
    simp only [orderOk, Bool.and_eq_true] at ho
    obtain ⟨hr, ho'⟩ := ho
    have hr1 : Region.ready .any ops listed = [i] := by simpa using hr
    obtain ⟨_, oi, hoi, _⟩ := mem_ready.1 (show i ∈ Region.ready .any ops listed by rw [hr1]; simp)
    have hin : inOrder ops ((false, i) :: rest) = (false, oi) :: inOrder ops rest := by simp [inOrder, hoi]
    rw [hin] at h
    refine anyC_only hr1 ?_
    simp only [wpPi] at h
    unfold opGoes
    simp only [hoi]
    split
    · rename_i hwt
      simp only [hwt, if_true] at h
      exact goesV_mono h fun v w' ⟨k1, k2⟩ => ⟨k1, anyC_of_pi hsel rest _ _ w' k1 ho' k2⟩
    · rename_i hwt
      simp only [hwt] at h
      exact ⟨hw, anyC_of_pi hsel rest _ _ w hw ho' h⟩
section
variable {P : Program} {w0 : World} {n : Nat} {ds : List Deferred} {env : Env} {l : List HP} {Q : Exit → Act → World → Prop} {S : List HP}
/-- A region that draws its order: S are the atoms that none of its operations turns. -/
theorem at_draw {id : Nat} {m : List Oper} (S : List HP) (p : List (Bool × Nat)) (hm : P.follows .mixedOrders = true) (hok : (Region.noSelect m.toArray && Nat.beq p.length m.length && orderOk m.toArray p (Array.replicate m.length false)) = true)
    (hS : ∀ w, Sat w0 w l → Sat w0 w S) (h : At w0 n ds (wpPi P m.toArray (fun w => Sat w0 w S) Q (inOrder m.toArray p)) env l) : At w0 n ds ((Code.region id m.toArray true).wp P Q) env l := fun a w f s => by
  simp only [Bool.and_eq_true] at hok
  obtain ⟨⟨h1, h2⟩, h3⟩ := hok
  have hlen : p.length = m.length := Nat.eq_of_beq_eq_true h2
  refine wp_region_any hm (wpAny_of_anyC (C := fun w => Sat w0 w S) _ _ _ _ ?_)
  have := anyC_of_pi (P := P) (C := fun w => Sat w0 w S) (Q := Q) h1 p (Array.replicate m.length false) a { w with drawn := w.drawn + 1 } (hS _ (s.drew _)) h3 (h a _ f (s.drew _))
  rw [hlen] at this
  simpa using this
variable {ops : Array Oper} {o : Oper} {rest : List (Bool × Oper)} {dst : Option Tmp} {op : Op} {type : TypeId} {pos : String} {after : Array Edge} {j : Nat} {want q : Bool}
theorem aq_nil (h : At w0 n ds (Q .normal) env l) : At w0 n ds (wpPi P ops (fun w => Sat w0 w S) Q []) env l := h
theorem aq_v {v : Value} {d : Nat} (h : OpV P w0 n ds env S o v) (hg : o.guard = none) (hd : o.dst = some d) (hn : Nat.blt d n = true)
    (k : At w0 n ds (wpPi P ops (fun w => Sat w0 w S) Q rest) ((d, v) :: env) l) : At w0 n ds (wpPi P ops (fun w => Sat w0 w S) Q ((true, o) :: rest)) env l := fun a w f s => by
  simp only [wpPi, Region.wanted, hg, if_true]
  exact ⟨v, fun w' hw' => h a w' f hw', by rw [hd]; exact k _ w (f.put d v hn) s⟩
theorem aq_t {Post : Value → List HP → Prop} {d : Nat} (h : OpT P w0 n ds env l o Post) (hg : o.guard = none) (hd : o.dst = some d) (hn : Nat.blt d n = true)
    (k : ∀ v l', Post v l' → (∀ w, Sat w0 w l' → Sat w0 w S) ∧ At w0 n ds (wpPi P ops (fun w => Sat w0 w S) Q rest) ((d, v) :: env) l') : At w0 n ds (wpPi P ops (fun w => Sat w0 w S) Q ((false, o) :: rest)) env l := fun a w f s => by
  simp only [wpPi, Region.wanted, hg, if_true]
  exact goesV_mono (h a w f s) fun v w' ⟨l', hp, s'⟩ => ⟨(k v l' hp).1 w' s', by rw [hd]; exact (k v l' hp).2 _ w' (f.put d v hn) s'⟩
theorem aq_t0 {Post : Value → List HP → Prop} (h : OpT P w0 n ds env l o Post) (hg : o.guard = none) (hd : o.dst = none)
    (k : ∀ v l', Post v l' → (∀ w, Sat w0 w l' → Sat w0 w S) ∧ At w0 n ds (wpPi P ops (fun w => Sat w0 w S) Q rest) env l') : At w0 n ds (wpPi P ops (fun w => Sat w0 w S) Q ((false, o) :: rest)) env l := fun a w f s => by
  simp only [wpPi, Region.wanted, hg, if_true]
  exact goesV_mono (h a w f s) fun v w' ⟨l', hp, s'⟩ => ⟨(k v l' hp).1 w' s', by rw [hd]; exact (k v l' hp).2 _ w' f s'⟩
theorem aq_wanted (h : guardV ops env j = some want) (k : At w0 n ds (wpPi P ops (fun w => Sat w0 w S) Q ((q, ⟨dst, op, type, pos, after, none⟩) :: rest)) env l) :
    At w0 n ds (wpPi P ops (fun w => Sat w0 w S) Q ((q, ⟨dst, op, type, pos, after, some (j, want)⟩) :: rest)) env l := fun a w f s => by
  have h1 := k a w f s
  cases q <;> simp only [wpPi, Region.wanted, guard_yields f h, beq_self_eq_true, if_true] at h1 ⊢ <;> exact h1
theorem aq_unwanted {b : Bool} {d : Nat} (h : guardV ops env j = some b) (hb : b = !want) (hd : dst = some d) (hn : Nat.blt d n = true) (k : At w0 n ds (wpPi P ops (fun w => Sat w0 w S) Q rest) ((d, undef) :: env) l) :
    At w0 n ds (wpPi P ops (fun w => Sat w0 w S) Q ((q, ⟨dst, op, type, pos, after, some (j, want)⟩) :: rest)) env l := fun a w f s => by
  subst hd
  have h1 := k _ w (f.put d undef hn) s
  subst hb
  cases q <;> cases want <;> simp only [wpPi, Region.wanted, guard_yields f h] <;> exact h1
theorem aq_unwantedN {d : Nat} (h : guardN ops env j = true) (hd : dst = some d) (hn : Nat.blt d n = true) (k : At w0 n ds (wpPi P ops (fun w => Sat w0 w S) Q rest) ((d, undef) :: env) l) :
    At w0 n ds (wpPi P ops (fun w => Sat w0 w S) Q ((q, ⟨dst, op, type, pos, after, some (j, want)⟩) :: rest)) env l := fun a w f s => by
  subst hd
  have h1 := k _ w (f.put d undef hn) s
  cases q <;> simp [wpPi, Region.wanted, guardN_yields f h] <;> exact h1
theorem aq_unwanted0 {b : Bool} (h : guardV ops env j = some b) (hb : b = !want) (hd : dst = none) (k : At w0 n ds (wpPi P ops (fun w => Sat w0 w S) Q rest) env l) :
    At w0 n ds (wpPi P ops (fun w => Sat w0 w S) Q ((q, ⟨dst, op, type, pos, after, some (j, want)⟩) :: rest)) env l := fun a w f s => by
  subst hd
  have h1 := k _ w f s
  subst hb
  cases q <;> cases want <;> simp only [wpPi, Region.wanted, guard_yields f h] <;> exact h1
end
end Go.Proofs.Ytjcmadaajiimiaa.SL
