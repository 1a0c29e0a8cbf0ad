/- Regions that draw their order, when more than one of the operations that turn the world may be next: every one of them is walked. -/
import Derived.Test.YtmedbdcjniggcaaDoorSLExt
set_option linter.unusedVariables false
set_option linter.unusedSimpArgs false
namespace Go.Proofs.YtmedbdcjniggcaaDoor.SL
open Go Go.RowKit
def laid : List (Nat × Nat) → Array Bool → Array Bool
  | [], l => l
  | (_, i) :: r, l => laid r (l.setIfInBounds i true)
/-- The order is one that serves, as far as it goes. -/
def orderTo (ops : Array Oper) (e : Nat) : List (Nat × Nat) → Array Bool → Bool
  | [], _ => true
  | (1, i) :: rest, listed => (Region.ready .any ops listed).contains i && freeB ops i listed && i != e &&
      (listed.getD e false || (match ops[e]? with | some oe => oe.after.any fun x => Region.binds .any x && x.on == i | none => true)) && orderTo ops e rest (listed.setIfInBounds i true)
  | (2, i) :: rest, listed => (Region.ready .any ops listed).contains i && freeB ops i listed && i != e && orderTo ops e rest (listed.setIfInBounds i true)
  | (0, i) :: rest, listed => (Region.ready .any ops listed == [i]) && i != e && orderTo ops e rest (listed.setIfInBounds i true)
  | (3, i) :: rest, listed => (Region.ready .any ops listed == [i]) && i == e && orderTo ops e rest (listed.setIfInBounds i true)
  | _ :: _, _ => false
theorem anyC_of_piTo {P : Program} {ops : Array Oper} {e : Nat} {C1 C2 C0 : World → Prop} {Q : Act → World → Prop} {f0 : Nat} (hsel : Region.noSelect ops = true) (h10 : ∀ w, C1 w → C0 w) (h20 : ∀ w, C2 w → C0 w) :
    ∀ (p : List (Nat × Nat)) (C : World → Prop) (listed : Array Bool) (a : Act) (w : World), (C = match listed.getD e false with | true => C2 | false => C1) → C w → orderTo ops e p listed = true →
    wpPi P ops C0 C2 (fun _ => anyC P ops (cls e C1 C2) Q f0 (laid p listed)) C (inOrder ops p) a w → anyC P ops (cls e C1 C2) Q (p.length + f0) listed a w
  | [], C, listed, a, w, hc, hw, ho, h => by
    simp only [inOrder, wpPi, laid] at h
    simpa using h
  | (1, i) :: rest, C, listed, a, w, hc, hw, ho, h => by
    rw [List.length_cons, Nat.add_right_comm]
    simp only [laid] at h
    simp only [orderTo, Bool.and_eq_true] at ho
    obtain ⟨⟨⟨⟨hr, hf⟩, hne⟩, hb⟩, ho'⟩ := ho
    have hie : i ≠ e := by simpa using hne
    have hr' : i ∈ Region.ready .any ops listed := by simpa using hr
    obtain ⟨_, oi, hoi, _⟩ := mem_ready.1 hr'
    have hin : inOrder ops ((1, i) :: rest) = (1, oi) :: inOrder ops rest := by simp [inOrder, hoi]
    rw [hin] at h
    have hw' : cls e C1 C2 listed w := by unfold cls; subst hc; revert hw; cases listed.getD e false <;> exact id
    have hc' : C = match (listed.setIfInBounds i true).getD e false with | true => C2 | false => C1 := by rw [getD_set_ne false hie]; exact hc
    have go : ∀ v, YieldsC P ops C oi v a → anyC P ops (cls e C1 C2) Q (rest.length + f0) (listed.setIfInBounds i true) (a.put oi.dst v) w → anyC P ops (cls e C1 C2) Q (rest.length + f0 + 1) listed a w := by
      intro v hy k
      refine anyC_first hoi (Region.noSelect_spec hsel) hie (fun l => l.getD e false = listed.getD e false) ?_ ?_ (rest.length + f0) listed a w hw' rfl (freeB_spec hoi hf) hr' hy k
      · intro l j hl hil hjl hji
        by_cases hje : j = e
        · subst hje
          obtain ⟨hjun, oj, hoj, hall⟩ := mem_ready.1 hjl
          obtain ⟨hiun, _⟩ := mem_ready.1 hil
          cases hla : listed.getD j false with
          | true =>
            rw [hla] at hl
            rcases Nat.lt_or_ge j l.size with h' | h'
            · simp [h'] at hl hjun; rw [hl] at hjun; cases hjun
            · simp [Array.getElem?_eq_none h'] at hl
          | false =>
            exfalso
            rw [hla, hoj] at hb
            simp only [Bool.false_or] at hb
            obtain ⟨x, hx, hbx⟩ := Array.any_eq_true'.1 hb
            simp only [Bool.and_eq_true, beq_iff_eq] at hbx
            have h0 := hall x hx hbx.1
            rw [hbx.2] at h0
            rcases Nat.lt_or_ge i l.size with h' | h'
            · simp [h'] at h0 hiun; rw [h0] at hiun; cases hiun
            · simp [Array.getElem?_eq_none h'] at h0
        · rw [getD_set_ne false hje]; exact hl
      · intro l w1 hl h1
        unfold cls at h1
        rw [hl] at h1
        subst hc
        revert h1
        cases listed.getD e false <;> exact id
    simp only [wpPi] at h
    by_cases hwt : Region.wanted oi (yielded ops a.tmps) = true
    · simp only [hwt, if_true] at h
      obtain ⟨v, hv, hk⟩ := h
      exact go v (.inl ⟨hwt, hv⟩) (anyC_of_piTo hsel h10 h20 rest C _ _ w hc' hw ho' hk)
    · simp only [hwt] at h
      exact go undef (.inr ⟨by simpa using hwt, rfl⟩) (anyC_of_piTo hsel h10 h20 rest C _ _ w hc' hw ho' h)
  | (2, i) :: rest, C, listed, a, w, hc, hw, ho, h => by
    rw [List.length_cons, Nat.add_right_comm]
    simp only [laid] at h
    simp only [orderTo, Bool.and_eq_true] at ho
    obtain ⟨⟨⟨hr, hf⟩, hne⟩, ho'⟩ := ho
    have hie : i ≠ e := by simpa using hne
    have hr' : i ∈ Region.ready .any ops listed := by simpa using hr
    obtain ⟨_, oi, hoi, _⟩ := mem_ready.1 hr'
    have hin : inOrder ops ((2, i) :: rest) = (2, oi) :: inOrder ops rest := by simp [inOrder, hoi]
    rw [hin] at h
    have hw' : cls e C1 C2 listed w := by unfold cls; subst hc; revert hw; cases listed.getD e false <;> exact id
    have hc' : C = match (listed.setIfInBounds i true).getD e false with | true => C2 | false => C1 := by rw [getD_set_ne false hie]; exact hc
    have go : ∀ v, YieldsC P ops C0 oi v a → anyC P ops (cls e C1 C2) Q (rest.length + f0) (listed.setIfInBounds i true) (a.put oi.dst v) w → anyC P ops (cls e C1 C2) Q (rest.length + f0 + 1) listed a w := by
      intro v hy k
      refine anyC_first hoi (Region.noSelect_spec hsel) hie (fun _ => True) (fun _ _ _ _ _ _ => trivial) ?_ (rest.length + f0) listed a w hw' trivial (freeB_spec hoi hf) hr' hy k
      intro l w1 _ h1
      unfold cls at h1
      revert h1
      cases l.getD e false
      · exact h10 w1
      · exact h20 w1
    simp only [wpPi] at h
    by_cases hwt : Region.wanted oi (yielded ops a.tmps) = true
    · simp only [hwt, if_true] at h
      obtain ⟨v, hv, hk⟩ := h
      exact go v (.inl ⟨hwt, hv⟩) (anyC_of_piTo hsel h10 h20 rest C _ _ w hc' hw ho' hk)
    · simp only [hwt] at h
      exact go undef (.inr ⟨by simpa using hwt, rfl⟩) (anyC_of_piTo hsel h10 h20 rest C _ _ w hc' hw ho' h)
  | (0, i) :: rest, C, listed, a, w, hc, hw, ho, h => by
    rw [List.length_cons, Nat.add_right_comm]
    simp only [laid] at h
    simp only [orderTo, Bool.and_eq_true] at ho
    obtain ⟨⟨hr, hne⟩, ho'⟩ := ho
    have hie : i ≠ e := by simpa using hne
    have hr1 : Region.ready .any ops listed = [i] := by simpa using hr
    obtain ⟨_, oi, hoi, _⟩ := mem_ready.1 (show i ∈ Region.ready .any ops listed by rw [hr1]; simp)
    have hin : inOrder ops ((0, i) :: rest) = (0, oi) :: inOrder ops rest := by simp [inOrder, hoi]
    rw [hin] at h
    have hc' : C = match (listed.setIfInBounds i true).getD e false with | true => C2 | false => C1 := by rw [getD_set_ne false hie]; exact hc
    have hcls : ∀ w1, C w1 → cls e C1 C2 (listed.setIfInBounds i true) w1 := by
      intro w1 h1; unfold cls; rw [hc'] at h1; revert h1; cases (listed.setIfInBounds i true).getD e false <;> exact id
    refine anyC_only hr1 ?_
    simp only [wpPi] at h
    unfold opGoes
    simp only [hoi]
    split
    · rename_i hwt
      simp only [hwt, if_true] at h
      exact goesV_mono h fun v w' ⟨k1, k2⟩ => ⟨hcls _ k1, anyC_of_piTo hsel h10 h20 rest C _ _ w' hc' k1 ho' k2⟩
    · rename_i hwt
      simp only [hwt] at h
      exact ⟨hcls _ hw, anyC_of_piTo hsel h10 h20 rest C _ _ w hc' hw ho' h⟩
  | (3, i) :: rest, C, listed, a, w, hc, hw, ho, h => by
    rw [List.length_cons, Nat.add_right_comm]
    simp only [laid] at h
    simp only [orderTo, Bool.and_eq_true] at ho
    obtain ⟨⟨hr, hne⟩, ho'⟩ := ho
    have hie : i = e := by simpa using hne
    subst hie
    have hr1 : Region.ready .any ops listed = [i] := by simpa using hr
    obtain ⟨hun, oi, hoi, _⟩ := mem_ready.1 (show i ∈ Region.ready .any ops listed by rw [hr1]; simp)
    have hin : inOrder ops ((3, i) :: rest) = (3, oi) :: inOrder ops rest := by simp [inOrder, hoi]
    rw [hin] at h
    have hlt : i < listed.size := by
      rcases Nat.lt_or_ge i listed.size with h' | h'
      · exact h'
      · simp [Array.getElem?_eq_none h'] at hun
    have hc' : C2 = match (listed.setIfInBounds i true).getD i false with | true => C2 | false => C1 := by simp [hlt]
    refine anyC_only hr1 ?_
    simp only [wpPi] at h
    unfold opGoes
    simp only [hoi]
    split
    · rename_i hwt
      simp only [hwt, if_true] at h
      exact goesV_mono h fun v w' ⟨k1, k2⟩ => ⟨by rw [cls_listed hlt]; exact k1, anyC_of_piTo hsel h10 h20 rest C2 _ _ w' hc' k1 ho' k2⟩
    · rename_i hwt
      simp only [hwt] at h
      exact ⟨by rw [cls_listed hlt]; exact h.1, anyC_of_piTo hsel h10 h20 rest C2 _ _ w hc' h.1 ho' h.2⟩
  | (n + 4, i) :: rest, C, listed, a, w, hc, hw, ho, h => by simp [orderTo] at ho
section
variable {ro : Option Nat} {P : Program} {w0 : World} {n : Nat} {ds : List Deferred} {env : Env} {l : List HP} {Q : Exit → Act → World → Prop} {ops : Array Oper} {S S2 : List HP} {e f : Nat} {listed : Array Bool}
/-- What is left of a region, when these came up. -/
abbrev left (P : Program) (ops : Array Oper) (w0 : World) (S S2 : List HP) (e : Nat) (Q : Exit → Act → World → Prop) (f : Nat) (listed : Array Bool) : Act → World → Prop :=
  anyC P ops (cls e (fun w => Sat w0 w S) (fun w => Sat w0 w S2)) (Q .normal) f listed
theorem at_drawAny {id : Nat} {m : List Oper} (S S2 : List HP) (e : Nat) (hm : P.follows .mixedOrders = true) (h : At w0 n ds (left P m.toArray w0 S S2 e Q m.length (Array.replicate m.length false)) env l) : At w0 n ds (gwp ro P (Code.region id m.toArray true) Q) env l := fun a w f s => by
  refine wpIn_region_any hm (wpAny_of_anyC ro (C := cls e (fun w => Sat w0 w S) (fun w => Sat w0 w S2)) _ _ _ _ ?_)
  have := h a { w with drawn := w.drawn + 1 } f (s.drew _)
  simpa [left] using this
/-- The next ones, in an order. -/
theorem at_next {f0 : Nat} (p : List (Nat × Nat)) (hf : f = p.length + f0) (hok : (Region.noSelect ops && !(listed.getD e false) && orderTo ops e p listed) = true) (hS : ∀ w, Sat w0 w l → Sat w0 w S)
    (h : At w0 n ds (pi P ops w0 S2 (fun _ => left P ops w0 S S2 e Q f0 (laid p listed)) S (inOrder ops p)) env l) : At w0 n ds (left P ops w0 S S2 e Q f listed) env l := fun a w fr s => by
  simp only [Bool.and_eq_true, Bool.not_eq_true'] at hok
  obtain ⟨⟨h1, h2⟩, h3⟩ := hok
  subst hf
  exact anyC_of_piTo (P := P) (C1 := fun w => Sat w0 w S) (C2 := fun w => Sat w0 w S2) (C0 := fun w => Sat w0 w []) (e := e) h1 (fun _ s => s.bare) (fun _ s => s.bare) p _ listed a w (by rw [h2]) (hS w s) h3 (h a w fr s)
/-- All came up. -/
theorem at_leaf (hr : Region.ready .any ops listed = []) (h : At w0 n ds (Q .normal) env l) : At w0 n ds (left P ops w0 S S2 e Q f listed) env l := fun a w fr s => by
  cases f with
  | zero => exact ⟨hr, h a w fr s⟩
  | succ f => exact ⟨fun _ => h a w fr s, fun i hi => by rw [hr] at hi; cases hi⟩
/-- One of these is next. -/
theorem at_branch {is : List Nat} (hr : Region.ready .any ops listed = is) (hne : is ≠ []) (h : ∀ i ∈ is, At w0 n ds (fun a w => opGoes P ops i (fun a' w' => cls e (fun w => Sat w0 w S) (fun w => Sat w0 w S2) (listed.setIfInBounds i true) w' ∧ left P ops w0 S S2 e Q f (listed.setIfInBounds i true) a' w') a w) env l) :
    At w0 n ds (left P ops w0 S S2 e Q (f + 1) listed) env l := fun a w fr s =>
  ⟨fun h0 => absurd (hr ▸ h0) hne, fun i hi => h i (hr ▸ hi) a w fr s⟩
theorem at_branch2 {i j : Nat} (hr : Region.ready .any ops listed = [i, j]) (hi : At w0 n ds (fun a w => opGoes P ops i (fun a' w' => cls e (fun w => Sat w0 w S) (fun w => Sat w0 w S2) (listed.setIfInBounds i true) w' ∧ left P ops w0 S S2 e Q f (listed.setIfInBounds i true) a' w') a w) env l)
    (hj : At w0 n ds (fun a w => opGoes P ops j (fun a' w' => cls e (fun w => Sat w0 w S) (fun w => Sat w0 w S2) (listed.setIfInBounds j true) w' ∧ left P ops w0 S S2 e Q f (listed.setIfInBounds j true) a' w') a w) env l) :
    At w0 n ds (left P ops w0 S S2 e Q (f + 1) listed) env l :=
  at_branch hr (by simp) fun k hk => by
    simp at hk
    rcases hk with rfl | rfl
    · exact hi
    · exact hj
theorem goes_of_pi {i : Nat} {o : Oper} {f : Nat} {a : Act} {w : World} (ho : ops[i]? = some o) (hie : i ≠ e) (hl : listed.getD e false = false) (hs : Sat w0 w S)
    (h : pi P ops w0 S2 (fun _ => left P ops w0 S S2 e Q f (listed.setIfInBounds i true)) S [(0, o)] a w) :
    opGoes P ops i (fun a' w' => cls e (fun w => Sat w0 w S) (fun w => Sat w0 w S2) (listed.setIfInBounds i true) w' ∧ left P ops w0 S S2 e Q f (listed.setIfInBounds i true) a' w') a w := by
  have hc : ∀ w', Sat w0 w' S → cls e (fun w => Sat w0 w S) (fun w => Sat w0 w S2) (listed.setIfInBounds i true) w' := fun w' s => by
    rw [cls_set hie]; unfold cls; rw [hl]; exact s
  unfold opGoes
  simp only [ho]
  simp only [wpPi] at h
  split
  · rename_i hwt
    simp only [hwt, if_true] at h
    exact goesV_mono h fun v w' ⟨k1, k2⟩ => ⟨hc _ k1, k2⟩
  · rename_i hwt
    simp only [hwt] at h
    exact ⟨hc _ hs, h⟩
/-- Two may be next: each of them first. -/
theorem at_fork {i j : Nat} {oi oj : Oper} (hr : Region.ready .any ops listed = [i, j]) (hl : (listed.getD e false || Nat.beq i e || Nat.beq j e) = false) (hS : ∀ w, Sat w0 w l → Sat w0 w S) (hoi : ops[i]? = some oi) (hoj : ops[j]? = some oj)
    (hi : At w0 n ds (pi P ops w0 S2 (fun _ => left P ops w0 S S2 e Q f (listed.setIfInBounds i true)) S [(0, oi)]) env l)
    (hj : At w0 n ds (pi P ops w0 S2 (fun _ => left P ops w0 S S2 e Q f (listed.setIfInBounds j true)) S [(0, oj)]) env l) : At w0 n ds (left P ops w0 S S2 e Q (f + 1) listed) env l := by
  simp only [Bool.or_eq_false_iff] at hl
  obtain ⟨⟨h1, h2⟩, h3⟩ := hl
  refine at_branch2 hr (fun a w fr s => goes_of_pi hoi (fun h => ?_) h1 (hS w s) (hi a w fr s)) (fun a w fr s => goes_of_pi hoj (fun h => ?_) h1 (hS w s) (hj a w fr s))
  · subst h; simp at h2
  · subst h; simp at h3
/-- A region: the first ones, in an order. -/
theorem at_drawTo {id : Nat} {m : List Oper} {f0 : Nat} (S2 : List HP) (e : Nat) (p : List (Nat × Nat)) (hm : P.follows .mixedOrders = true) (hf : m.length = p.length + f0) (hok : (Region.noSelect m.toArray && !((Array.replicate m.length false).getD e false) && orderTo m.toArray e p (Array.replicate m.length false)) = true) (hS : ∀ w, Sat w0 w l → Sat w0 w S)
    (h : At w0 n ds (pi P m.toArray w0 S2 (fun _ => left P m.toArray w0 S S2 e Q f0 (laid p (Array.replicate m.length false))) S (inOrder m.toArray p)) env l) : At w0 n ds (gwp ro P (Code.region id m.toArray true) Q) env l :=
  at_drawAny S S2 e hm (at_next p hf hok hS h)
/-- A value, read when nothing else may be next. -/
theorem aq_v0 {ops : Array Oper} {o : Oper} {rest : List (Nat × Oper)} {v : Value} {d : Nat} (h : OpV P w0 n ds env l o v) (hg : o.guard = none) (hd : o.dst = some d) (hn : Nat.blt d n = true)
    (k : (∀ w, Sat w0 w l → Sat w0 w S) ∧ At w0 n ds (pi P ops w0 S2 Q S rest) ((d, v) :: env) l) : At w0 n ds (pi P ops w0 S2 Q S ((0, o) :: rest)) env l := fun a w f s => by
  simp only [wpPi, Region.wanted, hg, if_true]
  unfold Oper.goesV
  rw [h a w f s]
  exact ⟨k.1 w s, by rw [hd]; exact k.2 _ w (f.put d v hn) s⟩
end
end Go.Proofs.YtmedbdcjniggcaaDoor.SL
