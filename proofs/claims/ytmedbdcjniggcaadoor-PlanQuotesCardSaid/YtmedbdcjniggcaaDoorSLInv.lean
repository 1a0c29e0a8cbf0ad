/- Regions that draw their order, by an invariant over what has come up: for many operations that turn the world. -/
import Derived.Test.YtmedbdcjniggcaaDoorSLDraw
set_option linter.unusedVariables false
set_option linter.unusedSimpArgs false
namespace Go.Proofs.YtmedbdcjniggcaaDoor.SL
open Go Go.RowKit
/-- How many haven't come up. -/
def toCome (listed : Array Bool) : Nat := listed.toList.countP (fun b => !b)
theorem toCome_set {listed : Array Bool} {i : Nat} (hi : i < listed.size) (h : listed.getD i true = false) : toCome (listed.setIfInBounds i true) + 1 = toCome listed := by
  unfold toCome
  have hl : listed.toList[i]? = some false := by
    rw [Array.getElem?_toList]
    have : listed[i]? = some (listed.getD i true) := by simp [Array.getD, hi]
    rw [this, h]
  rw [Array.toList_setIfInBounds]
  generalize listed.toList = l at hl
  clear hi h
  induction l generalizing i with
  | nil => simp at hl
  | cons a l ih =>
    cases i with
    | zero => simp at hl; subst hl; simp
    | succ i =>
      have := ih (i := i) (by simpa using hl)
      rw [List.set_cons_succ, List.countP_cons, List.countP_cons]
      omega
theorem anyC_inv {P : Program} {ops : Array Oper} {Q : Act → World → Prop} (Inv : Array Bool → Act → World → Prop)
    (step : ∀ listed a w, listed.size = ops.size → Inv listed a w → ∀ i ∈ Region.ready .any ops listed, opGoes P ops i (fun a' w' => Inv (listed.setIfInBounds i true) a' w') a w)
    (fin : ∀ listed a w, listed.size = ops.size → Inv listed a w → Region.ready .any ops listed = [] → Q a w) :
    ∀ (fuel : Nat) (listed : Array Bool) (a : Act) (w : World), toCome listed ≤ fuel → listed.size = ops.size → Inv listed a w → anyC P ops (fun _ _ => True) Q fuel listed a w
  | 0, listed, a, w, hf, hs, h => by
    have hr : Region.ready .any ops listed = [] := by
      rw [List.eq_nil_iff_forall_not_mem]
      intro i hi
      obtain ⟨h0, o, ho, _⟩ := mem_ready.1 hi
      have hi2 : i < listed.size := by rw [hs]; exact (Array.getElem?_eq_some_iff.1 ho).1
      have := toCome_set hi2 h0
      omega
    exact ⟨hr, fin listed a w hs h hr⟩
  | fuel + 1, listed, a, w, hf, hs, h => by
    refine ⟨fun hr => fin listed a w hs h hr, fun i hi => ?_⟩
    obtain ⟨h0, o, ho, _⟩ := mem_ready.1 hi
    have hi2 : i < listed.size := by rw [hs]; exact (Array.getElem?_eq_some_iff.1 ho).1
    have hc := toCome_set hi2 h0
    exact opGoes_mono (step listed a w hs h i hi) fun a' w' h' => ⟨trivial, anyC_inv Inv step fin fuel _ a' w' (by omega) (by simpa using hs) h'⟩
section
variable {ro : Option Nat} {P : Program} {w0 : World} {n : Nat} {ds : List Deferred} {env : Env} {l : List HP} {Q : Exit → Act → World → Prop}
/-- J: what is known of the slots and the atoms when these came up. -/
theorem at_drawInv {id : Nat} {m : List Oper} (J : Array Bool → Env → List HP → Prop) (hm : P.follows .mixedOrders = true) (h0 : J (Array.replicate m.length false) env l)
    (step : ∀ (listed : Array Bool) (e : Env) (q : List HP), listed.size = m.length → J listed e q → ∀ i ∈ Region.ready .any m.toArray listed,
      At w0 n ds (fun a w => opGoes P m.toArray i (fun a' w' => ∃ e' q', J (listed.setIfInBounds i true) e' q' ∧ Fr n ds e' a' ∧ Sat w0 w' q') a w) e q)
    (fin : ∀ (listed : Array Bool) (e : Env) (q : List HP), listed.size = m.length → J listed e q → Region.ready .any m.toArray listed = [] → At w0 n ds (Q .normal) e q) :
    At w0 n ds (gwp ro P (Code.region id m.toArray true) Q) env l := fun a w f s => by
  refine wpIn_region_any hm (wpAny_of_anyC ro (C := fun _ _ => True) _ _ _ _ ?_)
  have := anyC_inv (P := P) (ops := m.toArray) (Q := Q .normal) (fun listed a w => ∃ e q, J listed e q ∧ Fr n ds e a ∧ Sat w0 w q)
    (fun listed a w hs ⟨e, q, hj, hf, hq⟩ i hi => step listed e q (by simpa using hs) hj i hi a w hf hq)
    (fun listed a w hs ⟨e, q, hj, hf, hq⟩ hr => fin listed e q (by simpa using hs) hj hr a w hf hq)
    m.length (Array.replicate m.length false) a { w with drawn := w.drawn + 1 } (by unfold toCome; refine Nat.le_trans List.countP_le_length ?_; simp) (by simp) ⟨env, l, h0, f, s.drew _⟩
  simpa using this
/-- One operation of a region, that leaves a value. -/
theorem goes_t {ops : Array Oper} {i d : Nat} {o : Oper} {Post : Value → List HP → Prop} {K : Act → World → Prop} (ho : ops[i]? = some o) (h : OpT P w0 n ds env l o Post) (hg : o.guard = none) (hd : o.dst = some d) (hn : Nat.blt d n = true)
    (k : ∀ v l', Post v l' → At w0 n ds K ((d, v) :: env) l') : At w0 n ds (fun a w => opGoes P ops i K a w) env l := fun a w f s => by
  unfold opGoes
  simp only [ho, Region.wanted, hg, if_true]
  exact goesV_mono (h a w f s) fun v w' ⟨l', hp, s'⟩ => by rw [hd]; exact k v l' hp _ w' (f.put d v hn) s'
theorem goes_t0 {ops : Array Oper} {i : Nat} {o : Oper} {Post : Value → List HP → Prop} {K : Act → World → Prop} (ho : ops[i]? = some o) (h : OpT P w0 n ds env l o Post) (hg : o.guard = none) (hd : o.dst = none)
    (k : ∀ v l', Post v l' → At w0 n ds K env l') : At w0 n ds (fun a w => opGoes P ops i K a w) env l := fun a w f s => by
  unfold opGoes
  simp only [ho, Region.wanted, hg, if_true]
  exact goesV_mono (h a w f s) fun v w' ⟨l', hp, s'⟩ => by rw [hd]; exact k v l' hp _ w' f s'
theorem goes_v {ops : Array Oper} {i d : Nat} {o : Oper} {v : Value} {K : Act → World → Prop} (ho : ops[i]? = some o) (h : OpV P w0 n ds env l o v) (hg : o.guard = none) (hd : o.dst = some d) (hn : Nat.blt d n = true)
    (k : At w0 n ds K ((d, v) :: env) l) : At w0 n ds (fun a w => opGoes P ops i K a w) env l := fun a w f s => by
  unfold opGoes
  simp only [ho, Region.wanted, hg, if_true]
  unfold Oper.goesV
  rw [h a w f s, hd]
  exact k _ w (f.put d v hn) s
/-- The invariant again. -/
theorem at_inv {J : Env → List HP → Prop} {e : Env} {q : List HP} (h : J e q) : At w0 n ds (fun a' w' => ∃ e' q', J e' q' ∧ Fr n ds e' a' ∧ Sat w0 w' q') e q := fun a w f s => ⟨e, q, h, f, s⟩
end
end Go.Proofs.YtmedbdcjniggcaaDoor.SL
