/- What always holds of a pool: each act keeps it. -/
import Derived.Test.YtlkcccihkfggmaaGreatProg
import Derived.Test.YtlkcccihkfggmaaGreatPool4
import Derived.Test.YtlkcccihkfggmaaGreatSLBr
import Derived.KernelRfl
set_option linter.unusedSimpArgs false
set_option linter.unusedVariables false
set_option maxRecDepth 100000
namespace Go.Proofs.YtlkcccihkfggmaaGreat
open Go Go.Proofs.YtlkcccihkfggmaaGreat.SL Go.RowKit
def upd (cs : List XM) (f : XM → CM × Int) : List XM := alive (cs.map fun x => (x.1, f x))
theorem upd_mem {cs : List XM} {f : XM → CM × Int} {y : XM} : y ∈ upd cs f ↔ ∃ x ∈ cs, (x.1, f x) = y ∧ (f x).1.state ≠ 4 := by
  unfold upd alive
  simp only [List.mem_filter, List.mem_map, Bool.not_eq_eq_eq_not, Bool.not_true, decide_eq_false_iff_not]
  constructor
  · rintro ⟨⟨x, hx, rfl⟩, h⟩; exact ⟨x, hx, rfl, h⟩
  · rintro ⟨x, hx, rfl, h⟩; exact ⟨⟨x, hx, rfl⟩, h⟩
theorem upd_len {cs : List XM} {f : XM → CM × Int} : (upd cs f).length ≤ cs.length := by
  unfold upd alive
  have := List.length_filter_le (fun x : XM => !decide (x.2.1.state = 4)) (cs.map fun x => (x.1, f x))
  simpa using this
theorem upd_open (cs : List XM) (f : XM → CM × Int) : Open4 (upd cs f) := alive_open _
/-- What an act may make of a connection. -/
def Good (f : XM → CM × Int) (x : XM) : Prop := (f x).1.state = 4 ∨ (CWf (f x).1 ∧ ((f x).1.o = x.2.1.o ∨ (f x).1.o = 0) ∧ U64 (f x).2)
theorem Wf.upd {n : Nat} {p : PM} (h : Wf n p) (f : XM → CM × Int) (hf : ∀ x ∈ p.cs, Good f x) : Wf n { p with cs := upd p.cs f } where
  hn := h.hn
  most_ := h.most_
  wm_ := h.wm_
  last_ := h.last_
  len := by have := h.len; have := upd_len (cs := p.cs) (f := f); simp only; omega
  pw := by
    show (Go.Proofs.YtlkcccihkfggmaaGreat.upd p.cs f).Pairwise XR
    unfold Go.Proofs.YtlkcccihkfggmaaGreat.upd alive
    rw [List.pairwise_filter, List.pairwise_map]
    refine h.pw.imp_of_mem ?_
    intro a b ha hb r h1 h2
    have h1 : (f a).1.state ≠ 4 := by simpa using h1
    have h2 : (f b).1.state ≠ 4 := by simpa using h2
    obtain ⟨_, o1, _⟩ := (hf a ha).resolve_left h1
    obtain ⟨_, o2, _⟩ := (hf b hb).resolve_left h2
    have ca := (h.con a ha).1
    have cb := (h.con b hb).1
    obtain ⟨r1, r2⟩ := r
    refine ⟨r1, ?_⟩
    simp only
    omega
  ids := by
    intro y hy
    obtain ⟨x, hx, rfl, _⟩ := upd_mem.1 hy
    exact h.ids x hx
  con := by
    intro y hy
    obtain ⟨x, hx, rfl, h4⟩ := upd_mem.1 hy
    exact ((hf x hx).resolve_left h4).1
  since := by
    intro y hy
    obtain ⟨x, hx, rfl, h4⟩ := upd_mem.1 hy
    exact ((hf x hx).resolve_left h4).2.2
  lenL := h.lenL
  nod := h.nod
  pos := by
    intro s hs
    obtain ⟨h1, h2⟩ := h.pos s hs
    refine ⟨h1, ?_⟩
    intro y hy
    obtain ⟨x, hx, rfl, h4⟩ := upd_mem.1 hy
    have o1 := ((hf x hx).resolve_left h4).2.1
    have := h2 x hx
    simp only
    omega
theorem Wf.mono {n m : Nat} {p : PM} (h : Wf n p) (hm : n ≤ m) (h4 : m ≤ 400) : Wf m p :=
  { h with hn := h4, last_ := ⟨h.last_.1, by have := h.last_.2; omega⟩ }
theorem Wf.subL {n : Nat} {p : PM} (h : Wf n p) {L : List Int} (hL : L.Sublist p.L) : Wf n { p with L := L } :=
  { h with lenL := by have := hL.length_le; have := h.lenL; simp only; omega
           nod := h.nod.sublist hL
           pos := fun s hs => h.pos s (hL.subset hs) }
theorem Wf.put {n : Nat} {p : PM} (h : Wf n p) {s : Int} (hl : (p.L.length : Int) ≠ p.wm) (h1 : 1 ≤ s) (h2 : s ∉ p.L) (h3 : ∀ x ∈ p.cs, x.2.1.o ≠ s) : Wf n { p with L := p.L ++ [s] } :=
  { h with lenL := by have := h.lenL; simp only [List.length_append, List.length_singleton]; omega
           nod := by
             simp only
             rw [List.nodup_append]
             refine ⟨h.nod, by simp, ?_⟩
             intro a ha b hb e
             simp at hb
             subst hb; subst e; exact h2 ha
           pos := fun t ht => by
             rcases List.mem_append.1 ht with ht | ht
             · exact h.pos t ht
             · simp at ht; subst ht; exact ⟨h1, h3⟩ }
theorem uniq {cs : List XM} (hs : (cs.map (·.1)).Pairwise (· < ·)) {j k : Nat} {x y : XM} (hx : cs[k]? = some x) (hy : cs[j]? = some y) (e : y.1 = x.1) : j = k := by
  have h1 := pos_of hs hx
  have h2 := pos_of hs hy
  rw [e, h1] at h2
  simpa using h2.symm
/-- What stands at one place is turned: as a map over all. -/
theorem set_map {cs : List XM} (hs : (cs.map (·.1)).Pairwise (· < ·)) {k : Nat} {x : XM} (hx : cs[k]? = some x) (v : CM × Int) : cs.set k (x.1, v) = cs.map fun y => (y.1, if y.1 = x.1 then v else y.2) := by
  refine List.ext_getElem? fun j => ?_
  rw [List.getElem?_set, List.getElem?_map]
  have hk := (List.getElem?_eq_some_iff.1 hx).1
  by_cases hj : k = j
  · subst hj
    rw [if_pos rfl, if_pos hk, hx]
    simp
  · rw [if_neg hj]
    cases hy : cs[j]? with
    | none => rfl
    | some y =>
      have : y.1 ≠ x.1 := fun e => hj (uniq hs hx hy e).symm
      simp [this]
def onI (id : Int) (u : CM → CM) (x : XM) : CM × Int := if x.1 = id then (u x.2.1, x.2.2) else x.2
theorem setL_map {cs : List XM} (hs : (cs.map (·.1)).Pairwise (· < ·)) (id : Int) (u : CM → CM) : setL cs id u = cs.map fun x => (x.1, onI id u x) := by
  unfold setL
  cases hp : posOf cs id with
  | none =>
    have hno := posOf_none hp
    simp only
    rw [show cs.map (fun x => (x.1, onI id u x)) = cs.map (fun x => x) from List.map_congr_left fun x hx => by simp [onI, hno x hx]]
    simp
  | some k =>
    obtain ⟨c, s, hx⟩ := posOf_some hp
    simp only [hx]
    refine (set_map hs hx (u c, s)).trans ?_
    refine List.map_congr_left fun y hy => ?_
    unfold onI
    by_cases e : y.1 = id
    · obtain ⟨j, hj⟩ := List.getElem?_of_mem hy
      have := uniq hs hx hj e
      subst this
      rw [hx] at hj
      cases hj
      simp
    · simp [e]
theorem alive_cons (x : XM) (l : List XM) : alive (x :: l) = if x.2.1.state = 4 then alive l else x :: alive l := by
  unfold alive
  by_cases h : x.2.1.state = 4 <;> simp [h]
theorem sweepL_alive {cs : List XM} (hs : (cs.map (·.1)).Pairwise (· < ·)) {id : Int} (ho : ∀ x ∈ cs, x.1 ≠ id → x.2.1.state ≠ 4) : sweepL cs id = alive cs := by
  unfold sweepL
  cases hp : posOf cs id with
  | none =>
    simp only
    exact (alive_same fun x hx => ho x hx (posOf_none hp x hx)).symm
  | some k =>
    obtain ⟨c, s, hx⟩ := posOf_some hp
    simp only
    unfold sweepK
    rw [hx]
    simp only
    obtain ⟨hk, hk2⟩ := List.getElem?_eq_some_iff.1 hx
    by_cases h4 : c.state = 4
    · rw [if_pos h4]
      have e : cs = cs.take k ++ (id, c, s) :: cs.drop (k + 1) := by rw [← hk2, ← List.drop_eq_getElem_cons hk, List.take_append_drop]
      have h1 : Open4 (cs.take k) := fun x hx' => by
        obtain ⟨j, hj⟩ := List.getElem?_of_mem hx'
        have hjk : j < k := by have := (List.getElem?_eq_some_iff.1 hj).1; rw [List.length_take] at this; omega
        rw [List.getElem?_take, if_pos hjk] at hj
        exact ho x (List.mem_of_getElem? hj) fun e => by have := uniq hs hx hj e; omega
      have h2 : Open4 (cs.drop (k + 1)) := fun x hx' => by
        obtain ⟨j, hj⟩ := List.getElem?_of_mem hx'
        rw [List.getElem?_drop] at hj
        exact ho x (List.mem_of_getElem? hj) fun e => by have := uniq hs hx hj e; omega
      have e2 : alive cs = cs.take k ++ cs.drop (k + 1) := by
        conv => lhs; rw [e]
        rw [alive_app, alive_same h1, alive_cons, if_pos h4, alive_same h2]
      rw [e2, List.eraseIdx_eq_take_drop_succ]
    · rw [if_neg h4]
      refine (alive_same fun x hx' => ?_).symm
      by_cases e : x.1 = id
      · obtain ⟨j, hj⟩ := List.getElem?_of_mem hx'
        have := uniq hs hx hj e
        subst this
        rw [hx] at hj
        cases hj
        exact h4
      · exact ho x hx' e
theorem map_ids (cs : List XM) (f : XM → CM × Int) : (cs.map fun x => (x.1, f x)).map (·.1) = cs.map (·.1) := by
  rw [List.map_map]; rfl
theorem withL_upd {cs : List XM} (hs : (cs.map (·.1)).Pairwise (· < ·)) (ho : Open4 cs) (id : Int) (u : CM → CM) : withL cs id u = upd cs (onI id u) := by
  unfold withL upd
  rw [setL_map hs]
  refine sweepL_alive (by rw [map_ids]; exact hs) ?_
  intro x hx hne
  obtain ⟨y, hy, rfl⟩ := List.mem_map.1 hx
  unfold onI
  rw [if_neg hne]
  exact ho y hy
theorem setL_upd {cs : List XM} (hs : (cs.map (·.1)).Pairwise (· < ·)) (ho : Open4 cs) (id : Int) (u : CM → CM) (hu : ∀ x ∈ cs, (u x.2.1).state ≠ 4) : setL cs id u = upd cs (onI id u) := by
  unfold upd
  rw [setL_map hs, alive_same]
  intro x hx
  obtain ⟨y, hy, rfl⟩ := List.mem_map.1 hx
  unfold onI
  split
  · exact hu y hy
  · exact ho y hy
theorem upd_sorted {cs : List XM} (hs : (cs.map (·.1)).Pairwise (· < ·)) (f : XM → CM × Int) : ((upd cs f).map (·.1)).Pairwise (· < ·) := by
  unfold upd
  rw [← midL_all]
  exact midL_sorted hs
theorem midL_upd (cs : List XM) (u : XM → CM × Int) : midL cs u cs.length = upd cs u := midL_all cs u
/-- What is given back stands as it is since then. -/
def relU (id now : Int) (x : XM) : CM × Int := if x.1 = id then (x.2.1.release, if x.2.1.releases = true then now else x.2.2) else x.2
theorem withB_of {cs : List XM} (hs : (cs.map (·.1)).Pairwise (· < ·)) {x : XM} (hx : x ∈ cs) (d : CM → Bool) : withB cs x.1 d = d x.2.1 := by
  obtain ⟨k, hk⟩ := List.getElem?_of_mem hx
  exact withB_some (c := x.2.1) (s := x.2.2) (pos_of hs hk) hk
theorem releaseL_upd {cs : List XM} (hs : (cs.map (·.1)).Pairwise (· < ·)) (ho : Open4 cs) (id now : Int) : releaseL cs id now = upd cs (relU id now) := by
  unfold releaseL
  rw [withL_upd hs ho]
  cases hb : withB cs id CM.releases with
  | false =>
    simp only [Bool.false_eq_true, if_false]
    unfold upd
    congr 1
    refine List.map_congr_left fun x hx => ?_
    unfold onI relU
    by_cases e : x.1 = id
    · have := withB_of hs hx CM.releases
      rw [e, hb] at this
      simp [e, ← this]
    · simp [e]
  | true =>
    simp only [if_true]
    have hs1 := upd_sorted hs (onI id CM.release)
    have e1 : ∀ l : List XM, (l.map (·.1)).Pairwise (· < ·) → sinceL l id now = l.map fun x => (x.1, if x.1 = id then (x.2.1, now) else x.2) := by
      intro l hl
      unfold sinceL
      cases hp : posOf l id with
      | none =>
        have hno := posOf_none hp
        simp only
        rw [show l.map (fun x => (x.1, if x.1 = id then (x.2.1, now) else x.2)) = l.map (fun x => x) from List.map_congr_left fun x hx => by simp [hno x hx]]
        simp
      | some k =>
        obtain ⟨c, s, hx⟩ := posOf_some hp
        simp only [hx]
        refine (set_map hl hx (c, now)).trans ?_
        refine List.map_congr_left fun y hy => ?_
        by_cases e : y.1 = id
        · obtain ⟨j, hj⟩ := List.getElem?_of_mem hy
          have := uniq hl hx hj e
          subst this
          rw [hx] at hj
          cases hj
          simp
        · simp [e]
    rw [e1 _ hs1]
    unfold upd alive
    rw [List.filter_map, List.filter_map, List.map_map]
    have e2 : ∀ x : XM, (relU id now x).1 = (onI id CM.release x).1 := fun x => by unfold relU onI; split <;> rfl
    rw [show ((fun x : XM => !decide (x.2.1.state = 4)) ∘ fun x => (x.1, relU id now x)) = ((fun x : XM => !decide (x.2.1.state = 4)) ∘ fun x => (x.1, onI id CM.release x)) from funext fun x => by simp only [Function.comp, e2]]
    refine List.map_congr_left fun x hx => ?_
    have hx := (List.mem_filter.1 hx).1
    simp only [Function.comp]
    unfold onI relU
    by_cases e : x.1 = id
    · have := withB_of hs hx CM.releases
      rw [e, hb] at this
      simp [e, ← this]
    · simp [e]
/-! ### the kinds of acts -/
theorem state2 {c : CM} (h : c.state = 2) : c.o ≠ -1 ∧ c.o ≠ 0 ∧ c.r = false := by
  unfold CM.state at h
  by_cases h1 : c.o = -1
  · rw [if_pos h1] at h; omega
  · by_cases h2 : c.o = 0
    · rw [if_neg h1, if_pos h2] at h; omega
    · cases hr : c.r with
      | true => rw [if_neg h1, if_neg h2, if_pos hr] at h; omega
      | false => exact ⟨h1, h2, rfl⟩
theorem cwf_send {c : CM} (h : CWf c) (n : Int) : CWf (c.send n) := by
  unfold CM.send
  split
  · exact h
  · rename_i hh
    have h2 : c.state = 2 := by
      apply Decidable.byContradiction
      intro hne
      exact hh (.inr (.inl hne))
    obtain ⟨a, b, d⟩ := state2 h2
    refine ⟨h.1, fun _ => ?_, fun hr => ?_⟩
    · have := h.1; simp only; omega
    · simp only at hr; rw [d] at hr; cases hr
theorem o_send (c : CM) (n : Int) : (c.send n).o = c.o := by unfold CM.send; split <;> rfl
theorem good_close {c : CM} : c.close.state = 4 := by simp [CM.close, CM.state]
theorem cwf_reply {c : CM} (h : CWf c) (n : Int) : (c.reply n).state = 4 ∨ (CWf (c.reply n) ∧ (c.reply n).o = c.o) := by
  unfold CM.reply
  split
  · split
    · exact .inl good_close
    · rename_i h1 h2
      refine .inr ⟨?_, rfl⟩
      unfold CWf at *
      simp only
      refine ⟨h.1, fun h => absurd rfl h, fun hr => ?_⟩
      exfalso
      have := h.2.1 (by rw [h1.2]; exact h1.1)
      unfold CM.state at h2
      rw [if_neg (by omega), if_neg (by omega), if_pos hr] at h2
      exact h2 rfl
  · exact .inr ⟨h, rfl⟩
theorem cwf_soil {c : CM} (h : CWf c) : CWf c.soil ∧ c.soil.o = c.o := ⟨h, rfl⟩
theorem cwf_release {c : CM} (h : CWf c) : c.release.state = 4 ∨ (CWf c.release ∧ (c.release.o = c.o ∨ c.release.o = 0)) := by
  unfold CM.release
  split
  · split
    · exact .inl good_close
    · rename_i h1 h2
      refine .inr ⟨?_, .inr rfl⟩
      unfold CWf at *
      simp only
      refine ⟨Int.le_refl _, fun hf => absurd h1.2 hf, fun hr => h.2.2 hr⟩
  · exact .inr ⟨h, .inl rfl⟩
theorem cwf_drain {c : CM} (h : CWf c) : c.drain.state = 4 ∨ (CWf c.drain ∧ c.drain.o = c.o) := by
  unfold CM.drain
  split
  · rename_i hf
    exact .inr ⟨⟨h.1, h.2.1, fun _ => hf⟩, rfl⟩
  · exact .inl good_close
theorem good_same {n : Nat} {p : PM} (h : Wf n p) {x : XM} (hx : x ∈ p.cs) : CWf x.2.1 ∧ (x.2.1.o = x.2.1.o ∨ x.2.1.o = 0) ∧ U64 x.2.2 := ⟨h.con x hx, .inl rfl, h.since x hx⟩
theorem good_onI {n : Nat} {p : PM} (h : Wf n p) (id : Int) {u : CM → CM} (hu : ∀ c, CWf c → (u c).state = 4 ∨ (CWf (u c) ∧ ((u c).o = c.o ∨ (u c).o = 0))) : ∀ x ∈ p.cs, Good (onI id u) x := by
  intro x hx
  unfold Good onI
  split
  · rcases hu _ (h.con x hx) with h4 | ⟨h1, h2⟩
    · exact .inl h4
    · exact .inr ⟨h1, h2, h.since x hx⟩
  · exact .inr (good_same h hx)
theorem good_relU {n : Nat} {p : PM} (h : Wf n p) (id now : Int) (hnow : U64 now) : ∀ x ∈ p.cs, Good (relU id now) x := by
  intro x hx
  unfold Good relU
  split
  · rcases cwf_release (h.con x hx) with h4 | ⟨h1, h2⟩
    · exact .inl h4
    · refine .inr ⟨h1, h2, ?_⟩
      simp only
      split
      · exact hnow
      · exact h.since x hx
  · exact .inr (good_same h hx)
theorem good_drainU {n : Nat} {p : PM} (h : Wf n p) (b : XM → Prop) [DecidablePred b] : ∀ x ∈ p.cs, Good (fun x => if b x then (x.2.1.drain, x.2.2) else x.2) x := by
  intro x hx
  unfold Good
  by_cases hb : b x
  · simp only [hb, if_true]
    rcases cwf_drain (h.con x hx) with h4 | ⟨h1, h2⟩
    · exact .inl h4
    · exact .inr ⟨h1, .inl h2, h.since x hx⟩
  · simp only [hb, if_false]
    exact .inr ⟨h.con x hx, .inl trivial, h.since x hx⟩
/-- One that is idle is lent. -/
theorem Wf.lend {n : Nat} {p : PM} (h : Wf n p) {k : Nat} {x : XM} {s : Int} (hx : p.cs[k]? = some x) (ho : x.2.1.o = 0) (hs : 1 ≤ s) (h2 : s ∉ p.L) (h3 : ∀ x ∈ p.cs, x.2.1.o ≠ s) : Wf n { p with cs := p.cs.set k (x.1, lendU s x) } := by
  have hm := List.mem_of_getElem? hx
  have hl : lendU s x = ({ x.2.1 with o := s }, x.2.2) := by unfold lendU CM.lend; rw [if_pos ⟨by omega, ho⟩]
  have hc := h.con x hm
  rw [hl]
  have e := set_map h.sorted hx ({ x.2.1 with o := s }, x.2.2)
  have key : ∀ y ∈ p.cs.set k (x.1, ({ x.2.1 with o := s }, x.2.2)), ∃ z ∈ p.cs, z.1 = y.1 ∧ ((z.1 = x.1 ∧ y.2 = ({ x.2.1 with o := s }, x.2.2)) ∨ (z.1 ≠ x.1 ∧ y = z)) := by
    intro y hy
    rw [e] at hy
    obtain ⟨z, hz, rfl⟩ := List.mem_map.1 hy
    refine ⟨z, hz, rfl, ?_⟩
    by_cases e1 : z.1 = x.1
    · exact .inl ⟨e1, by simp [e1]⟩
    · exact .inr ⟨e1, by simp [e1]⟩
  have con0 : CWf { x.2.1 with o := s } := ⟨by simp only; omega, fun _ => by simp only; omega, fun hr => hc.2.2 hr⟩
  refine { h with len := ?_, pw := ?_, ids := ?_, con := ?_, since := ?_, pos := ?_ }
  · have := h.len; simpa using this
  · simp only
    rw [e, List.pairwise_map]
    refine h.pw.imp_of_mem ?_
    intro a b ha hb r
    obtain ⟨r1, r2⟩ := r
    refine ⟨r1, ?_⟩
    have ha3 := h3 a ha
    have hb3 := h3 b hb
    by_cases ea : a.1 = x.1
    · have eb : b.1 ≠ x.1 := by omega
      simp only [ea, eb, if_true, if_false]
      exact .inr (fun e => hb3 e.symm)
    · by_cases eb : b.1 = x.1
      · simp only [ea, eb, if_true, if_false]
        exact .inr ha3
      · simp only [ea, eb, if_false]
        exact r2
  · intro y hy
    obtain ⟨z, hz, e1, _⟩ := key y hy
    rw [← e1]; exact h.ids z hz
  · intro y hy
    obtain ⟨z, hz, e1, ⟨_, e2⟩ | ⟨_, e2⟩⟩ := key y hy
    · rw [e2]; exact con0
    · rw [e2]; exact h.con z hz
  · intro y hy
    obtain ⟨z, hz, e1, ⟨_, e2⟩ | ⟨_, e2⟩⟩ := key y hy
    · rw [e2]; exact h.since x hm
    · rw [e2]; exact h.since z hz
  · intro t ht
    obtain ⟨h1, h4⟩ := h.pos t ht
    refine ⟨h1, fun y hy => ?_⟩
    obtain ⟨z, hz, e1, ⟨_, e2⟩ | ⟨_, e2⟩⟩ := key y hy
    · rw [e2]; simp only; intro e3; subst e3; exact h2 ht
    · rw [e2]; exact h4 z hz
def newC (e s : Int) : CM := ⟨e, 0, s, 0, false, false⟩
/-- A new one. -/
theorem Wf.new {n : Nat} {p : PM} (h : Wf n p) (hn : n + 1 ≤ 400) {s e now : Int} (hl : (p.cs.length : Int) < p.most) (hs : 1 ≤ s) (hnow : U64 now) (h2 : s ∉ p.L) (h3 : ∀ x ∈ p.cs, x.2.1.o ≠ s) : Wf (n + 1) { p with last := p.last + 1, cs := p.cs ++ [(p.last + 1, newC e s, now)] } := by
  have hlast := h.last_
  refine { h with hn := hn, last_ := ?_, len := ?_, pw := ?_, ids := ?_, con := ?_, since := ?_, pos := ?_ }
  · simp only; omega
  · simp only [List.length_append, List.length_singleton]; omega
  · simp only
    rw [List.pairwise_append]
    refine ⟨h.pw, by simp, ?_⟩
    intro a ha b hb
    simp at hb
    subst hb
    have := (h.ids a ha).2
    refine ⟨by simp only; omega, .inr ?_⟩
    exact h3 a ha
  · intro y hy
    rcases List.mem_append.1 hy with hy | hy
    · have := h.ids y hy; simp only; omega
    · simp at hy; subst hy; simp only; omega
  · intro y hy
    rcases List.mem_append.1 hy with hy | hy
    · exact h.con y hy
    · simp at hy; subst hy; unfold newC CWf; simp; omega
  · intro y hy
    rcases List.mem_append.1 hy with hy | hy
    · exact h.since y hy
    · simp at hy; subst hy; exact hnow
  · intro t ht
    obtain ⟨h1, h4⟩ := h.pos t ht
    refine ⟨h1, fun y hy => ?_⟩
    rcases List.mem_append.1 hy with hy | hy
    · exact h4 y hy
    · simp at hy; subst hy; simp only [newC]; intro e3; subst e3; exact h2 ht
/-! ### give -/
/-- What is given: one that is idle, nothing, or a new one. -/
theorem give_cases (most last : Int) (cs : List XM) (s e now : Int) :
    (∃ k x, (upd cs (giveU e))[k]? = some x ∧ x.2.1.lends s = true ∧ ((upd cs (giveU e)).take k).any (fun x => x.2.1.lends s) = false ∧ giveM most last cs s e now = (x.1, true, last, (upd cs (giveU e)).set k (x.1, lendU s x)))
    ∨ ((upd cs (giveU e)).any (fun x => x.2.1.lends s) = false ∧ ((upd cs (giveU e)).length : Int) ≥ most ∧ giveM most last cs s e now = (0, false, last, upd cs (giveU e)))
    ∨ ((upd cs (giveU e)).any (fun x => x.2.1.lends s) = false ∧ ((upd cs (giveU e)).length : Int) < most ∧ giveM most last cs s e now = (last + 1, true, last + 1, upd cs (giveU e) ++ [(last + 1, (⟨e, 0, 0, 0, false, false⟩ : CM).lend s, now)])) := by
  unfold giveM
  simp only [midL_upd]
  generalize upd cs (giveU e) = cs1
  cases hf : cs1.findIdx? (fun x => x.2.1.lends s) with
  | some k =>
    left
    obtain ⟨h1, h2, h3⟩ := List.findIdx?_eq_some_iff_getElem.1 hf
    have hx : cs1[k]? = some cs1[k] := List.getElem?_eq_getElem h1
    refine ⟨k, cs1[k], hx, h2, ?_, by simp [hx]⟩
    rw [List.any_eq_false]
    intro y hy
    obtain ⟨j, hj⟩ := List.getElem?_of_mem hy
    have hjk : j < k := by have := (List.getElem?_eq_some_iff.1 hj).1; rw [List.length_take] at this; omega
    rw [List.getElem?_take, if_pos hjk] at hj
    obtain ⟨h4, h5⟩ := List.getElem?_eq_some_iff.1 hj
    rw [← h5]
    exact h3 j hjk
  | none =>
    right
    have hno : cs1.any (fun x => x.2.1.lends s) = false := by
      rw [List.any_eq_false]
      intro y hy
      have := (List.findIdx?_eq_none_iff.1 hf) y hy
      simp [this]
    by_cases hl : (cs1.length : Int) ≥ most
    · exact .inl ⟨hno, hl, by simp [hl]⟩
    · exact .inr ⟨hno, by omega, by simp [hl]⟩
theorem giveU_eq (e : Int) : giveU e = fun x => if x.2.1.state = 1 ∧ x.2.1.e ≠ e then (x.2.1.drain, x.2.2) else x.2 := rfl
theorem Wf.giveU {n : Nat} {p : PM} (h : Wf n p) (e : Int) : Wf n { p with cs := Go.Proofs.YtlkcccihkfggmaaGreat.upd p.cs (Go.Proofs.YtlkcccihkfggmaaGreat.giveU e) } := h.upd _ (by rw [giveU_eq]; exact good_drainU h _)
theorem upd_own {n : Nat} {p : PM} (h : Wf n p) {f : XM → CM × Int} (hf : ∀ x ∈ p.cs, Good f x) {s : Int} (hs : 1 ≤ s) (h3 : ∀ x ∈ p.cs, x.2.1.o ≠ s) : ∀ x ∈ upd p.cs f, x.2.1.o ≠ s := by
  intro y hy
  obtain ⟨x, hx, rfl, h4⟩ := upd_mem.1 hy
  have := ((hf x hx).resolve_left h4).2.1
  have := h3 x hx
  simp only
  omega
theorem Wf.give {n : Nat} {p : PM} (h : Wf n p) (hn : n + 1 ≤ 400) {s e now : Int} (hs : 1 ≤ s) (hnow : U64 now) (h2 : s ∉ p.L) (h3 : ∀ x ∈ p.cs, x.2.1.o ≠ s) :
    Wf (n + 1) { p with last := (giveM p.most p.last p.cs s e now).2.2.1, cs := (giveM p.most p.last p.cs s e now).2.2.2 } := by
  have hu := h.giveU e
  have ho := upd_own h (f := Go.Proofs.YtlkcccihkfggmaaGreat.giveU e) (by rw [giveU_eq]; exact good_drainU h _) hs h3
  rcases give_cases p.most p.last p.cs s e now with ⟨k, x, hx, hl, _, hg⟩ | ⟨_, _, hg⟩ | ⟨_, hlt, hg⟩
  · rw [hg]
    have hi : x.2.1.o = 0 := by simp only [CM.lends, decide_eq_true_eq] at hl; exact hl.2
    exact (hu.lend hx hi hs h2 ho).mono (by omega) hn
  · rw [hg]; exact hu.mono (by omega) hn
  · rw [hg]
    have e1 : (⟨e, 0, 0, 0, false, false⟩ : CM).lend s = newC e s := by unfold CM.lend newC; rw [if_pos ⟨by omega, rfl⟩]
    rw [e1]
    exact hu.new hn hlt hs hnow h2 ho
theorem has_no {L : List Int} {cs : List XM} {s : Int} (hs : 1 ≤ s) (h : hasB L cs s = false) : s ∉ L ∧ ∀ x ∈ cs, x.2.1.o ≠ s := by
  have h1 := hasB_no h
  constructor
  · rcases atL_spec L s 0 (Int.le_refl _) with ⟨_, h2⟩ | ⟨k, h2, _⟩
    · exact h2
    · omega
  · intro x hx e
    simp only [hasB, Bool.or_eq_false_iff] at h
    have := List.any_eq_false.1 h.1 x hx
    simp only [decide_eq_true_eq] at this
    omega
theorem dropW_sub (L : List Int) (s : Int) : (dropW L s).Sublist L := by
  unfold dropW
  split
  · exact List.Sublist.refl _
  · exact List.eraseIdx_sublist _ _
theorem Wf.putM {n : Nat} {p : PM} (h : Wf n p) {s : Int} (hs : 1 ≤ s) (h2 : s ∉ p.L) (h3 : ∀ x ∈ p.cs, x.2.1.o ≠ s) : Wf n { p with L := (Go.Proofs.YtlkcccihkfggmaaGreat.putM p.wm p.L s).2 } := by
  unfold Go.Proofs.YtlkcccihkfggmaaGreat.putM
  split
  · exact h
  · rename_i hl; exact h.put hl hs h2 h3
theorem Wf.acq {n : Nat} {p : PM} (h : Wf n p) (hn : n + 1 ≤ 400) (s e now : Int) (hnow : U64 now) :
    Wf (n + 1) { p with last := (acqM p.most p.wm p.last p.L p.cs s e now).2.2.1, L := (acqM p.most p.wm p.last p.L p.cs s e now).2.2.2.1, cs := (acqM p.most p.wm p.last p.L p.cs s e now).2.2.2.2 } := by
  have hm := h.mono (Nat.le_succ n) hn
  obtain ⟨most, idle, wm, last, L, cs⟩ := p
  simp only at *
  unfold acqM
  by_cases h1 : s < 1
  · rw [if_pos h1]; exact hm
  · rw [if_neg h1]
    cases hb : hasB L cs s with
    | true => simp only [if_true]; exact hm
    | false =>
      simp only [Bool.false_eq_true, if_false]
      obtain ⟨h2, h3⟩ := has_no (by omega) hb
      cases L with
      | nil =>
        simp only
        have hg := h.give hn (s := s) (e := e) (now := now) (by omega) hnow h2 h3
        simp only at hg
        by_cases hi : (giveM most last cs s e now).2.1 = true
        · rw [if_pos hi]; exact hg
        · rw [if_neg hi]
          have ho : ∀ x ∈ (giveM most last cs s e now).2.2.2, x.2.1.o ≠ s := by
            have ho := upd_own h (f := Go.Proofs.YtlkcccihkfggmaaGreat.giveU e) (by rw [giveU_eq]; exact good_drainU h _) (by omega) h3
            rcases give_cases most last cs s e now with ⟨k, x, hx, hl, _, hg⟩ | ⟨_, _, hg⟩ | ⟨_, hlt, hg⟩
            · rw [hg] at hi; exact absurd rfl hi
            · rw [hg]; exact ho
            · rw [hg] at hi; exact absurd rfl hi
          exact hg.putM (by omega) h2 ho
      | cons x r =>
        exact hm.putM (by omega) h2 h3
theorem Wf.serve {n : Nat} {p : PM} (h : Wf n p) (hn : n + 1 ≤ 400) (e now : Int) (hnow : U64 now) :
    Wf (n + 1) { p with last := (serveM p.most p.last p.L p.cs e now).2.2.2.1, L := (serveM p.most p.last p.L p.cs e now).2.2.2.2.1, cs := (serveM p.most p.last p.L p.cs e now).2.2.2.2.2 } := by
  have hm := h.mono (Nat.le_succ n) hn
  obtain ⟨most, idle, wm, last, L, cs⟩ := p
  simp only at *
  unfold serveM
  cases L with
  | nil => exact hm
  | cons x r =>
    obtain ⟨h1, h3⟩ := h.pos x (by simp)
    have hsub := h.subL (L := r) (by simp)
    have h2 : x ∉ r := (List.nodup_cons.1 h.nod).1
    simp only at h1 h3 hsub
    have hg := hsub.give hn (s := x) (e := e) (now := now) h1 hnow h2 h3
    simp only at hg ⊢
    by_cases hi : (giveM most last cs x e now).2.1 = true
    · rw [if_pos hi]; exact hg
    · rw [if_neg hi]
      rcases give_cases most last cs x e now with ⟨k, x, hx, hl, _, hg⟩ | ⟨_, _, hg⟩ | ⟨_, hlt, hg⟩
      · rw [hg] at hi; exact absurd rfl hi
      · rw [hg]; exact (h.giveU e).mono (by omega) hn
      · rw [hg] at hi; exact absurd rfl hi
/-- Each act keeps what always holds. -/
theorem Wf.do_ {n : Nat} {p : PM} (h : Wf n p) (hn : n + 1 ≤ 400) (x : PA) (hx : x.ok) : Wf (n + 1) (doP p x) := by
  have hm := h.mono (Nat.le_succ n) hn
  unfold doP
  by_cases h0 : x.d = 0
  · simp only [h0, if_true]; exact h.acq hn _ _ _ hx.2.1
  simp only [if_neg h0]
  by_cases h1 : x.d = 1
  · simp only [if_pos h1]; exact h.serve hn _ _ hx.2.1
  simp only [if_neg h1]
  by_cases h2 : x.d = 2
  · simp only [if_pos h2]; exact hm.subL (dropW_sub _ _)
  simp only [if_neg h2]
  by_cases h3 : x.d = 3
  · simp only [if_pos h3]
    rw [setL_upd h.sorted h.open_ _ _ fun y hy => cwf_state (cwf_send (h.con y hy) _)]
    exact hm.upd _ (good_onI hm _ fun c hc => .inr ⟨cwf_send hc _, .inl (o_send c _)⟩)
  simp only [if_neg h3]
  by_cases h4 : x.d = 4
  · simp only [if_pos h4]
    rw [withL_upd h.sorted h.open_]
    exact hm.upd _ (good_onI hm _ fun c hc => (cwf_reply hc _).imp id fun k => ⟨k.1, .inl k.2⟩)
  simp only [if_neg h4]
  by_cases h5 : x.d = 5
  · simp only [if_pos h5]
    rw [withL_upd h.sorted h.open_]
    exact hm.upd _ (good_onI hm _ fun c hc => .inr ⟨(cwf_soil hc).1, .inl (cwf_soil hc).2⟩)
  simp only [if_neg h5]
  by_cases h6 : x.d = 6
  · simp only [if_pos h6]
    rw [releaseL_upd h.sorted h.open_]
    exact hm.upd _ (good_relU hm _ _ hx.2.1)
  simp only [if_neg h6]
  by_cases h7 : x.d = 7
  · simp only [if_pos h7]
    rw [withL_upd h.sorted h.open_]
    exact hm.upd _ (good_onI hm _ fun c hc => .inl good_close)
  simp only [if_neg h7]
  by_cases h8 : x.d = 8
  · simp only [if_pos h8]
    rw [midL_upd]
    exact hm.upd _ (good_drainU hm fun y => y.2.1.e ≠ x.e)
  simp only [if_neg h8]
  by_cases h9 : x.d = 9
  · simp only [if_pos h9]
    rw [midL_upd]
    exact hm.upd _ (good_drainU hm fun y => reapB p.idle x.now y = true)
  simp only [if_neg h9]
  exact hm
