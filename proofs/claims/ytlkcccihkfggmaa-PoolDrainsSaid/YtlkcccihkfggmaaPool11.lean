/- PoolDrains, walked. -/
import Derived.Test.YtlkcccihkfggmaaProg
import Derived.Test.YtlkcccihkfggmaaPool9
import Derived.Test.YtlkcccihkfggmaaSLExt
import Derived.KernelRfl
set_option linter.unusedSimpArgs false
set_option linter.unusedVariables false
set_option maxRecDepth 100000
set_option maxHeartbeats 4000000
namespace Go.Proofs.Ytlkcccihkfggmaa
open Go Go.Proofs.Ytlkcccihkfggmaa.SL Go.RowKit
def PA.at_ (x : PA) (e : Int) : PA := { x with e := e }
/-- None of another epoch but drains. -/
def DR (e : Int) (cs : List XM) : Prop := ∀ x ∈ cs, x.2.1.e ≠ e → x.2.1.state = 3
theorem state3 {c : CM} (h : c.state = 3) : c.o ≠ -1 ∧ c.o ≠ 0 ∧ c.r = true := by
  unfold CM.state at h
  by_cases h1 : c.o = -1
  · rw [if_pos h1] at h; omega
  · by_cases h2 : c.o = 0
    · rw [if_neg h1, if_pos h2] at h; omega
    · cases hr : c.r with
      | false => rw [if_neg h1, if_neg h2, if_neg (by simp [hr])] at h; omega
      | true => exact ⟨h1, h2, rfl⟩
theorem state3_of {c : CM} (h1 : c.o ≠ -1) (h2 : c.o ≠ 0) (h3 : c.r = true) : c.state = 3 := by
  unfold CM.state
  rw [if_neg h1, if_neg h2, if_pos h3]
theorem dr_upd {cs : List XM} {e : Int} {f : XM → CM × Int} (h : DR e cs) (he : ∀ x, (f x).1.e = x.2.1.e) (hf : ∀ x ∈ cs, x.2.1.state = 3 → (f x).1.state = 4 ∨ (f x).1.state = 3) : DR e (upd cs f) := by
  intro y hy hne
  obtain ⟨x, hx, rfl, h4⟩ := upd_mem.1 hy
  exact (hf x hx (h x hx (by rw [← he]; exact hne))).resolve_left h4
theorem dr_drain {n : Nat} {p : PM} (h : Wf n p) (e : Int) : DR e (upd p.cs (drainU e)) := by
  intro y hy hne
  obtain ⟨x, hx, rfl, h4⟩ := upd_mem.1 hy
  have he : (drainU e x).1.e = x.2.1.e := by unfold drainU; split; exact e_drain _; rfl
  have hne : x.2.1.e ≠ e := by rw [← he]; exact hne
  have hd : (drainU e x).1 = x.2.1.drain := by unfold drainU; rw [if_pos hne]
  simp only [hd] at h4 ⊢
  unfold CM.drain at h4 ⊢
  by_cases hf : x.2.1.f ≠ 0
  · rw [if_pos hf]
    have := (h.con x hx).2.1 hf
    exact state3_of (by simp only; omega) (by simp only; omega) rfl
  · rw [if_neg hf] at h4
    exact absurd good_close h4
theorem d3_drain {c : CM} (h : c.state = 3) : c.drain.state = 4 ∨ c.drain.state = 3 := by
  obtain ⟨h1, h2, h3⟩ := state3 h
  unfold CM.drain
  split
  · exact .inr (state3_of h1 h2 rfl)
  · exact .inl good_close
theorem onI_state {cs : List XM} {id : Int} {u : CM → CM} (hu : ∀ c : CM, c.state = 3 → (u c).state = 4 ∨ (u c).state = 3) : ∀ x ∈ cs, x.2.1.state = 3 → (onI id u x).1.state = 4 ∨ (onI id u x).1.state = 3 := by
  intro x hx h
  unfold onI; split
  · exact hu _ h
  · exact .inr h
theorem d3_send {c : CM} (n : Int) (h : c.state = 3) : c.send n = c := by
  unfold CM.send
  rw [if_pos (.inr (.inl (by omega)))]
theorem d3_release {c : CM} (h : c.state = 3) : c.release = c := by
  unfold CM.release
  rw [if_neg (by omega)]
theorem d3_soil {c : CM} (h : c.state = 3) : c.soil.state = 3 := by
  obtain ⟨h1, h2, h3⟩ := state3 h
  exact state3_of h1 h2 h3
theorem d3_reply {c : CM} (n : Int) (h : c.state = 3) : (c.reply n).state = 4 ∨ (c.reply n).state = 3 := by
  unfold CM.reply
  split
  · exact .inl good_close
  · exact .inr h
theorem dr_give {n : Nat} {p : PM} (h : Wf n p) {e : Int} (hd : DR e p.cs) (s now : Int) : DR e (giveM p.most p.last p.cs s e now).2.2.2 := by
  have h1 : DR e (upd p.cs (giveU e)) := dr_upd hd (e_giveU e) fun x hx h3 => by
    unfold giveU
    rw [if_neg (by omega)]
    exact .inr h3
  rcases give_cases p.most p.last p.cs s e now with ⟨k, x, hx, hl, _, hg⟩ | ⟨_, _, hg⟩ | ⟨_, hlt, hg⟩
  · rw [hg]
    intro y hy hne
    simp only at hy
    rw [set_map (upd_sorted h.sorted _) hx] at hy
    obtain ⟨z, hz, rfl⟩ := List.mem_map.1 hy
    by_cases e3 : z.1 = x.1
    · simp only [e3, if_true] at hne ⊢
      have he : (lendU s x).1.e = x.2.1.e := e_lend _ _
      have h3 := h1 x (List.mem_of_getElem? hx) (by rw [← he]; exact hne)
      have := (state3 h3).2.1
      simp only [CM.lends, decide_eq_true_eq] at hl
      exact absurd hl.2 this
    · simp only [e3, if_false] at hne ⊢
      exact h1 z hz hne
  · rw [hg]; exact h1
  · rw [hg]
    intro y hy hne
    rcases List.mem_append.1 hy with hy | hy
    · exact h1 y hy hne
    · simp at hy
      subst hy
      exact absurd (e_lend _ _) hne
theorem dr_step {n : Nat} {p : PM} (h : Wf n p) {e : Int} (hd : DR e p.cs) (x : PA) : DR e (doP p (x.at_ e)).cs := by
  obtain ⟨y, hy⟩ : ∃ y, x.at_ e = y := ⟨_, rfl⟩
  have hye : y.e = e := by rw [← hy]; rfl
  rw [hy]
  by_cases h0 : y.d = 0
  · obtain ⟨e1, _⟩ := do0 p y h0
    rw [e1]
    simp only [hye]
    rcases acq_cases p.most p.wm p.last p.L p.cs y.se e y.now with ⟨c, hc, ha⟩ | ⟨_, _, hL, _, ha⟩ | ⟨_, _, l', c', hh, ⟨_, ha⟩ | ⟨_, ha⟩⟩
    · rw [ha]; exact hd
    · rw [ha]; exact dr_give h hd _ _
    · rw [ha]
      rcases hh with ⟨rfl, rfl, _⟩ | ⟨_, _, rfl, rfl⟩
      · exact hd
      · exact dr_give h hd _ _
    · rw [ha]
      rcases hh with ⟨rfl, rfl, _⟩ | ⟨_, _, rfl, rfl⟩
      · exact hd
      · exact dr_give h hd _ _
  by_cases h1 : y.d = 1
  · obtain ⟨e1, _⟩ := do1 p y h1
    rw [e1]
    simp only [hye]
    rcases serve_cases p.most p.last p.L p.cs e y.now with ⟨_, ha⟩ | ⟨z, r, hL, ⟨_, ha⟩ | ⟨_, ha⟩⟩
    · rw [ha]; exact hd
    · rw [ha]; exact dr_give h hd _ _
    · rw [ha]; exact dr_give h hd _ _
  unfold doP
  simp only [if_neg h0, if_neg h1]
  by_cases h2 : y.d = 2
  · simp only [if_pos h2]; exact hd
  simp only [if_neg h2]
  by_cases h3 : y.d = 3
  · simp only [if_pos h3]
    rw [setL_upd h.sorted h.open_ _ _ fun z hz => cwf_state (cwf_send (h.con z hz) _)]
    exact dr_upd hd (e_onI _ fun c => e_send c _) (onI_state fun c hc => by rw [d3_send _ hc]; exact .inr hc)
  simp only [if_neg h3]
  by_cases h4 : y.d = 4
  · simp only [if_pos h4]
    rw [withL_upd h.sorted h.open_]
    exact dr_upd hd (e_onI _ fun c => e_reply c _) (onI_state fun c hc => d3_reply _ hc)
  simp only [if_neg h4]
  by_cases h5 : y.d = 5
  · simp only [if_pos h5]
    rw [withL_upd h.sorted h.open_]
    exact dr_upd hd (e_onI _ fun c => rfl) (onI_state fun c hc => .inr (d3_soil hc))
  simp only [if_neg h5]
  by_cases h6 : y.d = 6
  · simp only [if_pos h6]
    rw [releaseL_upd h.sorted h.open_]
    refine dr_upd hd (fun z => ?_) fun z hz hc => ?_
    · unfold relU; split
      · exact e_release _
      · rfl
    · unfold relU; split
      · simp only [d3_release hc]; exact .inr hc
      · exact .inr hc
  simp only [if_neg h6]
  by_cases h7 : y.d = 7
  · simp only [if_pos h7]
    rw [withL_upd h.sorted h.open_]
    exact dr_upd hd (e_onI _ fun c => rfl) (onI_state fun c hc => .inl good_close)
  simp only [if_neg h7]
  by_cases h8 : y.d = 8
  · simp only [if_pos h8]
    rw [midL_upd]
    refine dr_upd hd (fun z => ?_) fun z hz hc => ?_
    · unfold drainU; split
      · exact e_drain _
      · rfl
    · unfold drainU; split
      · exact d3_drain hc
      · exact .inr hc
  simp only [if_neg h8]
  by_cases h9 : y.d = 9
  · simp only [if_pos h9]
    rw [midL_upd]
    refine dr_upd hd (fun z => ?_) fun z hz hc => ?_
    · unfold reapU; split
      · exact e_drain _
      · rfl
    · unfold reapU; split
      · exact d3_drain hc
      · exact .inr hc
  simp only [if_neg h9]
  exact hd
theorem dr_sendE {n : Nat} {p : PM} (h : Wf n p) {e : Int} (hd : DR e p.cs) {y : XM} (hy : y ∈ p.cs) (hne : y.2.1.e ≠ e) (x : PA) (hx : x.d = 3) (hid : y.1 = x.id) : ¬ (doT p x).e = 0 := by
  have h3 := hd y hy hne
  have hT : (doT p x).e = sendE p.cs x.id x.n := by
    unfold doT
    rw [if_neg (by omega), if_neg (by omega), if_neg (by omega), if_pos hx]
  obtain ⟨k, hk⟩ := List.getElem?_of_mem hy
  have hp := pos_of h.sorted hk
  rw [hT, ← hid]
  unfold sendE
  simp only [hp, hk]
  unfold CM.sendE
  split
  · omega
  · rw [if_pos (.inl (by omega))]; omega
/-- What is left when k were replied to. -/
def rem (cs : List XM) (e : Int) (k : Nat) : List XM := (cs.take k).filter (fun x => decide (x.2.1.e = e)) ++ cs.drop k
theorem rem_sub (cs : List XM) (e : Int) (k : Nat) : (rem cs e k).Sublist cs := by
  have h : (rem cs e k).Sublist (cs.take k ++ cs.drop k) := List.Sublist.append List.filter_sublist (List.Sublist.refl _)
  rwa [List.take_append_drop] at h
theorem rem_sorted {cs : List XM} (hs : (cs.map (·.1)).Pairwise (· < ·)) (e : Int) (k : Nat) : ((rem cs e k).map (·.1)).Pairwise (· < ·) := hs.sublist ((rem_sub cs e k).map _)
theorem rem_same {cs : List XM} {e : Int} {k : Nat} {y : XM} (hy : cs[k]? = some y) (he : y.2.1.e = e) : rem cs e (k + 1) = rem cs e k := by
  obtain ⟨h1, h2⟩ := List.getElem?_eq_some_iff.1 hy
  unfold rem
  rw [List.drop_eq_getElem_cons h1, List.take_add_one, hy, h2, List.filter_append]
  simp [he]
theorem rem_next {n : Nat} {p : PM} (h : Wf n p) {e : Int} (hd : DR e p.cs) {k : Nat} {y : XM} (hy : p.cs[k]? = some y) (he : y.2.1.e ≠ e) :
    withB (rem p.cs e k) y.1 (fun c => c.replies y.2.1.f) = true ∧ withL (rem p.cs e k) y.1 (fun c => c.reply y.2.1.f) = rem p.cs e (k + 1) := by
  obtain ⟨h1, h2⟩ := List.getElem?_eq_some_iff.1 hy
  have hm := List.mem_of_getElem? hy
  have h3 := hd y hm he
  have hf : y.2.1.f ≠ 0 := (h.con y hm).2.2 (state3 h3).2.2
  have hs := rem_sorted h.sorted e k
  have hop : Open4 (rem p.cs e k) := fun x hx => h.open_ x ((rem_sub _ _ _).subset hx)
  have hdrop : p.cs.drop k = y :: p.cs.drop (k + 1) := by rw [List.drop_eq_getElem_cons h1, h2]
  have hrk : rem p.cs e k = (p.cs.take k).filter (fun x => decide (x.2.1.e = e)) ++ y :: p.cs.drop (k + 1) := by unfold rem; rw [hdrop]
  have hrk1 : rem p.cs e (k + 1) = (p.cs.take k).filter (fun x => decide (x.2.1.e = e)) ++ p.cs.drop (k + 1) := by
    unfold rem
    rw [List.take_add_one, hy, List.filter_append]
    simp [he]
  have hym : y ∈ rem p.cs e k := by rw [hrk]; simp
  refine ⟨?_, ?_⟩
  · rw [withB_of hs hym]
    simp [CM.replies, hf]
  · rw [withL_upd hs hop, hrk, hrk1]
    have hsame : ∀ l : List XM, (∀ x ∈ l, x ∈ p.cs ∧ x.1 ≠ y.1) → alive (l.map fun x => (x.1, onI y.1 (fun c => c.reply y.2.1.f) x)) = l := by
      intro l hl
      rw [show l.map (fun x => (x.1, onI y.1 (fun c => c.reply y.2.1.f) x)) = l.map (fun x => x) from List.map_congr_left fun x hx => by simp [onI, (hl x hx).2]]
      rw [List.map_id']
      exact alive_same fun x hx => h.open_ x (hl x hx).1
    unfold upd
    rw [List.map_append, List.map_cons, alive_app, alive_cons]
    rw [hsame _ fun x hx => by
      have hx := (List.mem_filter.1 hx).1
      refine ⟨List.mem_of_mem_take hx, fun e1 => ?_⟩
      obtain ⟨j, hj⟩ := List.getElem?_of_mem hx
      have hjk : j < k := by have := (List.getElem?_eq_some_iff.1 hj).1; rw [List.length_take] at this; omega
      rw [List.getElem?_take, if_pos hjk] at hj
      have := uniq h.sorted hy hj e1
      omega]
    rw [hsame _ fun x hx => by
      refine ⟨List.mem_of_mem_drop hx, fun e1 => ?_⟩
      obtain ⟨j, hj⟩ := List.getElem?_of_mem hx
      rw [List.getElem?_drop] at hj
      have := uniq h.sorted hy hj e1
      omega]
    have h4 : (onI y.1 (fun c => c.reply y.2.1.f) y).1.state = 4 := by
      unfold onI
      rw [if_pos rfl]
      simp only
      unfold CM.reply
      rw [if_pos ⟨hf, rfl⟩, if_pos h3]
      exact good_close
    simp only [h4, if_true]
def drainP (p : PM) (e : Int) : PM := { p with cs := upd p.cs (drainU e) }
theorem drainP_wf {n : Nat} {p : PM} (h : Wf n p) (e : Int) : Wf n (drainP p e) := h.upd _ (good_drainU h fun y => y.2.1.e ≠ e)
theorem drain_tri (w0 : World) {g n : Nat} {p : PM} {e : Int} (hw : Wf n p) : Tri Try.prog w0 14 [ptrTo g, .int .u64 e] [PO g p] fun v m => v = .tuple #[] ∧ m = [PO g (drainP p e)] :=
  (T14 w0 e hw.sorted hw.h6).post fun v m h => by rw [midL_upd] at h; exact h
theorem dr_run {n : Nat} {p : PM} {e : Int} (h : Wf n p) (hd : DR e p.cs) (he : U64 e) : ∀ (l : List PA), n + l.length ≤ 400 → (∀ x ∈ l, x.ok) → DR e (runP p (l.map fun x => x.at_ e)).cs := by
  intro l
  induction l generalizing n p with
  | nil => intro _ _; exact hd
  | cons x r ih =>
    intro hl hx
    simp only [List.length_cons] at hl
    have hxo : (x.at_ e).ok := ⟨he, (hx x (by simp)).2⟩
    exact ih (h.do_ (by omega) _ hxo) (dr_step h hd x) (by omega) fun y hy => hx y (by simp [hy])
theorem T5 (w0 : World) (room wait epoch : Int) (A : Option Addr) (c : Nat) (l : List PA) (hr : Rd paE w0 6 A l) (hm : l.length ≤ 9223372036854775807) (hok : ∀ x ∈ l, x.ok)
    (A2 : Option Addr) (c2 : Nat) (l2 : List PA) (hr2 : Rd paE w0 6 A2 l2) (hm2 : l2.length ≤ 9223372036854775807) (hok2 : ∀ x ∈ l2, x.ok) (hep : U64 epoch) :
    Tri Try.prog w0 5 [.int .i64 room, .int .i64 wait, .int .u64 epoch, .slice A l.length c, .slice A2 l2.length c2] [] fun v m => v = .bool true ∧ m = [] := by
  refine tri_of Try.func5 rfl rfl fun F => ?_
  simp only [Try.ntmps5, argEnv, List.cons_append, List.nil_append]
  refine at_seq_k (fun K0 hK0 => ?_)
  refine at_region ?_
  refine at_v (ov_assign rfl rfl) rfl rfl rfl ?_
  refine at_nil ?_
  refine at_normal ?_
  refine hK0 _ _ _ ?_
  refine at_seq_k (fun K1 hK1 => ?_)
  refine at_seq_k (fun K2 hK2 => ?_)
  refine at_region ?_
  refine at_t (ot_call (ks := []) rfl rfl rfl Try.call8 rfl (T8 _) rfl) rfl rfl rfl ?_
  rintro v0 _ ⟨m0, hp0, rfl⟩
  obtain ⟨rfl, rfl⟩ := hp0
  simp only [List.cons_append, List.nil_append, splice, spliceL]
  refine at_v (ov_not rfl rfl) rfl rfl rfl ?_
  refine at_nil ?_
  refine at_normal ?_
  refine hK2 _ _ _ ?_
  refine at_cond_false rfl ?_
  refine at_skip ?_
  refine at_normal ?_
  refine hK1 _ _ _ ?_
  refine at_seq_k (fun K3 hK3 => ?_)
  refine at_region ?_
  refine at_v (ov_move rfl rfl) rfl rfl rfl ?_
  refine at_v (ov_move rfl rfl) rfl rfl rfl ?_
  refine at_t (ot_call (ks := []) rfl rfl rfl Try.call9 rfl (T9 _ _ _ _) rfl) rfl rfl rfl ?_
  rintro v0 _ ⟨m0, hp0, rfl⟩
  obtain ⟨b0, hp0⟩ := hp0
  obtain ⟨hq0, hp0⟩ := hp0
  obtain ⟨hq1, hp0⟩ := hp0
  cases b0 with
  | false =>
    obtain ⟨rfl, rfl⟩ := hq1 rfl
    simp only [List.nil_append]
    refine at_v (ov_move rfl rfl) rfl rfl rfl ?_
    refine at_v (ov_extract rfl rfl rfl) rfl rfl rfl ?_
    refine at_v (ov_extract rfl rfl rfl) rfl rfl rfl ?_
    refine at_v (ov_assign rfl rfl) rfl rfl rfl ?_
    refine at_v (ov_assign rfl rfl) rfl rfl rfl ?_
    refine at_nil ?_
    refine at_normal ?_
    refine hK3 _ _ _ ?_
    refine at_seq_k (fun K4 hK4 => ?_)
    refine at_seq_k (fun K5 hK5 => ?_)
    refine at_region ?_
    refine at_v (ov_move rfl rfl) rfl rfl rfl ?_
    refine at_v (ov_ptr_nil (q := none) rfl Try.underlying25 rfl rfl) rfl rfl rfl ?_
    refine at_v (ov_move rfl rfl) rfl rfl rfl ?_
    refine at_unwanted (j := 2) rfl rfl rfl rfl ?_
    refine at_unwanted (j := 2) rfl rfl rfl rfl ?_
    refine at_unwanted (j := 2) rfl rfl rfl rfl ?_
    refine at_v (ov_pick_t rfl rfl rfl) rfl rfl rfl ?_
    refine at_v (ov_move rfl rfl) rfl rfl rfl ?_
    refine at_unwanted (j := 7) rfl rfl rfl rfl ?_
    refine at_unwanted (j := 7) rfl rfl rfl rfl ?_
    refine at_unwanted (j := 7) rfl rfl rfl rfl ?_
    refine at_v (ov_pick_t rfl rfl rfl) rfl rfl rfl ?_
    refine at_nil ?_
    refine at_normal ?_
    refine hK5 _ _ _ ?_
    refine at_cond_true rfl ?_
    refine at_seq_k (fun K6 hK6 => ?_)
    refine at_region ?_
    refine at_v (ov_assign rfl rfl) rfl rfl rfl ?_
    refine at_nil ?_
    refine at_normal ?_
    refine hK6 _ _ _ ?_
    refine at_ret ?_
    refine at_then_ret ?_
    refine at_end ?_
    refine at_fin (rsV rfl (res_tmp rfl)) ?_
    refine ⟨_, ⟨rfl, rfl⟩, ?_⟩
    exact fun _ s => s.finEq (ks := []) (js := []) rfl rfl rfl
  | true =>
    obtain ⟨g, rfl, rfl⟩ := hp0 rfl
    have hb : 0 ≤ wait ∧ wait ≤ 12 ∧ 1 ≤ room ∧ room ≤ 6 ∧ (3 : Int) ≠ 0 := by simpa using hq0
    clear hq0 hq1 hp0
    have hw0 : Wf 0 (initP room 3 wait) := wf_init ⟨hb.1, hb.2.1, hb.2.2.1, hb.2.2.2.1⟩
    simp only [List.cons_append, List.nil_append]
    by_cases hi1 : (l.length : Int) > 100
    · refine at_v (ov_move rfl rfl) rfl rfl rfl ?_
      refine at_v (ov_extract rfl rfl rfl) rfl rfl rfl ?_
      refine at_v (ov_extract rfl rfl rfl) rfl rfl rfl ?_
      refine at_v (ov_assign rfl rfl) rfl rfl rfl ?_
      refine at_v (ov_assign rfl rfl) rfl rfl rfl ?_
      refine at_nil ?_
      refine at_normal ?_
      refine hK3 _ _ _ ?_
      refine at_seq_k (fun K4 hK4 => ?_)
      refine at_seq_k (fun K5 hK5 => ?_)
      refine at_region ?_
      refine at_v (ov_move rfl rfl) rfl rfl rfl ?_
      refine at_v (ov_ptr_nil (q := none) rfl Try.underlying25 rfl rfl) rfl rfl rfl ?_
      refine at_v (ov_move rfl rfl) rfl rfl rfl ?_
      refine at_wanted (j := 2) rfl ?_
      refine at_v (ov_move rfl rfl) rfl rfl rfl ?_
      refine at_wanted (j := 2) rfl ?_
      refine at_v (ov_len_slice rfl Try.underlying23 rfl) rfl rfl rfl ?_
      refine at_wanted (j := 2) rfl ?_
      refine at_v (ov_int rfl rfl rfl rfl) rfl rfl rfl ?_
      refine at_v (ov_pick_f rfl rfl rfl) rfl rfl rfl ?_
      refine at_v (ov_move rfl rfl) rfl rfl rfl ?_
      refine at_reval 42 (.bool true) rfl (congrArg Value.bool (decide_eq_true (by omega))) ?_
      refine at_unwanted (j := 7) rfl rfl rfl rfl ?_
      refine at_unwanted (j := 7) rfl rfl rfl rfl ?_
      refine at_unwanted (j := 7) rfl rfl rfl rfl ?_
      refine at_v (ov_pick_t rfl rfl rfl) rfl rfl rfl ?_
      refine at_nil ?_
      refine at_normal ?_
      refine hK5 _ _ _ ?_
      refine at_cond_true rfl ?_
      refine at_seq_k (fun K6 hK6 => ?_)
      refine at_region ?_
      refine at_v (ov_assign rfl rfl) rfl rfl rfl ?_
      refine at_nil ?_
      refine at_normal ?_
      refine hK6 _ _ _ ?_
      refine at_ret ?_
      refine at_then_ret ?_
      refine at_end ?_
      refine at_fin (rsV rfl (res_tmp rfl)) ?_
      refine ⟨_, ⟨rfl, rfl⟩, ?_⟩
      exact fun _ s => s.finEq (ks := []) (js := [0]) rfl rfl rfl
    by_cases hi2 : (l2.length : Int) > 100
    · refine at_v (ov_move rfl rfl) rfl rfl rfl ?_
      refine at_v (ov_extract rfl rfl rfl) rfl rfl rfl ?_
      refine at_v (ov_extract rfl rfl rfl) rfl rfl rfl ?_
      refine at_v (ov_assign rfl rfl) rfl rfl rfl ?_
      refine at_v (ov_assign rfl rfl) rfl rfl rfl ?_
      refine at_nil ?_
      refine at_normal ?_
      refine hK3 _ _ _ ?_
      refine at_seq_k (fun K4 hK4 => ?_)
      refine at_seq_k (fun K5 hK5 => ?_)
      refine at_region ?_
      refine at_v (ov_move rfl rfl) rfl rfl rfl ?_
      refine at_v (ov_ptr_nil (q := none) rfl Try.underlying25 rfl rfl) rfl rfl rfl ?_
      refine at_v (ov_move rfl rfl) rfl rfl rfl ?_
      refine at_wanted (j := 2) rfl ?_
      refine at_v (ov_move rfl rfl) rfl rfl rfl ?_
      refine at_wanted (j := 2) rfl ?_
      refine at_v (ov_len_slice rfl Try.underlying23 rfl) rfl rfl rfl ?_
      refine at_wanted (j := 2) rfl ?_
      refine at_v (ov_int rfl rfl rfl rfl) rfl rfl rfl ?_
      refine at_v (ov_pick_f rfl rfl rfl) rfl rfl rfl ?_
      refine at_v (ov_move rfl rfl) rfl rfl rfl ?_
      refine at_reval 42 (.bool false) rfl (congrArg Value.bool (decide_eq_false (by omega))) ?_
      refine at_wanted (j := 7) rfl ?_
      refine at_v (ov_move rfl rfl) rfl rfl rfl ?_
      refine at_wanted (j := 7) rfl ?_
      refine at_v (ov_len_slice rfl Try.underlying23 rfl) rfl rfl rfl ?_
      refine at_wanted (j := 7) rfl ?_
      refine at_v (ov_int rfl rfl rfl rfl) rfl rfl rfl ?_
      refine at_v (ov_pick_f rfl rfl rfl) rfl rfl rfl ?_
      refine at_nil ?_
      refine at_normal ?_
      refine hK5 _ _ _ ?_
      refine at_cond_true (congrArg (fun b => some (Value.bool b)) (show _ = true from decide_eq_true (by omega))) ?_
      refine at_seq_k (fun K6 hK6 => ?_)
      refine at_region ?_
      refine at_v (ov_assign rfl rfl) rfl rfl rfl ?_
      refine at_nil ?_
      refine at_normal ?_
      refine hK6 _ _ _ ?_
      refine at_ret ?_
      refine at_then_ret ?_
      refine at_end ?_
      refine at_fin (rsV rfl (res_tmp rfl)) ?_
      refine ⟨_, ⟨rfl, rfl⟩, ?_⟩
      exact fun _ s => s.finEq (ks := []) (js := [0]) rfl rfl rfl
    have hl : l.length ≤ 100 := by omega
    have hl2 : l2.length ≤ 100 := by omega
    refine at_v (ov_move rfl rfl) rfl rfl rfl ?_
    refine at_v (ov_extract rfl rfl rfl) rfl rfl rfl ?_
    refine at_v (ov_extract rfl rfl rfl) rfl rfl rfl ?_
    refine at_v (ov_assign rfl rfl) rfl rfl rfl ?_
    refine at_v (ov_assign rfl rfl) rfl rfl rfl ?_
    refine at_nil ?_
    refine at_normal ?_
    refine hK3 _ _ _ ?_
    refine at_seq_k (fun K4 hK4 => ?_)
    refine at_seq_k (fun K5 hK5 => ?_)
    refine at_region ?_
    refine at_v (ov_move rfl rfl) rfl rfl rfl ?_
    refine at_v (ov_ptr_nil (q := none) rfl Try.underlying25 rfl rfl) rfl rfl rfl ?_
    refine at_v (ov_move rfl rfl) rfl rfl rfl ?_
    refine at_wanted (j := 2) rfl ?_
    refine at_v (ov_move rfl rfl) rfl rfl rfl ?_
    refine at_wanted (j := 2) rfl ?_
    refine at_v (ov_len_slice rfl Try.underlying23 rfl) rfl rfl rfl ?_
    refine at_wanted (j := 2) rfl ?_
    refine at_v (ov_int rfl rfl rfl rfl) rfl rfl rfl ?_
    refine at_v (ov_pick_f rfl rfl rfl) rfl rfl rfl ?_
    refine at_v (ov_move rfl rfl) rfl rfl rfl ?_
    refine at_reval 42 (.bool false) rfl (congrArg Value.bool (decide_eq_false (by omega))) ?_
    refine at_wanted (j := 7) rfl ?_
    refine at_v (ov_move rfl rfl) rfl rfl rfl ?_
    refine at_wanted (j := 7) rfl ?_
    refine at_v (ov_len_slice rfl Try.underlying23 rfl) rfl rfl rfl ?_
    refine at_wanted (j := 7) rfl ?_
    refine at_v (ov_int rfl rfl rfl rfl) rfl rfl rfl ?_
    refine at_v (ov_pick_f rfl rfl rfl) rfl rfl rfl ?_
    refine at_nil ?_
    refine at_normal ?_
    refine hK5 _ _ _ ?_
    refine at_cond_false (congrArg (fun b => some (Value.bool b)) (show _ = false from decide_eq_false (by omega))) ?_
    refine at_skip ?_
    refine at_normal ?_
    refine hK4 _ _ _ ?_
    refine at_seq_k (fun K6 hK6 => ?_)
    refine at_seq_k (fun K7 hK7 => ?_)
    refine at_region ?_
    refine at_v (ov_move rfl rfl) rfl rfl rfl ?_
    refine at_v (ov_len_slice rfl Try.underlying23 rfl) rfl rfl rfl ?_
    refine at_v (ov_move rfl rfl) rfl rfl rfl ?_
    refine at_nil ?_
    refine at_normal ?_
    refine hK7 _ _ _ ?_
    refine at_block ?_
    refine at_loopE [50, 51, 52, 14, 53, 54, 55, 56, 49] (fun k => k ≤ l.length) (fun k => [(49, .int .i64 (k : Nat))]) (fun k m => setAt 0 (PO g (runP (initP room 3 wait) (l.take k))) m) (fun k => l.length - k) 0 (Nat.zero_le _) ⟨rfl, trivial⟩ (fun _ s => s) ?_
    intro k hk
    simp only [setAt]
    have hwk := wf_runK hw0 hl hok k
    refine at_seq_k (fun K8 hK8 => ?_)
    refine at_region ?_
    refine at_v (ov_int rfl rfl rfl rfl) rfl rfl rfl ?_
    refine at_nil ?_
    refine at_normal ?_
    refine hK8 _ _ _ ?_
    refine at_seq_k (fun K9 hK9 => ?_)
    refine at_cond rfl (fun hc => ?_) (fun hc => ?_)
    · have hlt : k < l.length := by simpa using hc
      have hget : l[k]? = some l[k] := List.getElem?_eq_getElem hlt
      have hxok := hok l[k] (List.mem_of_getElem? hget)
      refine at_skip ?_
      refine at_normal ?_
      refine hK9 _ _ _ ?_
      refine at_seq_k (fun K10 hK10 => ?_)
      refine at_block ?_
      refine at_seq_k (fun K11 hK11 => ?_)
      refine at_region ?_
      refine at_v (ov_indexRd (fun _ s => hr.up s) rfl Try.underlying23 rfl rfl rfl hget) rfl rfl rfl ?_
      refine at_v (ov_loadRdS (vs := [_, _, _, _, _, _]) (fun _ s => hr.up s) rfl rfl rfl hget rfl rfl) rfl rfl rfl ?_
      refine at_t (ot_allocA rfl Try.zeroValue30) rfl rfl rfl ?_
      rintro _ _ ⟨g0, rfl, rfl⟩
      refine at_t0 (ot_store (k := 0) rfl rfl rfl rfl rfl rfl rfl) rfl rfl ?_
      rintro _ _ ⟨rfl, rfl⟩
      simp only [setAt, splice, spliceL, Value.cells]
      refine at_nil ?_
      refine at_normal ?_
      refine hK11 _ _ _ ?_
      refine at_region ?_
      refine at_v (ov_move rfl rfl) rfl rfl rfl ?_
      refine at_v (ov_loadS (cs := [_, _, _, _, _, _]) rfl rfl rfl rfl (fun _ s => s.lds (k := 0) rfl ⟨rfl, rfl, rfl, rfl, rfl, rfl, trivial⟩)) rfl rfl rfl ?_
      refine at_t (ot_call (ks := [1]) rfl rfl rfl Try.call10 rfl (T10 _ _ (by first | assumption | rfl | omega | decide | (simp; done) | (simp at *; omega)) (by first | assumption | rfl | omega | decide | (simp; done) | (simp at *; omega))) rfl) rfl rfl rfl ?_
      rintro v0 _ ⟨m0, hp0, rfl⟩
      obtain ⟨rfl, rfl⟩ := hp0
      simp only [List.cons_append, List.nil_append, splice, spliceL]
      refine at_nil ?_
      refine at_inb_normal ?_
      refine at_normal ?_
      refine hK10 _ _ _ ?_
      refine at_region ?_
      refine at_v ((ov_int rfl rfl rfl rfl).eq (congrArg (Value.int .i64) (inK_i64 (by omega) (by omega)))) rfl rfl rfl ?_
      refine at_v (ov_move rfl rfl) rfl rfl rfl ?_
      refine at_nil ?_
      refine at_normal ?_
      refine at_roundF (k + 1) hlt (by omega) ⟨rfl, trivial⟩ rfl ?_
      rw [runP_succ _ _ _ hlt]
      exact fun _ s => s.finEq (ks := [0]) (js := [0]) rfl rfl rfl
    · generalize runP (initP room 3 wait) (l.take k) = p at hwk ⊢
      have hdr := drain_tri w0 (g := g) (e := epoch) hwk
      have hwd := drainP_wf hwk epoch
      have hdd := dr_drain hwk epoch
      have hrun := fun j => dr_run (l := l2.take j) hwd hdd hep (by rw [List.length_take]; omega) fun x hx => hok2 x (List.mem_of_mem_take hx)
      have hwrun : ∀ j, Wf 200 (runP (drainP p epoch) ((l2.take j).map fun x => x.at_ epoch)) := fun j => (wf_run hwd _ (by rw [List.length_map, List.length_take]; omega) fun x hx => by
        obtain ⟨z, hz, rfl⟩ := List.mem_map.1 hx
        exact ⟨hep, (hok2 z (List.mem_of_mem_take hz)).2⟩).mono (by rw [List.length_map, List.length_take]; omega) (by omega)
      refine at_exit ?_
      refine at_then_exit ?_
      refine at_then_exit ?_
      refine at_exit_eq ?_
      refine at_normal ?_
      refine hK6 _ _ _ ?_
      refine at_seq_k (fun K10 hK10 => ?_)
      refine at_region ?_
      refine at_v (ov_move rfl rfl) rfl rfl rfl ?_
      refine at_v (ov_move rfl rfl) rfl rfl rfl ?_
      refine at_t (ot_call (ks := [0]) rfl rfl rfl Try.call14 rfl (hdr ) rfl) rfl rfl rfl ?_
      rintro v0 _ ⟨m0, hp0, rfl⟩
      obtain ⟨rfl, rfl⟩ := hp0
      simp only [List.cons_append, List.nil_append, splice, spliceL]
      refine at_nil ?_
      refine at_normal ?_
      refine hK10 _ _ _ ?_
      refine at_seq_k (fun K11 hK11 => ?_)
      refine at_seq_k (fun K12 hK12 => ?_)
      refine at_region ?_
      refine at_v (ov_move rfl rfl) rfl rfl rfl ?_
      refine at_v (ov_len_slice rfl Try.underlying23 rfl) rfl rfl rfl ?_
      refine at_v (ov_move rfl rfl) rfl rfl rfl ?_
      refine at_nil ?_
      refine at_normal ?_
      refine hK12 _ _ _ ?_
      refine at_block ?_
      refine at_loopE [63, 64, 65, 16, 66, 67, 68, 69, 17, 70, 71, 72, 18, 73, 74, 75, 76, 77, 78, 79, 20, 80, 81, 82, 83, 84, 85, 86, 87, 88, 10, 89, 90, 91, 92, 93, 94, 95, 22, 96, 97, 98, 99, 100, 101, 102, 103, 104, 105, 106, 107, 108, 109, 110, 111, 112, 113, 114, 115, 116, 117, 118, 62] (fun j => j ≤ l2.length) (fun j => [(62, .int .i64 (j : Nat))]) (fun j m => setAt 0 (PO g (runP (drainP p epoch) ((l2.take j).map fun x => x.at_ epoch))) m) (fun j => l2.length - j) 0 (Nat.zero_le _) ⟨rfl, trivial⟩ (fun _ s => s) ?_
      intro j hj
      simp only [setAt]
      have hwj := hwrun j
      have hdj := hrun j
      have hrs : ∀ h : j < l2.length, runP (drainP p epoch) ((l2.take (j + 1)).map fun x => x.at_ epoch) = doP (runP (drainP p epoch) ((l2.take j).map fun x => x.at_ epoch)) (l2[j].at_ epoch) := fun h => by
        rw [List.take_succ_eq_append_getElem h, List.map_append]
        unfold runP
        rw [List.foldl_append]
        rfl
      clear hrun hwrun
      generalize runP (drainP p epoch) ((l2.take j).map fun x => x.at_ epoch) = q at hwj hdj hrs ⊢
      have h6 := hwj.h6
      refine at_seq_k (fun K13 hK13 => ?_)
      refine at_region ?_
      refine at_v (ov_int rfl rfl rfl rfl) rfl rfl rfl ?_
      refine at_nil ?_
      refine at_normal ?_
      refine hK13 _ _ _ ?_
      refine at_seq_k (fun K14 hK14 => ?_)
      refine at_cond rfl (fun hc => ?_) (fun hc => ?_)
      · have hlt : j < l2.length := by simpa using hc
        have hget : l2[j]? = some l2[j] := List.getElem?_eq_getElem hlt
        have hxok := hok2 l2[j] (List.mem_of_getElem? hget)
        have hrs := hrs hlt
        generalize l2[j] = x at hget hxok hrs
        have hxo : (x.at_ epoch).ok := ⟨hep, hxok.2⟩
        have hdo := T10 w0 (g := g) (x.at_ epoch) hxo hwj
        have hw2 := hwj.do_ (by omega) (x.at_ epoch) hxo
        have hd2 := dr_step hwj hdj x
        have h62 := hw2.h6
        refine at_skip ?_
        refine at_normal ?_
        refine hK14 _ _ _ ?_
        refine at_seq_k (fun K15 hK15 => ?_)
        refine at_block ?_
        refine at_seq_k (fun K16 hK16 => ?_)
        refine at_region ?_
        refine at_v (ov_indexRd (fun _ s => hr2.up s) rfl Try.underlying23 rfl rfl rfl hget) rfl rfl rfl ?_
        refine at_v (ov_loadRdS (vs := [_, _, _, _, _, _]) (fun _ s => hr2.up s) rfl rfl rfl hget rfl rfl) rfl rfl rfl ?_
        refine at_t (ot_allocA rfl Try.zeroValue30) rfl rfl rfl ?_
        rintro _ _ ⟨g0, rfl, rfl⟩
        refine at_t0 (ot_store (k := 0) rfl rfl rfl rfl rfl rfl rfl) rfl rfl ?_
        rintro _ _ ⟨rfl, rfl⟩
        simp only [setAt, splice, spliceL, Value.cells]
        refine at_nil ?_
        refine at_normal ?_
        refine hK16 _ _ _ ?_
        refine at_seq_k (fun K17 hK17 => ?_)
        refine at_region ?_
        refine at_v (ov_move rfl rfl) rfl rfl rfl ?_
        refine at_v (ov_fieldAddr (k := 3) (r := 3) rfl rfl rfl rfl) rfl rfl rfl ?_
        refine at_t0 (ot_store (k := 0) rfl rfl rfl rfl rfl rfl rfl) rfl rfl ?_
        rintro _ _ ⟨rfl, rfl⟩
        simp only [setAt, splice, spliceL, Value.cells]
        refine at_nil ?_
        refine at_normal ?_
        refine hK17 _ _ _ ?_
        refine at_seq_k (fun K18 hK18 => ?_)
        refine at_region ?_
        refine at_v (ov_move rfl rfl) rfl rfl rfl ?_
        refine at_t (ot_call (ks := [1]) rfl rfl rfl Try.call11 rfl (T11a _ (by first | assumption | rfl | omega | decide | (simp; done) | (simp at *; omega))) rfl) rfl rfl rfl ?_
        rintro v0 _ ⟨m0, hp0, rfl⟩
        obtain ⟨A0, hp0⟩ := hp0
        obtain ⟨c0, hp0⟩ := hp0
        obtain ⟨rfl, rfl⟩ := hp0
        simp only [List.cons_append, List.nil_append, splice, spliceL]
        refine at_v (ov_assign rfl rfl) rfl rfl rfl ?_
        refine at_nil ?_
        refine at_normal ?_
        refine hK18 _ _ _ ?_
        refine at_seq_k (fun K19 hK19 => ?_)
        refine at_region ?_
        refine at_v (ov_move rfl rfl) rfl rfl rfl ?_
        refine at_v (ov_loadS (cs := [_, _, _, _, _, _]) rfl rfl rfl rfl (fun _ s => s.lds (k := 2) rfl ⟨rfl, rfl, rfl, rfl, rfl, rfl, trivial⟩)) rfl rfl rfl ?_
        refine at_t (ot_call (ks := [1]) rfl rfl rfl Try.call10 rfl (hdo ) rfl) rfl rfl rfl ?_
        rintro v0 _ ⟨m0, hp0, rfl⟩
        obtain ⟨rfl, rfl⟩ := hp0
        simp only [List.cons_append, List.nil_append, splice, spliceL]
        refine at_t (ot_allocA rfl Try.zeroValue32) rfl rfl rfl ?_
        rintro _ _ ⟨g1, rfl, rfl⟩
        refine at_t0 (ot_store (k := 0) rfl rfl rfl rfl rfl rfl rfl) rfl rfl ?_
        rintro _ _ ⟨rfl, rfl⟩
        simp only [setAt, splice, spliceL, Value.cells]
        refine at_nil ?_
        refine at_normal ?_
        refine hK19 _ _ _ ?_
        refine at_seq_k (fun K20 hK20 => ?_)
        refine at_seq_k (fun K21 hK21 => ?_)
        refine at_region ?_
        refine at_v (ov_move rfl rfl) rfl rfl rfl ?_
        refine at_t (ot_call (ks := [1]) rfl rfl rfl Try.call11 rfl (T11a _ (by first | assumption | rfl | omega | decide | (simp; done) | (simp at *; omega))) rfl) rfl rfl rfl ?_
        rintro v0 _ ⟨m0, hp0, rfl⟩
        obtain ⟨A1, hp0⟩ := hp0
        obtain ⟨c1, hp0⟩ := hp0
        obtain ⟨rfl, rfl⟩ := hp0
        simp only [List.cons_append, List.nil_append, splice, spliceL]
        refine at_v (ov_len_slice rfl Try.underlying34 rfl) rfl rfl rfl ?_
        refine at_v (ov_move rfl rfl) rfl rfl rfl ?_
        refine at_nil ?_
        refine at_normal ?_
        refine hK21 _ _ _ ?_
        refine at_block ?_
        refine at_loopE [77, 78, 79, 20, 80, 81, 82, 83, 84, 85, 86, 87, 88, 10, 89, 76] (fun m => m ≤ (doP q (x.at_ epoch)).cs.length) (fun m => [(76, .int .i64 (m : Nat))]) (fun j m => m) (fun m => (doP q (x.at_ epoch)).cs.length - m) 0 (Nat.zero_le _) ⟨rfl, trivial⟩ (fun _ s => s) ?_
        intro m hm3
        refine at_seq_k (fun K22 hK22 => ?_)
        refine at_region ?_
        refine at_v (ov_int rfl rfl rfl rfl) rfl rfl rfl ?_
        refine at_nil ?_
        refine at_normal ?_
        refine hK22 _ _ _ ?_
        refine at_seq_k (fun K23 hK23 => ?_)
        refine at_cond rfl (fun hc => ?_) (fun hc => ?_)
        · have hmt : m < (doP q (x.at_ epoch)).cs.length := by simpa using hc
          obtain ⟨y, hy⟩ : ∃ y, (doP q (x.at_ epoch)).cs[m]? = some y := ⟨_, List.getElem?_eq_getElem hmt⟩
          by_cases hi3 : y.2.1.e = epoch
          · refine at_skip ?_
            refine at_normal ?_
            refine hK23 _ _ _ ?_
            refine at_seq_k (fun K24 hK24 => ?_)
            refine at_block ?_
            refine at_seq_k (fun K25 hK25 => ?_)
            refine at_region ?_
            refine at_v (ov_indexRd (fun _ s => s.rd (k := 0) rfl) rfl Try.underlying34 rfl rfl rfl hy) rfl rfl rfl ?_
            refine at_v (ov_loadRdS (vs := [_, _, _, _, _, _]) (fun _ s => s.rd (k := 0) rfl) rfl rfl rfl hy rfl rfl) rfl rfl rfl ?_
            refine at_t (ot_allocA rfl Try.zeroValue39) rfl rfl rfl ?_
            rintro _ _ ⟨g2, rfl, rfl⟩
            refine at_t0 (ot_store (k := 0) rfl rfl rfl rfl rfl rfl rfl) rfl rfl ?_
            rintro _ _ ⟨rfl, rfl⟩
            simp only [setAt, splice, spliceL, Value.cells]
            refine at_nil ?_
            refine at_normal ?_
            refine hK25 _ _ _ ?_
            refine at_seq_k (fun K26 hK26 => ?_)
            refine at_region ?_
            refine at_v (ov_fieldAddr (k := 3) (r := 3) rfl rfl rfl rfl) rfl rfl rfl ?_
            refine at_v (ov_load rfl rfl rfl (fun _ s => s.ld (k := 0) rfl rfl)) rfl rfl rfl ?_
            refine at_v (ov_move rfl rfl) rfl rfl rfl ?_
            refine at_v (ov_int rfl rfl rfl rfl) rfl rfl rfl ?_
            refine at_v (ov_move rfl rfl) rfl rfl rfl ?_
            refine at_reval 84 (.bool false) rfl (congrArg Value.bool (by first | assumption | (rw [Bool.not_eq_false']; exact decide_eq_true (by omega)))) ?_
            refine at_unwanted (j := 4) rfl rfl rfl rfl ?_
            refine at_unwanted (j := 4) rfl rfl rfl rfl ?_
            refine at_unwanted (j := 4) rfl rfl rfl rfl ?_
            refine at_v (ov_pick_f rfl rfl rfl) rfl rfl rfl ?_
            refine at_nil ?_
            refine at_normal ?_
            refine hK26 _ _ _ ?_
            refine at_cond_false rfl ?_
            refine at_skip ?_
            refine at_inb_normal ?_
            refine at_normal ?_
            refine hK24 _ _ _ ?_
            refine at_region ?_
            refine at_v ((ov_int rfl rfl rfl rfl).eq (congrArg (Value.int .i64) (inK_i64 (by omega) (by omega)))) rfl rfl rfl ?_
            refine at_v (ov_move rfl rfl) rfl rfl rfl ?_
            refine at_nil ?_
            refine at_normal ?_
            refine at_roundF (m + 1) hmt (by omega) ⟨rfl, trivial⟩ rfl ?_
            exact fun _ s => s.finEq (ks := [1, 1, 1, 1, 1]) (js := [0]) rfl rfl rfl
          · have hi4 := hd2 y (List.mem_of_getElem? hy) hi3
            refine at_skip ?_
            refine at_normal ?_
            refine hK23 _ _ _ ?_
            refine at_seq_k (fun K24 hK24 => ?_)
            refine at_block ?_
            refine at_seq_k (fun K25 hK25 => ?_)
            refine at_region ?_
            refine at_v (ov_indexRd (fun _ s => s.rd (k := 0) rfl) rfl Try.underlying34 rfl rfl rfl hy) rfl rfl rfl ?_
            refine at_v (ov_loadRdS (vs := [_, _, _, _, _, _]) (fun _ s => s.rd (k := 0) rfl) rfl rfl rfl hy rfl rfl) rfl rfl rfl ?_
            refine at_t (ot_allocA rfl Try.zeroValue39) rfl rfl rfl ?_
            rintro _ _ ⟨g2, rfl, rfl⟩
            refine at_t0 (ot_store (k := 0) rfl rfl rfl rfl rfl rfl rfl) rfl rfl ?_
            rintro _ _ ⟨rfl, rfl⟩
            simp only [setAt, splice, spliceL, Value.cells]
            refine at_nil ?_
            refine at_normal ?_
            refine hK25 _ _ _ ?_
            refine at_seq_k (fun K26 hK26 => ?_)
            refine at_region ?_
            refine at_v (ov_fieldAddr (k := 3) (r := 3) rfl rfl rfl rfl) rfl rfl rfl ?_
            refine at_v (ov_load rfl rfl rfl (fun _ s => s.ld (k := 0) rfl rfl)) rfl rfl rfl ?_
            refine at_v (ov_move rfl rfl) rfl rfl rfl ?_
            refine at_v (ov_int rfl rfl rfl rfl) rfl rfl rfl ?_
            refine at_v (ov_move rfl rfl) rfl rfl rfl ?_
            refine at_reval 84 (.bool true) rfl (congrArg Value.bool (by first | assumption | (rw [Bool.not_eq_true']; exact decide_eq_false (by omega)))) ?_
            refine at_wanted (j := 4) rfl ?_
            refine at_v (ov_fieldAddr (k := 1) (r := 1) rfl rfl rfl rfl) rfl rfl rfl ?_
            refine at_wanted (j := 4) rfl ?_
            refine at_v (ov_load rfl rfl rfl (fun _ s => s.ld (k := 0) rfl rfl)) rfl rfl rfl ?_
            refine at_wanted (j := 4) rfl ?_
            refine at_v (ov_int rfl rfl rfl rfl) rfl rfl rfl ?_
            refine at_v (ov_pick_t rfl rfl rfl) rfl rfl rfl ?_
            refine at_nil ?_
            refine at_normal ?_
            refine hK26 _ _ _ ?_
            refine at_cond_false (congrArg (fun b => some (Value.bool b)) (show _ = false from by first | assumption | (rw [Bool.not_eq_false']; exact decide_eq_true (by omega)))) ?_
            refine at_skip ?_
            refine at_inb_normal ?_
            refine at_normal ?_
            refine hK24 _ _ _ ?_
            refine at_region ?_
            refine at_v ((ov_int rfl rfl rfl rfl).eq (congrArg (Value.int .i64) (inK_i64 (by omega) (by omega)))) rfl rfl rfl ?_
            refine at_v (ov_move rfl rfl) rfl rfl rfl ?_
            refine at_nil ?_
            refine at_normal ?_
            refine at_roundF (m + 1) hmt (by omega) ⟨rfl, trivial⟩ rfl ?_
            exact fun _ s => s.finEq (ks := [1, 1, 1, 1, 1]) (js := [0]) rfl rfl rfl
        · refine at_exit ?_
          refine at_then_exit ?_
          refine at_then_exit ?_
          refine at_exit_eq ?_
          refine at_normal ?_
          refine hK20 _ _ _ ?_
          refine at_seq_k (fun K24 hK24 => ?_)
          refine at_region ?_
          refine at_v (ov_move rfl rfl) rfl rfl rfl ?_
          refine at_v (ov_len_slice rfl Try.underlying34 rfl) rfl rfl rfl ?_
          refine at_v (ov_move rfl rfl) rfl rfl rfl ?_
          refine at_nil ?_
          refine at_normal ?_
          refine hK24 _ _ _ ?_
          refine at_block ?_
          refine at_loopE [93, 94, 95, 22, 96, 97, 98, 99, 100, 101, 102, 103, 104, 105, 106, 107, 108, 109, 110, 111, 112, 113, 114, 115, 116, 10, 117, 92] (fun m => m ≤ q.cs.length) (fun m => [(92, .int .i64 (m : Nat))]) (fun j m => m) (fun m => q.cs.length - m) 0 (Nat.zero_le _) ⟨rfl, trivial⟩ (fun _ s => s) ?_
          intro m hm3
          refine at_seq_k (fun K25 hK25 => ?_)
          refine at_region ?_
          refine at_v (ov_int rfl rfl rfl rfl) rfl rfl rfl ?_
          refine at_nil ?_
          refine at_normal ?_
          refine hK25 _ _ _ ?_
          refine at_seq_k (fun K26 hK26 => ?_)
          refine at_cond rfl (fun hc => ?_) (fun hc => ?_)
          · have hmt : m < q.cs.length := by simpa using hc
            obtain ⟨y, hy⟩ : ∃ y, q.cs[m]? = some y := ⟨_, List.getElem?_eq_getElem hmt⟩
            by_cases hi3 : y.1 = x.id
            · by_cases hi4 : y.2.1.e = epoch
              · refine at_skip ?_
                refine at_normal ?_
                refine hK26 _ _ _ ?_
                refine at_seq_k (fun K27 hK27 => ?_)
                refine at_block ?_
                refine at_seq_k (fun K28 hK28 => ?_)
                refine at_region ?_
                refine at_v (ov_indexRd (fun _ s => s.rd (k := 3) rfl) rfl Try.underlying34 rfl rfl rfl hy) rfl rfl rfl ?_
                refine at_v (ov_loadRdS (vs := [_, _, _, _, _, _]) (fun _ s => s.rd (k := 3) rfl) rfl rfl rfl hy rfl rfl) rfl rfl rfl ?_
                refine at_t (ot_allocA rfl Try.zeroValue39) rfl rfl rfl ?_
                rintro _ _ ⟨g2, rfl, rfl⟩
                refine at_t0 (ot_store (k := 0) rfl rfl rfl rfl rfl rfl rfl) rfl rfl ?_
                rintro _ _ ⟨rfl, rfl⟩
                simp only [setAt, splice, spliceL, Value.cells]
                refine at_nil ?_
                refine at_normal ?_
                refine hK28 _ _ _ ?_
                refine at_seq_k (fun K29 hK29 => ?_)
                refine at_region ?_
                refine at_v (ov_fieldAddr (k := 0) (r := 0) rfl rfl rfl rfl) rfl rfl rfl ?_
                refine at_v (ov_load rfl rfl rfl (fun _ s => s.ld (k := 0) rfl rfl)) rfl rfl rfl ?_
                refine at_v (ov_fieldAddr (k := 2) (r := 2) rfl rfl rfl rfl) rfl rfl rfl ?_
                refine at_v (ov_load rfl rfl rfl (fun _ s => s.ld (k := 5) rfl rfl)) rfl rfl rfl ?_
                refine at_v (ov_int rfl rfl rfl rfl) rfl rfl rfl ?_
                refine at_v (ov_move rfl rfl) rfl rfl rfl ?_
                refine at_reval 101 (.bool true) rfl (congrArg Value.bool (decide_eq_true (by omega))) ?_
                refine at_wanted (j := 5) rfl ?_
                refine at_v (ov_fieldAddr (k := 3) (r := 3) rfl rfl rfl rfl) rfl rfl rfl ?_
                refine at_wanted (j := 5) rfl ?_
                refine at_v (ov_load rfl rfl rfl (fun _ s => s.ld (k := 0) rfl rfl)) rfl rfl rfl ?_
                refine at_wanted (j := 5) rfl ?_
                refine at_v (ov_move rfl rfl) rfl rfl rfl ?_
                refine at_wanted (j := 5) rfl ?_
                refine at_v (ov_int rfl rfl rfl rfl) rfl rfl rfl ?_
                refine at_v (ov_pick_t rfl rfl rfl) rfl rfl rfl ?_
                refine at_v (ov_move rfl rfl) rfl rfl rfl ?_
                refine at_reval 107 (.bool false) rfl (congrArg Value.bool (by first | assumption | (rw [Bool.not_eq_false']; exact decide_eq_true (by omega)))) ?_
                refine at_unwanted (j := 11) rfl rfl rfl rfl ?_
                refine at_unwanted (j := 11) rfl rfl rfl rfl ?_
                refine at_unwanted (j := 11) rfl rfl rfl rfl ?_
                refine at_v (ov_pick_f rfl rfl rfl) rfl rfl rfl ?_
                refine at_v (ov_move rfl rfl) rfl rfl rfl ?_
                refine at_unwanted (j := 16) rfl rfl rfl rfl ?_
                refine at_unwanted (j := 16) rfl rfl rfl rfl ?_
                refine at_unwanted (j := 16) rfl rfl rfl rfl ?_
                refine at_v (ov_pick_f rfl rfl rfl) rfl rfl rfl ?_
                refine at_nil ?_
                refine at_normal ?_
                refine hK29 _ _ _ ?_
                refine at_cond_false rfl ?_
                refine at_skip ?_
                refine at_inb_normal ?_
                refine at_normal ?_
                refine hK27 _ _ _ ?_
                refine at_region ?_
                refine at_v ((ov_int rfl rfl rfl rfl).eq (congrArg (Value.int .i64) (inK_i64 (by omega) (by omega)))) rfl rfl rfl ?_
                refine at_v (ov_move rfl rfl) rfl rfl rfl ?_
                refine at_nil ?_
                refine at_normal ?_
                refine at_roundF (m + 1) hmt (by omega) ⟨rfl, trivial⟩ rfl ?_
                exact fun _ s => s.finEq (ks := [1, 1, 1, 1, 1]) (js := [0]) rfl rfl rfl
              · by_cases hi5 : x.d = 3
                · have hi6 := dr_sendE hwj hdj (List.mem_of_getElem? hy) hi4 (x.at_ epoch) hi5 hi3
                  refine at_skip ?_
                  refine at_normal ?_
                  refine hK26 _ _ _ ?_
                  refine at_seq_k (fun K27 hK27 => ?_)
                  refine at_block ?_
                  refine at_seq_k (fun K28 hK28 => ?_)
                  refine at_region ?_
                  refine at_v (ov_indexRd (fun _ s => s.rd (k := 3) rfl) rfl Try.underlying34 rfl rfl rfl hy) rfl rfl rfl ?_
                  refine at_v (ov_loadRdS (vs := [_, _, _, _, _, _]) (fun _ s => s.rd (k := 3) rfl) rfl rfl rfl hy rfl rfl) rfl rfl rfl ?_
                  refine at_t (ot_allocA rfl Try.zeroValue39) rfl rfl rfl ?_
                  rintro _ _ ⟨g2, rfl, rfl⟩
                  refine at_t0 (ot_store (k := 0) rfl rfl rfl rfl rfl rfl rfl) rfl rfl ?_
                  rintro _ _ ⟨rfl, rfl⟩
                  simp only [setAt, splice, spliceL, Value.cells]
                  refine at_nil ?_
                  refine at_normal ?_
                  refine hK28 _ _ _ ?_
                  refine at_seq_k (fun K29 hK29 => ?_)
                  refine at_region ?_
                  refine at_v (ov_fieldAddr (k := 0) (r := 0) rfl rfl rfl rfl) rfl rfl rfl ?_
                  refine at_v (ov_load rfl rfl rfl (fun _ s => s.ld (k := 0) rfl rfl)) rfl rfl rfl ?_
                  refine at_v (ov_fieldAddr (k := 2) (r := 2) rfl rfl rfl rfl) rfl rfl rfl ?_
                  refine at_v (ov_load rfl rfl rfl (fun _ s => s.ld (k := 5) rfl rfl)) rfl rfl rfl ?_
                  refine at_v (ov_int rfl rfl rfl rfl) rfl rfl rfl ?_
                  refine at_v (ov_move rfl rfl) rfl rfl rfl ?_
                  refine at_reval 101 (.bool true) rfl (congrArg Value.bool (decide_eq_true (by omega))) ?_
                  refine at_wanted (j := 5) rfl ?_
                  refine at_v (ov_fieldAddr (k := 3) (r := 3) rfl rfl rfl rfl) rfl rfl rfl ?_
                  refine at_wanted (j := 5) rfl ?_
                  refine at_v (ov_load rfl rfl rfl (fun _ s => s.ld (k := 0) rfl rfl)) rfl rfl rfl ?_
                  refine at_wanted (j := 5) rfl ?_
                  refine at_v (ov_move rfl rfl) rfl rfl rfl ?_
                  refine at_wanted (j := 5) rfl ?_
                  refine at_v (ov_int rfl rfl rfl rfl) rfl rfl rfl ?_
                  refine at_v (ov_pick_t rfl rfl rfl) rfl rfl rfl ?_
                  refine at_v (ov_move rfl rfl) rfl rfl rfl ?_
                  refine at_reval 107 (.bool true) rfl (congrArg Value.bool (by first | assumption | (rw [Bool.not_eq_true']; exact decide_eq_false (by omega)))) ?_
                  refine at_wanted (j := 11) rfl ?_
                  refine at_v (ov_fieldAddr (k := 0) (r := 0) rfl rfl rfl rfl) rfl rfl rfl ?_
                  refine at_wanted (j := 11) rfl ?_
                  refine at_v (ov_load rfl rfl rfl (fun _ s => s.ld (k := 5) rfl rfl)) rfl rfl rfl ?_
                  refine at_wanted (j := 11) rfl ?_
                  refine at_v (ov_int rfl rfl rfl rfl) rfl rfl rfl ?_
                  refine at_v (ov_pick_t rfl rfl rfl) rfl rfl rfl ?_
                  refine at_v (ov_move rfl rfl) rfl rfl rfl ?_
                  refine at_reval 112 (.bool true) rfl (congrArg Value.bool (decide_eq_true (by omega))) ?_
                  refine at_wanted (j := 16) rfl ?_
                  refine at_v (ov_fieldAddr (k := 4) (r := 4) rfl rfl rfl rfl) rfl rfl rfl ?_
                  refine at_wanted (j := 16) rfl ?_
                  refine at_v (ov_load rfl rfl rfl (fun _ s => s.ld (k := 3) rfl rfl)) rfl rfl rfl ?_
                  refine at_wanted (j := 16) rfl ?_
                  refine at_v (ov_int rfl rfl rfl rfl) rfl rfl rfl ?_
                  refine at_v (ov_pick_t rfl rfl rfl) rfl rfl rfl ?_
                  refine at_nil ?_
                  refine at_normal ?_
                  refine hK29 _ _ _ ?_
                  refine at_cond_false (congrArg (fun b => some (Value.bool b)) (show _ = false from decide_eq_false (by omega))) ?_
                  refine at_skip ?_
                  refine at_inb_normal ?_
                  refine at_normal ?_
                  refine hK27 _ _ _ ?_
                  refine at_region ?_
                  refine at_v ((ov_int rfl rfl rfl rfl).eq (congrArg (Value.int .i64) (inK_i64 (by omega) (by omega)))) rfl rfl rfl ?_
                  refine at_v (ov_move rfl rfl) rfl rfl rfl ?_
                  refine at_nil ?_
                  refine at_normal ?_
                  refine at_roundF (m + 1) hmt (by omega) ⟨rfl, trivial⟩ rfl ?_
                  exact fun _ s => s.finEq (ks := [1, 1, 1, 1, 1]) (js := [0]) rfl rfl rfl
                · refine at_skip ?_
                  refine at_normal ?_
                  refine hK26 _ _ _ ?_
                  refine at_seq_k (fun K27 hK27 => ?_)
                  refine at_block ?_
                  refine at_seq_k (fun K28 hK28 => ?_)
                  refine at_region ?_
                  refine at_v (ov_indexRd (fun _ s => s.rd (k := 3) rfl) rfl Try.underlying34 rfl rfl rfl hy) rfl rfl rfl ?_
                  refine at_v (ov_loadRdS (vs := [_, _, _, _, _, _]) (fun _ s => s.rd (k := 3) rfl) rfl rfl rfl hy rfl rfl) rfl rfl rfl ?_
                  refine at_t (ot_allocA rfl Try.zeroValue39) rfl rfl rfl ?_
                  rintro _ _ ⟨g2, rfl, rfl⟩
                  refine at_t0 (ot_store (k := 0) rfl rfl rfl rfl rfl rfl rfl) rfl rfl ?_
                  rintro _ _ ⟨rfl, rfl⟩
                  simp only [setAt, splice, spliceL, Value.cells]
                  refine at_nil ?_
                  refine at_normal ?_
                  refine hK28 _ _ _ ?_
                  refine at_seq_k (fun K29 hK29 => ?_)
                  refine at_region ?_
                  refine at_v (ov_fieldAddr (k := 0) (r := 0) rfl rfl rfl rfl) rfl rfl rfl ?_
                  refine at_v (ov_load rfl rfl rfl (fun _ s => s.ld (k := 0) rfl rfl)) rfl rfl rfl ?_
                  refine at_v (ov_fieldAddr (k := 2) (r := 2) rfl rfl rfl rfl) rfl rfl rfl ?_
                  refine at_v (ov_load rfl rfl rfl (fun _ s => s.ld (k := 5) rfl rfl)) rfl rfl rfl ?_
                  refine at_v (ov_int rfl rfl rfl rfl) rfl rfl rfl ?_
                  refine at_v (ov_move rfl rfl) rfl rfl rfl ?_
                  refine at_reval 101 (.bool true) rfl (congrArg Value.bool (decide_eq_true (by omega))) ?_
                  refine at_wanted (j := 5) rfl ?_
                  refine at_v (ov_fieldAddr (k := 3) (r := 3) rfl rfl rfl rfl) rfl rfl rfl ?_
                  refine at_wanted (j := 5) rfl ?_
                  refine at_v (ov_load rfl rfl rfl (fun _ s => s.ld (k := 0) rfl rfl)) rfl rfl rfl ?_
                  refine at_wanted (j := 5) rfl ?_
                  refine at_v (ov_move rfl rfl) rfl rfl rfl ?_
                  refine at_wanted (j := 5) rfl ?_
                  refine at_v (ov_int rfl rfl rfl rfl) rfl rfl rfl ?_
                  refine at_v (ov_pick_t rfl rfl rfl) rfl rfl rfl ?_
                  refine at_v (ov_move rfl rfl) rfl rfl rfl ?_
                  refine at_reval 107 (.bool true) rfl (congrArg Value.bool (by first | assumption | (rw [Bool.not_eq_true']; exact decide_eq_false (by omega)))) ?_
                  refine at_wanted (j := 11) rfl ?_
                  refine at_v (ov_fieldAddr (k := 0) (r := 0) rfl rfl rfl rfl) rfl rfl rfl ?_
                  refine at_wanted (j := 11) rfl ?_
                  refine at_v (ov_load rfl rfl rfl (fun _ s => s.ld (k := 5) rfl rfl)) rfl rfl rfl ?_
                  refine at_wanted (j := 11) rfl ?_
                  refine at_v (ov_int rfl rfl rfl rfl) rfl rfl rfl ?_
                  refine at_v (ov_pick_t rfl rfl rfl) rfl rfl rfl ?_
                  refine at_v (ov_move rfl rfl) rfl rfl rfl ?_
                  refine at_reval 112 (.bool false) rfl (congrArg Value.bool (decide_eq_false (by omega))) ?_
                  refine at_unwanted (j := 16) rfl rfl rfl rfl ?_
                  refine at_unwanted (j := 16) rfl rfl rfl rfl ?_
                  refine at_unwanted (j := 16) rfl rfl rfl rfl ?_
                  refine at_v (ov_pick_f rfl rfl rfl) rfl rfl rfl ?_
                  refine at_nil ?_
                  refine at_normal ?_
                  refine hK29 _ _ _ ?_
                  refine at_cond_false rfl ?_
                  refine at_skip ?_
                  refine at_inb_normal ?_
                  refine at_normal ?_
                  refine hK27 _ _ _ ?_
                  refine at_region ?_
                  refine at_v ((ov_int rfl rfl rfl rfl).eq (congrArg (Value.int .i64) (inK_i64 (by omega) (by omega)))) rfl rfl rfl ?_
                  refine at_v (ov_move rfl rfl) rfl rfl rfl ?_
                  refine at_nil ?_
                  refine at_normal ?_
                  refine at_roundF (m + 1) hmt (by omega) ⟨rfl, trivial⟩ rfl ?_
                  exact fun _ s => s.finEq (ks := [1, 1, 1, 1, 1]) (js := [0]) rfl rfl rfl
            · refine at_skip ?_
              refine at_normal ?_
              refine hK26 _ _ _ ?_
              refine at_seq_k (fun K27 hK27 => ?_)
              refine at_block ?_
              refine at_seq_k (fun K28 hK28 => ?_)
              refine at_region ?_
              refine at_v (ov_indexRd (fun _ s => s.rd (k := 3) rfl) rfl Try.underlying34 rfl rfl rfl hy) rfl rfl rfl ?_
              refine at_v (ov_loadRdS (vs := [_, _, _, _, _, _]) (fun _ s => s.rd (k := 3) rfl) rfl rfl rfl hy rfl rfl) rfl rfl rfl ?_
              refine at_t (ot_allocA rfl Try.zeroValue39) rfl rfl rfl ?_
              rintro _ _ ⟨g2, rfl, rfl⟩
              refine at_t0 (ot_store (k := 0) rfl rfl rfl rfl rfl rfl rfl) rfl rfl ?_
              rintro _ _ ⟨rfl, rfl⟩
              simp only [setAt, splice, spliceL, Value.cells]
              refine at_nil ?_
              refine at_normal ?_
              refine hK28 _ _ _ ?_
              refine at_seq_k (fun K29 hK29 => ?_)
              refine at_region ?_
              refine at_v (ov_fieldAddr (k := 0) (r := 0) rfl rfl rfl rfl) rfl rfl rfl ?_
              refine at_v (ov_load rfl rfl rfl (fun _ s => s.ld (k := 0) rfl rfl)) rfl rfl rfl ?_
              refine at_v (ov_fieldAddr (k := 2) (r := 2) rfl rfl rfl rfl) rfl rfl rfl ?_
              refine at_v (ov_load rfl rfl rfl (fun _ s => s.ld (k := 5) rfl rfl)) rfl rfl rfl ?_
              refine at_v (ov_int rfl rfl rfl rfl) rfl rfl rfl ?_
              refine at_v (ov_move rfl rfl) rfl rfl rfl ?_
              refine at_reval 101 (.bool false) rfl (congrArg Value.bool (decide_eq_false (by omega))) ?_
              refine at_unwanted (j := 5) rfl rfl rfl rfl ?_
              refine at_unwanted (j := 5) rfl rfl rfl rfl ?_
              refine at_unwanted (j := 5) rfl rfl rfl rfl ?_
              refine at_unwanted (j := 5) rfl rfl rfl rfl ?_
              refine at_v (ov_pick_f rfl rfl rfl) rfl rfl rfl ?_
              refine at_v (ov_move rfl rfl) rfl rfl rfl ?_
              refine at_unwanted (j := 11) rfl rfl rfl rfl ?_
              refine at_unwanted (j := 11) rfl rfl rfl rfl ?_
              refine at_unwanted (j := 11) rfl rfl rfl rfl ?_
              refine at_v (ov_pick_f rfl rfl rfl) rfl rfl rfl ?_
              refine at_v (ov_move rfl rfl) rfl rfl rfl ?_
              refine at_unwanted (j := 16) rfl rfl rfl rfl ?_
              refine at_unwanted (j := 16) rfl rfl rfl rfl ?_
              refine at_unwanted (j := 16) rfl rfl rfl rfl ?_
              refine at_v (ov_pick_f rfl rfl rfl) rfl rfl rfl ?_
              refine at_nil ?_
              refine at_normal ?_
              refine hK29 _ _ _ ?_
              refine at_cond_false rfl ?_
              refine at_skip ?_
              refine at_inb_normal ?_
              refine at_normal ?_
              refine hK27 _ _ _ ?_
              refine at_region ?_
              refine at_v ((ov_int rfl rfl rfl rfl).eq (congrArg (Value.int .i64) (inK_i64 (by omega) (by omega)))) rfl rfl rfl ?_
              refine at_v (ov_move rfl rfl) rfl rfl rfl ?_
              refine at_nil ?_
              refine at_normal ?_
              refine at_roundF (m + 1) hmt (by omega) ⟨rfl, trivial⟩ rfl ?_
              exact fun _ s => s.finEq (ks := [1, 1, 1, 1, 1]) (js := [0]) rfl rfl rfl
          · refine at_exit ?_
            refine at_then_exit ?_
            refine at_then_exit ?_
            refine at_exit_eq ?_
            refine at_inb_normal ?_
            refine at_normal ?_
            refine hK15 _ _ _ ?_
            refine at_region ?_
            refine at_v ((ov_int rfl rfl rfl rfl).eq (congrArg (Value.int .i64) (inK_i64 (by omega) (by omega)))) rfl rfl rfl ?_
            refine at_v (ov_move rfl rfl) rfl rfl rfl ?_
            refine at_nil ?_
            refine at_normal ?_
            refine at_roundF (j + 1) hlt (by omega) ⟨rfl, trivial⟩ rfl ?_
            rw [hrs]
            exact fun _ s => s.finEq (ks := [1]) (js := [0, 0, 0, 0]) rfl rfl rfl
      · refine at_exit ?_
        refine at_then_exit ?_
        refine at_then_exit ?_
        refine at_exit_eq ?_
        refine at_normal ?_
        refine hK11 _ _ _ ?_
        refine at_seq_k (fun K15 hK15 => ?_)
        refine at_seq_k (fun K16 hK16 => ?_)
        refine at_region ?_
        refine at_v (ov_move rfl rfl) rfl rfl rfl ?_
        refine at_t (ot_call (ks := [0]) rfl rfl rfl Try.call11 rfl (T11a _ (by first | assumption | rfl | omega | decide | (simp; done) | (simp at *; omega))) rfl) rfl rfl rfl ?_
        rintro v0 _ ⟨m0, hp0, rfl⟩
        obtain ⟨A0, hp0⟩ := hp0
        obtain ⟨c0, hp0⟩ := hp0
        obtain ⟨rfl, rfl⟩ := hp0
        simp only [List.cons_append, List.nil_append, splice, spliceL]
        refine at_v (ov_len_slice rfl Try.underlying34 rfl) rfl rfl rfl ?_
        refine at_v (ov_move rfl rfl) rfl rfl rfl ?_
        refine at_nil ?_
        refine at_normal ?_
        refine hK16 _ _ _ ?_
        refine at_block ?_
        refine at_loopE [123, 124, 125, 24, 126, 127, 128, 129, 130, 131, 132, 133, 134, 135, 136, 137, 138, 10, 139, 122] (fun m => m ≤ q.cs.length) (fun m => [(122, .int .i64 (m : Nat))]) (fun j m => setAt 1 (PO g { q with cs := rem q.cs epoch j }) m) (fun m => q.cs.length - m) 0 (Nat.zero_le _) ⟨rfl, trivial⟩ (fun _ s => s) ?_
        intro m hm3
        simp only [setAt]
        refine at_seq_k (fun K17 hK17 => ?_)
        refine at_region ?_
        refine at_v (ov_int rfl rfl rfl rfl) rfl rfl rfl ?_
        refine at_nil ?_
        refine at_normal ?_
        refine hK17 _ _ _ ?_
        refine at_seq_k (fun K18 hK18 => ?_)
        refine at_cond rfl (fun hc => ?_) (fun hc => ?_)
        · have hmt : m < q.cs.length := by simpa using hc
          obtain ⟨y, hy⟩ : ∃ y, q.cs[m]? = some y := ⟨_, List.getElem?_eq_getElem hmt⟩
          by_cases hi3 : y.2.1.e = epoch
          · refine at_skip ?_
            refine at_normal ?_
            refine hK18 _ _ _ ?_
            refine at_seq_k (fun K19 hK19 => ?_)
            refine at_block ?_
            refine at_seq_k (fun K20 hK20 => ?_)
            refine at_region ?_
            refine at_v (ov_indexRd (fun _ s => s.rd (k := 0) rfl) rfl Try.underlying34 rfl rfl rfl hy) rfl rfl rfl ?_
            refine at_v (ov_loadRdS (vs := [_, _, _, _, _, _]) (fun _ s => s.rd (k := 0) rfl) rfl rfl rfl hy rfl rfl) rfl rfl rfl ?_
            refine at_t (ot_allocA rfl Try.zeroValue39) rfl rfl rfl ?_
            rintro _ _ ⟨g0, rfl, rfl⟩
            refine at_t0 (ot_store (k := 0) rfl rfl rfl rfl rfl rfl rfl) rfl rfl ?_
            rintro _ _ ⟨rfl, rfl⟩
            simp only [setAt, splice, spliceL, Value.cells]
            refine at_nil ?_
            refine at_normal ?_
            refine hK20 _ _ _ ?_
            refine at_seq_k (fun K21 hK21 => ?_)
            refine at_region ?_
            refine at_v (ov_fieldAddr (k := 3) (r := 3) rfl rfl rfl rfl) rfl rfl rfl ?_
            refine at_v (ov_load rfl rfl rfl (fun _ s => s.ld (k := 0) rfl rfl)) rfl rfl rfl ?_
            refine at_v (ov_move rfl rfl) rfl rfl rfl ?_
            refine at_v (ov_int rfl rfl rfl rfl) rfl rfl rfl ?_
            refine at_v (ov_move rfl rfl) rfl rfl rfl ?_
            refine at_reval 130 (.bool false) rfl (congrArg Value.bool (by first | assumption | (rw [Bool.not_eq_false']; exact decide_eq_true (by omega)))) ?_
            refine at_unwanted (j := 4) rfl rfl rfl rfl ?_
            refine at_unwanted (j := 4) rfl rfl rfl rfl ?_
            refine at_unwanted (j := 4) rfl rfl rfl rfl ?_
            refine at_unwanted (j := 4) rfl rfl rfl rfl ?_
            refine at_unwanted (j := 4) rfl rfl rfl rfl ?_
            refine at_unwanted (j := 4) rfl rfl rfl rfl ?_
            refine at_unwanted (j := 4) rfl rfl rfl rfl ?_
            refine at_v (ov_pick_f rfl rfl rfl) rfl rfl rfl ?_
            refine at_nil ?_
            refine at_normal ?_
            refine hK21 _ _ _ ?_
            refine at_cond_false rfl ?_
            refine at_skip ?_
            refine at_inb_normal ?_
            refine at_normal ?_
            refine hK19 _ _ _ ?_
            refine at_region ?_
            refine at_v ((ov_int rfl rfl rfl rfl).eq (congrArg (Value.int .i64) (inK_i64 (by omega) (by omega)))) rfl rfl rfl ?_
            refine at_v (ov_move rfl rfl) rfl rfl rfl ?_
            refine at_nil ?_
            refine at_normal ?_
            refine at_roundF (m + 1) hmt (by omega) ⟨rfl, trivial⟩ rfl ?_
            rw [rem_same hy hi3]
            exact fun _ s => s.finEq (ks := [1, 1]) (js := [0]) rfl rfl rfl
          · obtain ⟨hn1, hn2⟩ := rem_next hwj hdj hy hi3
            have hrep : Tri Try.prog w0 15 [ptrTo g, .int .i64 y.1, .int .u64 y.2.1.f] [PO g { q with cs := rem q.cs epoch m }] fun v m' => v = .bool true ∧ m' = [PO g { q with cs := rem q.cs epoch (m + 1) }] :=
              (T15 w0 y.1 y.2.1.f).post fun v m' h => by
                simp only [hn1, hn2] at h
                exact h
            refine at_skip ?_
            refine at_normal ?_
            refine hK18 _ _ _ ?_
            refine at_seq_k (fun K19 hK19 => ?_)
            refine at_block ?_
            refine at_seq_k (fun K20 hK20 => ?_)
            refine at_region ?_
            refine at_v (ov_indexRd (fun _ s => s.rd (k := 0) rfl) rfl Try.underlying34 rfl rfl rfl hy) rfl rfl rfl ?_
            refine at_v (ov_loadRdS (vs := [_, _, _, _, _, _]) (fun _ s => s.rd (k := 0) rfl) rfl rfl rfl hy rfl rfl) rfl rfl rfl ?_
            refine at_t (ot_allocA rfl Try.zeroValue39) rfl rfl rfl ?_
            rintro _ _ ⟨g0, rfl, rfl⟩
            refine at_t0 (ot_store (k := 0) rfl rfl rfl rfl rfl rfl rfl) rfl rfl ?_
            rintro _ _ ⟨rfl, rfl⟩
            simp only [setAt, splice, spliceL, Value.cells]
            refine at_nil ?_
            refine at_normal ?_
            refine hK20 _ _ _ ?_
            refine at_seq_k (fun K21 hK21 => ?_)
            refine at_region ?_
            refine at_v (ov_fieldAddr (k := 3) (r := 3) rfl rfl rfl rfl) rfl rfl rfl ?_
            refine at_v (ov_load rfl rfl rfl (fun _ s => s.ld (k := 0) rfl rfl)) rfl rfl rfl ?_
            refine at_v (ov_move rfl rfl) rfl rfl rfl ?_
            refine at_v (ov_int rfl rfl rfl rfl) rfl rfl rfl ?_
            refine at_v (ov_move rfl rfl) rfl rfl rfl ?_
            refine at_reval 130 (.bool true) rfl (congrArg Value.bool (by first | assumption | (rw [Bool.not_eq_true']; exact decide_eq_false (by omega)))) ?_
            refine at_wanted (j := 4) rfl ?_
            refine at_v (ov_move rfl rfl) rfl rfl rfl ?_
            refine at_wanted (j := 4) rfl ?_
            refine at_v (ov_fieldAddr (k := 0) (r := 0) rfl rfl rfl rfl) rfl rfl rfl ?_
            refine at_wanted (j := 4) rfl ?_
            refine at_v (ov_load rfl rfl rfl (fun _ s => s.ld (k := 0) rfl rfl)) rfl rfl rfl ?_
            refine at_wanted (j := 4) rfl ?_
            refine at_v (ov_fieldAddr (k := 4) (r := 4) rfl rfl rfl rfl) rfl rfl rfl ?_
            refine at_wanted (j := 4) rfl ?_
            refine at_v (ov_load rfl rfl rfl (fun _ s => s.ld (k := 0) rfl rfl)) rfl rfl rfl ?_
            refine at_wanted (j := 4) rfl ?_
            refine at_t (ot_call (ks := [2]) rfl rfl rfl Try.call15 rfl (hrep ) rfl) rfl rfl rfl ?_
            rintro v0 _ ⟨m0, hp0, rfl⟩
            obtain ⟨rfl, rfl⟩ := hp0
            simp only [List.cons_append, List.nil_append, splice, spliceL]
            refine at_wanted (j := 4) rfl ?_
            refine at_v (ov_not rfl rfl) rfl rfl rfl ?_
            refine at_v (ov_pick_t rfl rfl rfl) rfl rfl rfl ?_
            refine at_nil ?_
            refine at_normal ?_
            refine hK21 _ _ _ ?_
            refine at_cond_false rfl ?_
            refine at_skip ?_
            refine at_inb_normal ?_
            refine at_normal ?_
            refine hK19 _ _ _ ?_
            refine at_region ?_
            refine at_v ((ov_int rfl rfl rfl rfl).eq (congrArg (Value.int .i64) (inK_i64 (by omega) (by omega)))) rfl rfl rfl ?_
            refine at_v (ov_move rfl rfl) rfl rfl rfl ?_
            refine at_nil ?_
            refine at_normal ?_
            refine at_roundF (m + 1) hmt (by omega) ⟨rfl, trivial⟩ rfl ?_
            exact fun _ s => s.finEq (ks := [2, 0]) (js := [0]) rfl rfl rfl
        · have hm4 : m = q.cs.length := by
            have : ¬ m < q.cs.length := by simpa using hc
            omega
          subst hm4
          have hs9 := rem_sorted hwj.sorted epoch q.cs.length
          have h69 : (rem q.cs epoch q.cs.length).length ≤ 6 := Nat.le_trans (rem_sub _ _ _).length_le h6
          have ho9 : Open4 (rem q.cs epoch q.cs.length) := fun x hx => hwj.open_ x ((rem_sub _ _ _).subset hx)
          have hall : ∀ y ∈ rem q.cs epoch q.cs.length, y.2.1.e = epoch := by
            intro y hy
            unfold rem at hy
            rw [List.drop_length, List.append_nil] at hy
            simpa using (List.mem_filter.1 hy).2
          have hcn : Tri Try.prog w0 11 [ptrTo g] [PO g { q with cs := rem q.cs epoch q.cs.length }] fun v m => ∃ A c, v = .slice A (rem q.cs epoch q.cs.length).length c ∧ m = [Row infoE 39 6 A c (rem q.cs epoch q.cs.length), PO g { q with cs := rem q.cs epoch q.cs.length }] := T11 w0 hs9 h69 ho9
          generalize rem q.cs epoch q.cs.length = cs9 at hs9 h69 ho9 hall hcn ⊢
          refine at_exit ?_
          refine at_then_exit ?_
          refine at_then_exit ?_
          refine at_exit_eq ?_
          refine at_normal ?_
          refine hK15 _ _ _ ?_
          refine at_seq_k (fun K19 hK19 => ?_)
          refine at_seq_k (fun K20 hK20 => ?_)
          refine at_region ?_
          refine at_v (ov_move rfl rfl) rfl rfl rfl ?_
          refine at_t (ot_call (ks := [1]) rfl rfl rfl Try.call11 rfl (hcn ) rfl) rfl rfl rfl ?_
          rintro v0 _ ⟨m0, hp0, rfl⟩
          obtain ⟨A1, hp0⟩ := hp0
          obtain ⟨c1, hp0⟩ := hp0
          obtain ⟨rfl, rfl⟩ := hp0
          simp only [List.cons_append, List.nil_append, splice, spliceL]
          refine at_v (ov_len_slice rfl Try.underlying34 rfl) rfl rfl rfl ?_
          refine at_v (ov_move rfl rfl) rfl rfl rfl ?_
          refine at_nil ?_
          refine at_normal ?_
          refine hK20 _ _ _ ?_
          refine at_block ?_
          refine at_loopE [144, 145, 146, 26, 147, 148, 149, 150, 10, 151, 143] (fun m => m ≤ cs9.length) (fun m => [(143, .int .i64 (m : Nat))]) (fun j m => m) (fun m => cs9.length - m) 0 (Nat.zero_le _) ⟨rfl, trivial⟩ (fun _ s => s) ?_
          intro m hm3
          refine at_seq_k (fun K21 hK21 => ?_)
          refine at_region ?_
          refine at_v (ov_int rfl rfl rfl rfl) rfl rfl rfl ?_
          refine at_nil ?_
          refine at_normal ?_
          refine hK21 _ _ _ ?_
          refine at_seq_k (fun K22 hK22 => ?_)
          refine at_cond rfl (fun hc => ?_) (fun hc => ?_)
          · have hmt : m < cs9.length := by simpa using hc
            obtain ⟨y, hy⟩ : ∃ y, cs9[m]? = some y := ⟨_, List.getElem?_eq_getElem hmt⟩
            have hi3 := hall y (List.mem_of_getElem? hy)
            refine at_skip ?_
            refine at_normal ?_
            refine hK22 _ _ _ ?_
            refine at_seq_k (fun K23 hK23 => ?_)
            refine at_block ?_
            refine at_seq_k (fun K24 hK24 => ?_)
            refine at_region ?_
            refine at_v (ov_indexRd (fun _ s => s.rd (k := 0) rfl) rfl Try.underlying34 rfl rfl rfl hy) rfl rfl rfl ?_
            refine at_v (ov_loadRdS (vs := [_, _, _, _, _, _]) (fun _ s => s.rd (k := 0) rfl) rfl rfl rfl hy rfl rfl) rfl rfl rfl ?_
            refine at_t (ot_allocA rfl Try.zeroValue39) rfl rfl rfl ?_
            rintro _ _ ⟨g0, rfl, rfl⟩
            refine at_t0 (ot_store (k := 0) rfl rfl rfl rfl rfl rfl rfl) rfl rfl ?_
            rintro _ _ ⟨rfl, rfl⟩
            simp only [setAt, splice, spliceL, Value.cells]
            refine at_nil ?_
            refine at_normal ?_
            refine hK24 _ _ _ ?_
            refine at_seq_k (fun K25 hK25 => ?_)
            refine at_region ?_
            refine at_v (ov_fieldAddr (k := 3) (r := 3) rfl rfl rfl rfl) rfl rfl rfl ?_
            refine at_v (ov_load rfl rfl rfl (fun _ s => s.ld (k := 0) rfl rfl)) rfl rfl rfl ?_
            refine at_v (ov_move rfl rfl) rfl rfl rfl ?_
            refine at_v (ov_int rfl rfl rfl rfl) rfl rfl rfl ?_
            refine at_nil ?_
            refine at_normal ?_
            refine hK25 _ _ _ ?_
            refine at_cond_false (congrArg (fun b => some (Value.bool b)) (show _ = false from by first | assumption | (rw [Bool.not_eq_false']; exact decide_eq_true (by omega)))) ?_
            refine at_skip ?_
            refine at_inb_normal ?_
            refine at_normal ?_
            refine hK23 _ _ _ ?_
            refine at_region ?_
            refine at_v ((ov_int rfl rfl rfl rfl).eq (congrArg (Value.int .i64) (inK_i64 (by omega) (by omega)))) rfl rfl rfl ?_
            refine at_v (ov_move rfl rfl) rfl rfl rfl ?_
            refine at_nil ?_
            refine at_normal ?_
            refine at_roundF (m + 1) hmt (by omega) ⟨rfl, trivial⟩ rfl ?_
            exact fun _ s => s.finEq (ks := [1, 1, 1]) (js := [0]) rfl rfl rfl
          · refine at_exit ?_
            refine at_then_exit ?_
            refine at_then_exit ?_
            refine at_exit_eq ?_
            refine at_normal ?_
            refine hK19 _ _ _ ?_
            refine at_seq_k (fun K23 hK23 => ?_)
            refine at_region ?_
            refine at_v (ov_assign rfl rfl) rfl rfl rfl ?_
            refine at_nil ?_
            refine at_normal ?_
            refine hK23 _ _ _ ?_
            refine at_ret ?_
            refine at_end ?_
            refine at_fin (rsV rfl (res_tmp rfl)) ?_
            refine ⟨_, ⟨rfl, rfl⟩, ?_⟩
            exact fun _ s => s.finEq (ks := []) (js := [0, 0, 0]) rfl rfl rfl
