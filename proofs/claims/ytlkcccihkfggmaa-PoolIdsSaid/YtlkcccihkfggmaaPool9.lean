/- PoolIds, walked. -/
import Derived.Test.YtlkcccihkfggmaaProg
import Derived.Test.YtlkcccihkfggmaaPool8
import Derived.Test.YtlkcccihkfggmaaSLExt
import Derived.KernelRfl
set_option linter.unusedSimpArgs false
set_option linter.unusedVariables false
set_option maxRecDepth 100000
set_option maxHeartbeats 4000000
namespace Go.Proofs.Ytlkcccihkfggmaa
open Go Go.Proofs.Ytlkcccihkfggmaa.SL Go.RowKit
def sameE (cs : List XM) (y : XM) : Prop := ∃ z ∈ cs, z.1 = y.1 ∧ z.2.1.e = y.2.1.e
theorem e_send (c : CM) (n : Int) : (c.send n).e = c.e := by unfold CM.send; split <;> rfl
theorem e_reply (c : CM) (n : Int) : (c.reply n).e = c.e := by
  unfold CM.reply
  split
  · split <;> rfl
  · rfl
theorem e_release (c : CM) : c.release.e = c.e := by
  unfold CM.release
  split
  · split <;> rfl
  · rfl
theorem e_drain (c : CM) : c.drain.e = c.e := by unfold CM.drain; split <;> rfl
theorem e_lend (c : CM) (s : Int) : (c.lend s).e = c.e := by unfold CM.lend; split <;> rfl
theorem same_upd {cs : List XM} {f : XM → CM × Int} (hf : ∀ x, (f x).1.e = x.2.1.e) : ∀ y ∈ upd cs f, sameE cs y := by
  intro y hy
  obtain ⟨x, hx, rfl, _⟩ := upd_mem.1 hy
  exact ⟨x, hx, rfl, (hf x).symm⟩
theorem e_onI (id : Int) {u : CM → CM} (hu : ∀ c, (u c).e = c.e) (x : XM) : (onI id u x).1.e = x.2.1.e := by
  unfold onI; split
  · exact hu _
  · rfl
theorem e_giveU (e : Int) (x : XM) : (giveU e x).1.e = x.2.1.e := by
  unfold giveU; split
  · exact e_drain _
  · rfl
theorem ids_give {n : Nat} {p : PM} (h : Wf n p) (s e now : Int) : p.last ≤ (giveM p.most p.last p.cs s e now).2.2.1 ∧ ∀ y ∈ (giveM p.most p.last p.cs s e now).2.2.2, sameE p.cs y ∨ p.last < y.1 := by
  rcases give_cases p.most p.last p.cs s e now with ⟨k, x, hx, hl, _, hg⟩ | ⟨_, _, hg⟩ | ⟨_, hlt, hg⟩
  · rw [hg]
    refine ⟨Int.le_refl _, fun y hy => .inl ?_⟩
    rw [set_map (upd_sorted h.sorted _) hx] at hy
    obtain ⟨z, hz, rfl⟩ := List.mem_map.1 hy
    obtain ⟨w, hw, e1, e2⟩ := same_upd (e_giveU e) z hz
    by_cases e3 : z.1 = x.1
    · obtain ⟨w2, hw2, e4, e5⟩ := same_upd (e_giveU e) x (List.mem_of_getElem? hx)
      refine ⟨w2, hw2, by simp only; omega, ?_⟩
      simp only [e3, if_true]
      rw [e5]
      exact (e_lend _ _).symm
    · refine ⟨w, hw, e1, ?_⟩
      simp only [e3, if_false]
      exact e2
  · rw [hg]
    exact ⟨Int.le_refl _, fun y hy => .inl (same_upd (e_giveU e) y hy)⟩
  · rw [hg]
    refine ⟨by simp only; omega, fun y hy => ?_⟩
    rcases List.mem_append.1 hy with hy | hy
    · exact .inl (same_upd (e_giveU e) y hy)
    · simp at hy; subst hy; right; simp only; omega
theorem same_self (cs : List XM) : ∀ y ∈ cs, sameE cs y := fun y hy => ⟨y, hy, rfl, rfl⟩
theorem ids_step {n : Nat} {p : PM} (h : Wf n p) (x : PA) : p.last ≤ (doP p x).last ∧ ∀ y ∈ (doP p x).cs, sameE p.cs y ∨ p.last < y.1 := by
  by_cases h0 : x.d = 0
  · obtain ⟨e1, _⟩ := do0 p x h0
    rw [e1]
    simp only
    have hg := ids_give h x.se x.e x.now
    rcases acq_cases p.most p.wm p.last p.L p.cs x.se x.e x.now with ⟨c, hc, ha⟩ | ⟨_, _, hL, _, ha⟩ | ⟨_, _, l', c', hh, ⟨_, ha⟩ | ⟨_, ha⟩⟩
    · rw [ha]; exact ⟨Int.le_refl _, fun y hy => .inl (same_self _ y hy)⟩
    · rw [ha]; exact hg
    · rw [ha]
      rcases hh with ⟨rfl, rfl, _⟩ | ⟨_, _, rfl, rfl⟩
      · exact ⟨Int.le_refl _, fun y hy => .inl (same_self _ y hy)⟩
      · exact hg
    · rw [ha]
      rcases hh with ⟨rfl, rfl, _⟩ | ⟨_, _, rfl, rfl⟩
      · exact ⟨Int.le_refl _, fun y hy => .inl (same_self _ y hy)⟩
      · exact hg
  by_cases h1 : x.d = 1
  · obtain ⟨e1, _⟩ := do1 p x h1
    rw [e1]
    simp only
    rcases serve_cases p.most p.last p.L p.cs x.e x.now with ⟨_, ha⟩ | ⟨y, r, hL, ⟨_, ha⟩ | ⟨_, ha⟩⟩
    · rw [ha]; exact ⟨Int.le_refl _, fun y hy => .inl (same_self _ y hy)⟩
    · rw [ha]; exact ids_give h y x.e x.now
    · rw [ha]; exact ids_give h y x.e x.now
  have key : ∀ f : XM → CM × Int, (∀ x, (f x).1.e = x.2.1.e) → ∀ y ∈ upd p.cs f, sameE p.cs y ∨ p.last < y.1 := fun f hf y hy => .inl (same_upd hf y hy)
  unfold doP
  simp only [if_neg h0, if_neg h1]
  by_cases h2 : x.d = 2
  · simp only [if_pos h2]; exact ⟨Int.le_refl _, fun y hy => .inl (same_self _ y hy)⟩
  simp only [if_neg h2]
  by_cases h3 : x.d = 3
  · simp only [if_pos h3]
    rw [setL_upd h.sorted h.open_ _ _ fun y hy => cwf_state (cwf_send (h.con y hy) _)]
    exact ⟨Int.le_refl _, key _ (e_onI _ fun c => e_send c _)⟩
  simp only [if_neg h3]
  by_cases h4 : x.d = 4
  · simp only [if_pos h4]
    rw [withL_upd h.sorted h.open_]
    exact ⟨Int.le_refl _, key _ (e_onI _ fun c => e_reply c _)⟩
  simp only [if_neg h4]
  by_cases h5 : x.d = 5
  · simp only [if_pos h5]
    rw [withL_upd h.sorted h.open_]
    exact ⟨Int.le_refl _, key _ (e_onI _ fun c => rfl)⟩
  simp only [if_neg h5]
  by_cases h6 : x.d = 6
  · simp only [if_pos h6]
    rw [releaseL_upd h.sorted h.open_]
    refine ⟨Int.le_refl _, key _ fun y => ?_⟩
    unfold relU; split
    · exact e_release _
    · rfl
  simp only [if_neg h6]
  by_cases h7 : x.d = 7
  · simp only [if_pos h7]
    rw [withL_upd h.sorted h.open_]
    exact ⟨Int.le_refl _, key _ (e_onI _ fun c => rfl)⟩
  simp only [if_neg h7]
  by_cases h8 : x.d = 8
  · simp only [if_pos h8]
    rw [midL_upd]
    refine ⟨Int.le_refl _, key _ fun y => ?_⟩
    unfold drainU; split
    · exact e_drain _
    · rfl
  simp only [if_neg h8]
  by_cases h9 : x.d = 9
  · simp only [if_pos h9]
    rw [midL_upd]
    refine ⟨Int.le_refl _, key _ fun y => ?_⟩
    unfold reapU; split
    · exact e_drain _
    · rfl
  simp only [if_neg h9]
  exact ⟨Int.le_refl _, fun y hy => .inl (same_self _ y hy)⟩
def thereB (y : XM) (z : XM) : Bool := decide (z.1 = y.1) && decide (z.2.1.e = y.2.1.e)
theorem there_no {cs : List XM} {y : XM} (h : cs.any (thereB y) = false) : ¬ sameE cs y := by
  rintro ⟨z, hz, e1, e2⟩
  have := List.any_eq_false.1 h z hz
  simp [thereB, e1, e2] at this
theorem T6 (w0 : World) (room wait idle : Int) (A : Option Addr) (c : Nat) (l : List PA) (hr : Rd paE w0 6 A l) (hm : l.length ≤ 9223372036854775807) (hok : ∀ x ∈ l, x.ok) :
    Tri Try.prog w0 6 [.int .i64 room, .int .i64 wait, .int .u64 idle, .slice A l.length c] [] fun v m => v = .bool true ∧ m = [] := by
  refine tri_of Try.func6 rfl rfl fun F => ?_
  simp only [Try.ntmps6, argEnv, List.cons_append, List.nil_append]
  refine at_seq_k (fun K0 hK0 => ?_)
  refine at_region ?_
  refine at_v (ov_assign rfl rfl) rfl rfl rfl ?_
  refine at_nil ?_
  refine at_normal ?_
  refine hK0 _ _ _ ?_
  refine at_seq_k (fun K1 hK1 => ?_)
  refine at_seq_k (fun K2 hK2 => ?_)
  refine at_region ?_
  refine at_t (ot_call (ks := []) rfl rfl rfl Try.call8 rfl (T8 _) rfl) rfl rfl rfl ?_
  rintro v0 _ ⟨m0, hp0, rfl⟩
  obtain ⟨rfl, rfl⟩ := hp0
  simp only [List.cons_append, List.nil_append, splice, spliceL]
  refine at_v (ov_not rfl rfl) rfl rfl rfl ?_
  refine at_nil ?_
  refine at_normal ?_
  refine hK2 _ _ _ ?_
  refine at_cond_false rfl ?_
  refine at_skip ?_
  refine at_normal ?_
  refine hK1 _ _ _ ?_
  refine at_seq_k (fun K3 hK3 => ?_)
  refine at_region ?_
  refine at_v (ov_move rfl rfl) rfl rfl rfl ?_
  refine at_v (ov_move rfl rfl) rfl rfl rfl ?_
  refine at_v (ov_move rfl rfl) rfl rfl rfl ?_
  refine at_t (ot_call (ks := []) rfl rfl rfl Try.call9 rfl (T9 _ _ _ _) rfl) rfl rfl rfl ?_
  rintro v0 _ ⟨m0, hp0, rfl⟩
  obtain ⟨b0, hp0⟩ := hp0
  obtain ⟨hq0, hp0⟩ := hp0
  obtain ⟨hq1, hp0⟩ := hp0
  cases b0 with
  | false =>
    obtain ⟨rfl, rfl⟩ := hq1 rfl
    simp only [List.nil_append]
    refine at_v (ov_move rfl rfl) rfl rfl rfl ?_
    refine at_v (ov_extract rfl rfl rfl) rfl rfl rfl ?_
    refine at_v (ov_extract rfl rfl rfl) rfl rfl rfl ?_
    refine at_v (ov_assign rfl rfl) rfl rfl rfl ?_
    refine at_v (ov_assign rfl rfl) rfl rfl rfl ?_
    refine at_nil ?_
    refine at_normal ?_
    refine hK3 _ _ _ ?_
    refine at_seq_k (fun K4 hK4 => ?_)
    refine at_seq_k (fun K5 hK5 => ?_)
    refine at_region ?_
    refine at_v (ov_move rfl rfl) rfl rfl rfl ?_
    refine at_v (ov_ptr_nil (q := none) rfl Try.underlying25 rfl rfl) rfl rfl rfl ?_
    refine at_v (ov_move rfl rfl) rfl rfl rfl ?_
    refine at_unwanted (j := 2) rfl rfl rfl rfl ?_
    refine at_unwanted (j := 2) rfl rfl rfl rfl ?_
    refine at_unwanted (j := 2) rfl rfl rfl rfl ?_
    refine at_v (ov_pick_t rfl rfl rfl) rfl rfl rfl ?_
    refine at_nil ?_
    refine at_normal ?_
    refine hK5 _ _ _ ?_
    refine at_cond_true rfl ?_
    refine at_seq_k (fun K6 hK6 => ?_)
    refine at_region ?_
    refine at_v (ov_assign rfl rfl) rfl rfl rfl ?_
    refine at_nil ?_
    refine at_normal ?_
    refine hK6 _ _ _ ?_
    refine at_ret ?_
    refine at_then_ret ?_
    refine at_end ?_
    refine at_fin (rsV rfl (res_tmp rfl)) ?_
    refine ⟨_, ⟨rfl, rfl⟩, ?_⟩
    exact fun _ s => s.finEq (ks := []) (js := []) rfl rfl rfl
  | true =>
    obtain ⟨g, rfl, rfl⟩ := hp0 rfl
    have hb : 0 ≤ wait ∧ wait ≤ 12 ∧ 1 ≤ room ∧ room ≤ 6 ∧ idle ≠ 0 := by simpa using hq0
    clear hq0 hq1 hp0
    have hw0 : Wf 0 (initP room idle wait) := wf_init ⟨hb.1, hb.2.1, hb.2.2.1, hb.2.2.2.1⟩
    simp only [List.cons_append, List.nil_append]
    by_cases hi1 : (l.length : Int) > 100
    · refine at_v (ov_move rfl rfl) rfl rfl rfl ?_
      refine at_v (ov_extract rfl rfl rfl) rfl rfl rfl ?_
      refine at_v (ov_extract rfl rfl rfl) rfl rfl rfl ?_
      refine at_v (ov_assign rfl rfl) rfl rfl rfl ?_
      refine at_v (ov_assign rfl rfl) rfl rfl rfl ?_
      refine at_nil ?_
      refine at_normal ?_
      refine hK3 _ _ _ ?_
      refine at_seq_k (fun K4 hK4 => ?_)
      refine at_seq_k (fun K5 hK5 => ?_)
      refine at_region ?_
      refine at_v (ov_move rfl rfl) rfl rfl rfl ?_
      refine at_v (ov_ptr_nil (q := none) rfl Try.underlying25 rfl rfl) rfl rfl rfl ?_
      refine at_v (ov_move rfl rfl) rfl rfl rfl ?_
      refine at_wanted (j := 2) rfl ?_
      refine at_v (ov_move rfl rfl) rfl rfl rfl ?_
      refine at_wanted (j := 2) rfl ?_
      refine at_v (ov_len_slice rfl Try.underlying23 rfl) rfl rfl rfl ?_
      refine at_wanted (j := 2) rfl ?_
      refine at_v (ov_int rfl rfl rfl rfl) rfl rfl rfl ?_
      refine at_v (ov_pick_f rfl rfl rfl) rfl rfl rfl ?_
      refine at_nil ?_
      refine at_normal ?_
      refine hK5 _ _ _ ?_
      refine at_cond_true (congrArg (fun b => some (Value.bool b)) (show _ = true from decide_eq_true (by omega))) ?_
      refine at_seq_k (fun K6 hK6 => ?_)
      refine at_region ?_
      refine at_v (ov_assign rfl rfl) rfl rfl rfl ?_
      refine at_nil ?_
      refine at_normal ?_
      refine hK6 _ _ _ ?_
      refine at_ret ?_
      refine at_then_ret ?_
      refine at_end ?_
      refine at_fin (rsV rfl (res_tmp rfl)) ?_
      refine ⟨_, ⟨rfl, rfl⟩, ?_⟩
      exact fun _ s => s.finEq (ks := []) (js := [0]) rfl rfl rfl
    · have hl : l.length ≤ 100 := by omega
      refine at_v (ov_move rfl rfl) rfl rfl rfl ?_
      refine at_v (ov_extract rfl rfl rfl) rfl rfl rfl ?_
      refine at_v (ov_extract rfl rfl rfl) rfl rfl rfl ?_
      refine at_v (ov_assign rfl rfl) rfl rfl rfl ?_
      refine at_v (ov_assign rfl rfl) rfl rfl rfl ?_
      refine at_nil ?_
      refine at_normal ?_
      refine hK3 _ _ _ ?_
      refine at_seq_k (fun K4 hK4 => ?_)
      refine at_seq_k (fun K5 hK5 => ?_)
      refine at_region ?_
      refine at_v (ov_move rfl rfl) rfl rfl rfl ?_
      refine at_v (ov_ptr_nil (q := none) rfl Try.underlying25 rfl rfl) rfl rfl rfl ?_
      refine at_v (ov_move rfl rfl) rfl rfl rfl ?_
      refine at_wanted (j := 2) rfl ?_
      refine at_v (ov_move rfl rfl) rfl rfl rfl ?_
      refine at_wanted (j := 2) rfl ?_
      refine at_v (ov_len_slice rfl Try.underlying23 rfl) rfl rfl rfl ?_
      refine at_wanted (j := 2) rfl ?_
      refine at_v (ov_int rfl rfl rfl rfl) rfl rfl rfl ?_
      refine at_v (ov_pick_f rfl rfl rfl) rfl rfl rfl ?_
      refine at_nil ?_
      refine at_normal ?_
      refine hK5 _ _ _ ?_
      refine at_cond_false (congrArg (fun b => some (Value.bool b)) (show _ = false from decide_eq_false (by omega))) ?_
      refine at_skip ?_
      refine at_normal ?_
      refine hK4 _ _ _ ?_
      refine at_seq_k (fun K6 hK6 => ?_)
      refine at_region ?_
      refine at_v (ov_assign rfl rfl) rfl rfl rfl ?_
      refine at_nil ?_
      refine at_normal ?_
      refine hK6 _ _ _ ?_
      refine at_seq_k (fun K7 hK7 => ?_)
      refine at_seq_k (fun K8 hK8 => ?_)
      refine at_region ?_
      refine at_v (ov_move rfl rfl) rfl rfl rfl ?_
      refine at_v (ov_len_slice rfl Try.underlying23 rfl) rfl rfl rfl ?_
      refine at_v (ov_move rfl rfl) rfl rfl rfl ?_
      refine at_nil ?_
      refine at_normal ?_
      refine hK8 _ _ _ ?_
      refine at_block ?_
      refine at_loopE [39, 40, 41, 13, 42, 43, 14, 44, 45, 46, 47, 48, 49, 50, 51, 52, 53, 16, 17, 54, 55, 56, 57, 58, 59, 19, 60, 61, 62, 63, 64, 65, 66, 67, 68, 69, 70, 71, 72, 73, 74, 75, 76, 77, 78, 79, 80, 81, 82, 83, 8, 84, 85, 86, 87, 11, 88, 89, 38] (ι := Nat × Int) (fun i => i.1 ≤ l.length ∧ i.2 ≤ (runP (initP room idle wait) (l.take i.1)).last) (fun i => [(38, .int .i64 (i.1 : Nat)), (11, .int .i64 i.2)]) (fun i m => setAt 0 (PO g (runP (initP room idle wait) (l.take i.1))) m) (fun i => l.length - i.1) (0, 0) ⟨Nat.zero_le _, Int.le_refl _⟩ ⟨rfl, rfl, trivial⟩ (fun _ s => s) ?_
      rintro ⟨k, gl⟩ ⟨hk, hgl⟩
      simp only [setAt] at hk hgl ⊢
      have hwk := wf_runK hw0 hl hok k
      have hrs : ∀ h : k < l.length, runP (initP room idle wait) (l.take (k + 1)) = doP (runP (initP room idle wait) (l.take k)) l[k] := fun h => runP_succ _ _ _ h
      generalize runP (initP room idle wait) (l.take k) = p at hwk hrs hgl ⊢
      have h6 := hwk.h6
      refine at_seq_k (fun K9 hK9 => ?_)
      refine at_region ?_
      refine at_v (ov_int rfl rfl rfl rfl) rfl rfl rfl ?_
      refine at_nil ?_
      refine at_normal ?_
      refine hK9 _ _ _ ?_
      refine at_seq_k (fun K10 hK10 => ?_)
      refine at_cond rfl (fun hc => ?_) (fun hc => ?_)
      · have hlt : k < l.length := by simpa using hc
        have hget : l[k]? = some l[k] := List.getElem?_eq_getElem hlt
        have hxok := hok l[k] (List.mem_of_getElem? hget)
        have hrs := hrs hlt
        generalize l[k] = x at hget hxok hrs
        have hw2 := hwk.do_ (by omega) x hxok
        have h62 := hw2.h6
        obtain ⟨hst1, hst2⟩ := ids_step hwk x
        refine at_skip ?_
        refine at_normal ?_
        refine hK10 _ _ _ ?_
        refine at_seq_k (fun K11 hK11 => ?_)
        refine at_block ?_
        refine at_seq_k (fun K12 hK12 => ?_)
        refine at_region ?_
        refine at_v (ov_indexRd (fun _ s => hr.up s) rfl Try.underlying23 rfl rfl rfl hget) rfl rfl rfl ?_
        refine at_v (ov_loadRdS (vs := [_, _, _, _, _, _]) (fun _ s => hr.up s) rfl rfl rfl hget rfl rfl) rfl rfl rfl ?_
        refine at_t (ot_allocA rfl Try.zeroValue30) rfl rfl rfl ?_
        rintro _ _ ⟨g0, rfl, rfl⟩
        refine at_t0 (ot_store (k := 0) rfl rfl rfl rfl rfl rfl rfl) rfl rfl ?_
        rintro _ _ ⟨rfl, rfl⟩
        simp only [setAt, splice, spliceL, Value.cells]
        refine at_nil ?_
        refine at_normal ?_
        refine hK12 _ _ _ ?_
        refine at_seq_k (fun K13 hK13 => ?_)
        refine at_region ?_
        refine at_v (ov_move rfl rfl) rfl rfl rfl ?_
        refine at_t (ot_call (ks := [1]) rfl rfl rfl Try.call11 rfl (T11a _ (by first | assumption | rfl | omega | decide | (simp; done) | (simp at *; omega))) rfl) rfl rfl rfl ?_
        rintro v0 _ ⟨m0, hp0, rfl⟩
        obtain ⟨A0, hp0⟩ := hp0
        obtain ⟨c0, hp0⟩ := hp0
        obtain ⟨rfl, rfl⟩ := hp0
        simp only [List.cons_append, List.nil_append, splice, spliceL]
        refine at_v (ov_assign rfl rfl) rfl rfl rfl ?_
        refine at_nil ?_
        refine at_normal ?_
        refine hK13 _ _ _ ?_
        refine at_seq_k (fun K14 hK14 => ?_)
        refine at_region ?_
        refine at_v (ov_move rfl rfl) rfl rfl rfl ?_
        refine at_v (ov_loadS (cs := [_, _, _, _, _, _]) rfl rfl rfl rfl (fun _ s => s.lds (k := 2) rfl ⟨rfl, rfl, rfl, rfl, rfl, rfl, trivial⟩)) rfl rfl rfl ?_
        refine at_t (ot_call (ks := [1]) rfl rfl rfl Try.call10 rfl (T10 _ _ (by first | assumption | rfl | omega | decide | (simp; done) | (simp at *; omega)) (by first | assumption | rfl | omega | decide | (simp; done) | (simp at *; omega))) rfl) rfl rfl rfl ?_
        rintro v0 _ ⟨m0, hp0, rfl⟩
        obtain ⟨rfl, rfl⟩ := hp0
        simp only [List.cons_append, List.nil_append, splice, spliceL]
        refine at_nil ?_
        refine at_normal ?_
        refine hK14 _ _ _ ?_
        refine at_seq_k (fun K15 hK15 => ?_)
        refine at_region ?_
        refine at_v (ov_move rfl rfl) rfl rfl rfl ?_
        refine at_t (ot_call (ks := [0]) rfl rfl rfl Try.call11 rfl (T11a _ (by first | assumption | rfl | omega | decide | (simp; done) | (simp at *; omega))) rfl) rfl rfl rfl ?_
        rintro v0 _ ⟨m0, hp0, rfl⟩
        obtain ⟨A1, hp0⟩ := hp0
        obtain ⟨c1, hp0⟩ := hp0
        obtain ⟨rfl, rfl⟩ := hp0
        simp only [List.cons_append, List.nil_append, splice, spliceL]
        refine at_v (ov_len_slice rfl Try.underlying34 rfl) rfl rfl rfl ?_
        refine at_v (ov_move rfl rfl) rfl rfl rfl ?_
        refine at_nil ?_
        refine at_normal ?_
        refine hK15 _ _ _ ?_
        refine at_block ?_
        refine at_loopE [51, 52, 53, 16, 17, 54, 55, 56, 57, 58, 59, 19, 60, 61, 62, 63, 64, 65, 66, 67, 68, 69, 70, 71, 72, 73, 74, 75, 76, 77, 78, 79, 80, 81, 82, 83, 8, 84, 85, 86, 87, 11, 88, 50] (ι := Nat × Int) (fun i => i.1 ≤ (doP p x).cs.length ∧ i.2 ≤ (doP p x).last ∧ ∀ y ∈ (doP p x).cs.drop i.1, p.last < y.1 → i.2 < y.1) (fun i => [(50, .int .i64 (i.1 : Nat)), (11, .int .i64 i.2)]) (fun i m => m) (fun i => (doP p x).cs.length - i.1) (0, gl) ⟨Nat.zero_le _, by simp only; omega, fun y _ h => by simp only; omega⟩ ⟨rfl, rfl, trivial⟩ (fun _ s => s) ?_
        rintro ⟨j, gj⟩ ⟨hj, hgj, hgd⟩
        simp only at hj hgj hgd ⊢
        refine at_seq_k (fun K16 hK16 => ?_)
        refine at_region ?_
        refine at_v (ov_int rfl rfl rfl rfl) rfl rfl rfl ?_
        refine at_nil ?_
        refine at_normal ?_
        refine hK16 _ _ _ ?_
        refine at_seq_k (fun K17 hK17 => ?_)
        refine at_cond rfl (fun hc => ?_) (fun hc => ?_)
        · have hjt : j < (doP p x).cs.length := by simpa using hc
          obtain ⟨y, hy⟩ : ∃ y, (doP p x).cs[j]? = some y := ⟨_, List.getElem?_eq_getElem hjt⟩
          refine at_skip ?_
          refine at_normal ?_
          refine hK17 _ _ _ ?_
          refine at_seq_k (fun K18 hK18 => ?_)
          refine at_block ?_
          refine at_seq_k (fun K19 hK19 => ?_)
          refine at_region ?_
          refine at_v (ov_indexRd (fun _ s => s.rd (k := 0) rfl) rfl Try.underlying34 rfl rfl rfl hy) rfl rfl rfl ?_
          refine at_v (ov_loadRdS (vs := [_, _, _, _, _, _]) (fun _ s => s.rd (k := 0) rfl) rfl rfl rfl hy rfl rfl) rfl rfl rfl ?_
          refine at_t (ot_allocA rfl Try.zeroValue39) rfl rfl rfl ?_
          rintro _ _ ⟨g1, rfl, rfl⟩
          refine at_t0 (ot_store (k := 0) rfl rfl rfl rfl rfl rfl rfl) rfl rfl ?_
          rintro _ _ ⟨rfl, rfl⟩
          simp only [setAt, splice, spliceL, Value.cells]
          refine at_nil ?_
          refine at_normal ?_
          refine hK19 _ _ _ ?_
          refine at_seq_k (fun K20 hK20 => ?_)
          refine at_region ?_
          refine at_v (ov_assign rfl rfl) rfl rfl rfl ?_
          refine at_nil ?_
          refine at_normal ?_
          refine hK20 _ _ _ ?_
          refine at_seq_k (fun K21 hK21 => ?_)
          refine at_seq_k (fun K22 hK22 => ?_)
          refine at_region ?_
          refine at_v (ov_move rfl rfl) rfl rfl rfl ?_
          refine at_v (ov_len_slice rfl Try.underlying34 rfl) rfl rfl rfl ?_
          refine at_v (ov_move rfl rfl) rfl rfl rfl ?_
          refine at_nil ?_
          refine at_normal ?_
          refine hK22 _ _ _ ?_
          refine at_block ?_
          refine at_loopE [57, 58, 59, 19, 60, 61, 62, 63, 64, 65, 66, 67, 68, 69, 70, 71, 72, 73, 74, 17, 75, 56] (fun m => m ≤ p.cs.length) (fun m => [(56, .int .i64 (m : Nat)), (17, .bool ((p.cs.take m).any (thereB y)))]) (fun i m => m) (fun m => p.cs.length - m) 0 (Nat.zero_le _) ⟨rfl, rfl, trivial⟩ (fun _ s => s) ?_
          intro m hm2
          refine at_seq_k (fun K23 hK23 => ?_)
          refine at_region ?_
          refine at_v (ov_int rfl rfl rfl rfl) rfl rfl rfl ?_
          refine at_nil ?_
          refine at_normal ?_
          refine hK23 _ _ _ ?_
          refine at_seq_k (fun K24 hK24 => ?_)
          refine at_cond rfl (fun hc => ?_) (fun hc => ?_)
          · have hmt : m < p.cs.length := by simpa using hc
            obtain ⟨z, hz⟩ : ∃ z, p.cs[m]? = some z := ⟨_, List.getElem?_eq_getElem hmt⟩
            have hany := any_take (thereB y) hz
            cases hi2 : (p.cs.take m).any (thereB y) with
            | true =>
              rw [hi2] at hany
              refine at_skip ?_
              refine at_normal ?_
              refine hK24 _ _ _ ?_
              refine at_seq_k (fun K25 hK25 => ?_)
              refine at_block ?_
              refine at_seq_k (fun K26 hK26 => ?_)
              refine at_region ?_
              refine at_v (ov_indexRd (fun _ s => s.rd (k := 3) rfl) rfl Try.underlying34 rfl rfl rfl hz) rfl rfl rfl ?_
              refine at_v (ov_loadRdS (vs := [_, _, _, _, _, _]) (fun _ s => s.rd (k := 3) rfl) rfl rfl rfl hz rfl rfl) rfl rfl rfl ?_
              refine at_t (ot_allocA rfl Try.zeroValue39) rfl rfl rfl ?_
              rintro _ _ ⟨g2, rfl, rfl⟩
              refine at_t0 (ot_store (k := 0) rfl rfl rfl rfl rfl rfl rfl) rfl rfl ?_
              rintro _ _ ⟨rfl, rfl⟩
              simp only [setAt, splice, spliceL, Value.cells]
              refine at_nil ?_
              refine at_normal ?_
              refine hK26 _ _ _ ?_
              refine at_region ?_
              refine at_v (ov_move rfl rfl) rfl rfl rfl ?_
              refine at_v (ov_move rfl rfl) rfl rfl rfl ?_
              refine at_unwanted (j := 1) rfl rfl rfl rfl ?_
              refine at_unwanted (j := 1) rfl rfl rfl rfl ?_
              refine at_unwanted (j := 1) rfl rfl rfl rfl ?_
              refine at_unwanted (j := 1) rfl rfl rfl rfl ?_
              refine at_unwanted (j := 1) rfl rfl rfl rfl ?_
              refine at_unwanted (j := 1) rfl rfl rfl rfl ?_
              refine at_unwantedN (j := 7) rfl rfl rfl ?_
              refine at_unwantedN (j := 7) rfl rfl rfl ?_
              refine at_unwantedN (j := 7) rfl rfl rfl ?_
              refine at_unwantedN (j := 7) rfl rfl rfl ?_
              refine at_unwantedN (j := 7) rfl rfl rfl ?_
              refine at_unwanted (j := 1) rfl rfl rfl rfl ?_
              refine at_v (ov_pick_t rfl rfl rfl) rfl rfl rfl ?_
              refine at_v (ov_assign rfl rfl) rfl rfl rfl ?_
              refine at_nil ?_
              refine at_inb_normal ?_
              refine at_normal ?_
              refine hK25 _ _ _ ?_
              refine at_region ?_
              refine at_v ((ov_int rfl rfl rfl rfl).eq (congrArg (Value.int .i64) (inK_i64 (by omega) (by omega)))) rfl rfl rfl ?_
              refine at_v (ov_move rfl rfl) rfl rfl rfl ?_
              refine at_nil ?_
              refine at_normal ?_
              refine at_roundF (m + 1) hmt (by omega) ⟨rfl, look_eq rfl (congrArg Value.bool (by rw [hany]; rfl)), trivial⟩ rfl ?_
              exact fun _ s => s.finEq (ks := [1, 1, 1, 1, 1]) (js := [0]) rfl rfl rfl
            | false =>
              rw [hi2] at hany
              by_cases hi3 : z.1 = y.1
              · refine at_skip ?_
                refine at_normal ?_
                refine hK24 _ _ _ ?_
                refine at_seq_k (fun K25 hK25 => ?_)
                refine at_block ?_
                refine at_seq_k (fun K26 hK26 => ?_)
                refine at_region ?_
                refine at_v (ov_indexRd (fun _ s => s.rd (k := 3) rfl) rfl Try.underlying34 rfl rfl rfl hz) rfl rfl rfl ?_
                refine at_v (ov_loadRdS (vs := [_, _, _, _, _, _]) (fun _ s => s.rd (k := 3) rfl) rfl rfl rfl hz rfl rfl) rfl rfl rfl ?_
                refine at_t (ot_allocA rfl Try.zeroValue39) rfl rfl rfl ?_
                rintro _ _ ⟨g2, rfl, rfl⟩
                refine at_t0 (ot_store (k := 0) rfl rfl rfl rfl rfl rfl rfl) rfl rfl ?_
                rintro _ _ ⟨rfl, rfl⟩
                simp only [setAt, splice, spliceL, Value.cells]
                refine at_nil ?_
                refine at_normal ?_
                refine hK26 _ _ _ ?_
                refine at_region ?_
                refine at_v (ov_move rfl rfl) rfl rfl rfl ?_
                refine at_v (ov_move rfl rfl) rfl rfl rfl ?_
                refine at_wanted (j := 1) rfl ?_
                refine at_v (ov_fieldAddr (k := 0) (r := 0) rfl rfl rfl rfl) rfl rfl rfl ?_
                refine at_wanted (j := 1) rfl ?_
                refine at_v (ov_load rfl rfl rfl (fun _ s => s.ld (k := 0) rfl rfl)) rfl rfl rfl ?_
                refine at_wanted (j := 1) rfl ?_
                refine at_v (ov_fieldAddr (k := 0) (r := 0) rfl rfl rfl rfl) rfl rfl rfl ?_
                refine at_wanted (j := 1) rfl ?_
                refine at_v (ov_load rfl rfl rfl (fun _ s => s.ld (k := 1) rfl rfl)) rfl rfl rfl ?_
                refine at_wanted (j := 1) rfl ?_
                refine at_v (ov_int rfl rfl rfl rfl) rfl rfl rfl ?_
                refine at_wanted (j := 1) rfl ?_
                refine at_v (ov_move rfl rfl) rfl rfl rfl ?_
                refine at_reval 67 (.bool true) rfl (congrArg Value.bool (decide_eq_true (by omega))) ?_
                refine at_wanted (j := 7) rfl ?_
                refine at_v (ov_fieldAddr (k := 3) (r := 3) rfl rfl rfl rfl) rfl rfl rfl ?_
                refine at_wanted (j := 7) rfl ?_
                refine at_v (ov_load rfl rfl rfl (fun _ s => s.ld (k := 0) rfl rfl)) rfl rfl rfl ?_
                refine at_wanted (j := 7) rfl ?_
                refine at_v (ov_fieldAddr (k := 3) (r := 3) rfl rfl rfl rfl) rfl rfl rfl ?_
                refine at_wanted (j := 7) rfl ?_
                refine at_v (ov_load rfl rfl rfl (fun _ s => s.ld (k := 1) rfl rfl)) rfl rfl rfl ?_
                refine at_wanted (j := 7) rfl ?_
                refine at_v (ov_int rfl rfl rfl rfl) rfl rfl rfl ?_
                refine at_wanted (j := 1) rfl ?_
                refine at_v (ov_pick_t rfl rfl rfl) rfl rfl rfl ?_
                refine at_v (ov_pick_f rfl rfl rfl) rfl rfl rfl ?_
                refine at_v (ov_assign rfl rfl) rfl rfl rfl ?_
                refine at_nil ?_
                refine at_inb_normal ?_
                refine at_normal ?_
                refine hK25 _ _ _ ?_
                refine at_region ?_
                refine at_v ((ov_int rfl rfl rfl rfl).eq (congrArg (Value.int .i64) (inK_i64 (by omega) (by omega)))) rfl rfl rfl ?_
                refine at_v (ov_move rfl rfl) rfl rfl rfl ?_
                refine at_nil ?_
                refine at_normal ?_
                refine at_roundF (m + 1) hmt (by omega) ⟨rfl, look_eq rfl (congrArg Value.bool (by rw [hany]; simp [thereB, hi3])), trivial⟩ rfl ?_
                exact fun _ s => s.finEq (ks := [1, 1, 1, 1, 1]) (js := [0]) rfl rfl rfl
              · refine at_skip ?_
                refine at_normal ?_
                refine hK24 _ _ _ ?_
                refine at_seq_k (fun K25 hK25 => ?_)
                refine at_block ?_
                refine at_seq_k (fun K26 hK26 => ?_)
                refine at_region ?_
                refine at_v (ov_indexRd (fun _ s => s.rd (k := 3) rfl) rfl Try.underlying34 rfl rfl rfl hz) rfl rfl rfl ?_
                refine at_v (ov_loadRdS (vs := [_, _, _, _, _, _]) (fun _ s => s.rd (k := 3) rfl) rfl rfl rfl hz rfl rfl) rfl rfl rfl ?_
                refine at_t (ot_allocA rfl Try.zeroValue39) rfl rfl rfl ?_
                rintro _ _ ⟨g2, rfl, rfl⟩
                refine at_t0 (ot_store (k := 0) rfl rfl rfl rfl rfl rfl rfl) rfl rfl ?_
                rintro _ _ ⟨rfl, rfl⟩
                simp only [setAt, splice, spliceL, Value.cells]
                refine at_nil ?_
                refine at_normal ?_
                refine hK26 _ _ _ ?_
                refine at_region ?_
                refine at_v (ov_move rfl rfl) rfl rfl rfl ?_
                refine at_v (ov_move rfl rfl) rfl rfl rfl ?_
                refine at_wanted (j := 1) rfl ?_
                refine at_v (ov_fieldAddr (k := 0) (r := 0) rfl rfl rfl rfl) rfl rfl rfl ?_
                refine at_wanted (j := 1) rfl ?_
                refine at_v (ov_load rfl rfl rfl (fun _ s => s.ld (k := 0) rfl rfl)) rfl rfl rfl ?_
                refine at_wanted (j := 1) rfl ?_
                refine at_v (ov_fieldAddr (k := 0) (r := 0) rfl rfl rfl rfl) rfl rfl rfl ?_
                refine at_wanted (j := 1) rfl ?_
                refine at_v (ov_load rfl rfl rfl (fun _ s => s.ld (k := 1) rfl rfl)) rfl rfl rfl ?_
                refine at_wanted (j := 1) rfl ?_
                refine at_v (ov_int rfl rfl rfl rfl) rfl rfl rfl ?_
                refine at_wanted (j := 1) rfl ?_
                refine at_v (ov_move rfl rfl) rfl rfl rfl ?_
                refine at_reval 67 (.bool false) rfl (congrArg Value.bool (decide_eq_false (by omega))) ?_
                refine at_unwanted (j := 7) rfl rfl rfl rfl ?_
                refine at_unwanted (j := 7) rfl rfl rfl rfl ?_
                refine at_unwanted (j := 7) rfl rfl rfl rfl ?_
                refine at_unwanted (j := 7) rfl rfl rfl rfl ?_
                refine at_unwanted (j := 7) rfl rfl rfl rfl ?_
                refine at_wanted (j := 1) rfl ?_
                refine at_v (ov_pick_f rfl rfl rfl) rfl rfl rfl ?_
                refine at_v (ov_pick_f rfl rfl rfl) rfl rfl rfl ?_
                refine at_v (ov_assign rfl rfl) rfl rfl rfl ?_
                refine at_nil ?_
                refine at_inb_normal ?_
                refine at_normal ?_
                refine hK25 _ _ _ ?_
                refine at_region ?_
                refine at_v ((ov_int rfl rfl rfl rfl).eq (congrArg (Value.int .i64) (inK_i64 (by omega) (by omega)))) rfl rfl rfl ?_
                refine at_v (ov_move rfl rfl) rfl rfl rfl ?_
                refine at_nil ?_
                refine at_normal ?_
                refine at_roundF (m + 1) hmt (by omega) ⟨rfl, look_eq rfl (congrArg Value.bool (by rw [hany]; simp [thereB, hi3])), trivial⟩ rfl ?_
                exact fun _ s => s.finEq (ks := [1, 1, 1, 1, 1]) (js := [0]) rfl rfl rfl
          · have hm3 : m = p.cs.length := by
              have : ¬ m < p.cs.length := by simpa using hc
              omega
            subst hm3
            rw [List.take_length]
            have hsrt : ∀ y' ∈ (doP p x).cs.drop (j + 1), y.1 < y'.1 := by
              intro y' hy'
              obtain ⟨q, hq⟩ := List.getElem?_of_mem hy'
              rw [List.getElem?_drop] at hq
              obtain ⟨h1, h2⟩ := List.getElem?_eq_some_iff.1 hq
              obtain ⟨h3, h4⟩ := List.getElem?_eq_some_iff.1 hy
              have := List.pairwise_iff_getElem.1 hw2.pw j (j + 1 + q) h3 h1 (by omega)
              rw [h2, h4] at this
              exact this.1
            have hyl := (hw2.ids y (List.mem_of_getElem? hy)).2
            have hnext : ∀ y' ∈ (doP p x).cs.drop (j + 1), p.last < y'.1 → max gj y.1 < y'.1 := by
              intro y' hy' h
              have h1 := hsrt y' hy'
              have h2 := hgd y' (by rw [List.drop_eq_getElem_cons hjt]; exact List.mem_cons_of_mem _ hy') h
              omega
            cases hi2 : p.cs.any (thereB y) with
            | true =>
              refine at_exit ?_
              refine at_then_exit ?_
              refine at_then_exit ?_
              refine at_exit_eq ?_
              refine at_normal ?_
              refine hK21 _ _ _ ?_
              refine at_seq_k (fun K25 hK25 => ?_)
              refine at_seq_k (fun K26 hK26 => ?_)
              refine at_region ?_
              refine at_v (ov_move rfl rfl) rfl rfl rfl ?_
              refine at_v (ov_not rfl rfl) rfl rfl rfl ?_
              refine at_v (ov_move rfl rfl) rfl rfl rfl ?_
              refine at_unwanted (j := 2) rfl rfl rfl rfl ?_
              refine at_unwanted (j := 2) rfl rfl rfl rfl ?_
              refine at_unwanted (j := 2) rfl rfl rfl rfl ?_
              refine at_unwanted (j := 2) rfl rfl rfl rfl ?_
              refine at_v (ov_pick_f rfl rfl rfl) rfl rfl rfl ?_
              refine at_nil ?_
              refine at_normal ?_
              refine hK26 _ _ _ ?_
              refine at_cond_false rfl ?_
              refine at_skip ?_
              refine at_normal ?_
              refine hK25 _ _ _ ?_
              refine at_region ?_
              refine at_v (ov_move rfl rfl) rfl rfl rfl ?_
              refine at_v (ov_fieldAddr (k := 0) (r := 0) rfl rfl rfl rfl) rfl rfl rfl ?_
              refine at_v (ov_load rfl rfl rfl (fun _ s => s.ld (k := 0) rfl rfl)) rfl rfl rfl ?_
              refine at_v (ov_max rfl rfl rfl) rfl rfl rfl ?_
              refine at_v (ov_assign rfl rfl) rfl rfl rfl ?_
              refine at_nil ?_
              refine at_inb_normal ?_
              refine at_normal ?_
              refine hK18 _ _ _ ?_
              refine at_region ?_
              refine at_v ((ov_int rfl rfl rfl rfl).eq (congrArg (Value.int .i64) (inK_i64 (by omega) (by omega)))) rfl rfl rfl ?_
              refine at_v (ov_move rfl rfl) rfl rfl rfl ?_
              refine at_nil ?_
              refine at_normal ?_
              refine at_roundF (j + 1, max gj y.1) ⟨hjt, by simp only; omega, hnext⟩ (by simp only; omega) ⟨rfl, rfl, trivial⟩ rfl ?_
              exact fun _ s => s.finEq (ks := [1, 1, 1, 1]) (js := [0]) rfl rfl rfl
            | false =>
              have hi3 : ¬ y.1 ≤ gj := by
                have h1 := (hst2 y (List.mem_of_getElem? hy)).resolve_left (there_no hi2)
                have := hgd y (by rw [List.drop_eq_getElem_cons hjt]; rw [(List.getElem?_eq_some_iff.1 hy).2]; exact List.mem_cons_self) h1
                omega
              refine at_exit ?_
              refine at_then_exit ?_
              refine at_then_exit ?_
              refine at_exit_eq ?_
              refine at_normal ?_
              refine hK21 _ _ _ ?_
              refine at_seq_k (fun K25 hK25 => ?_)
              refine at_seq_k (fun K26 hK26 => ?_)
              refine at_region ?_
              refine at_v (ov_move rfl rfl) rfl rfl rfl ?_
              refine at_v (ov_not rfl rfl) rfl rfl rfl ?_
              refine at_v (ov_move rfl rfl) rfl rfl rfl ?_
              refine at_wanted (j := 2) rfl ?_
              refine at_v (ov_fieldAddr (k := 0) (r := 0) rfl rfl rfl rfl) rfl rfl rfl ?_
              refine at_wanted (j := 2) rfl ?_
              refine at_v (ov_load rfl rfl rfl (fun _ s => s.ld (k := 0) rfl rfl)) rfl rfl rfl ?_
              refine at_wanted (j := 2) rfl ?_
              refine at_v (ov_move rfl rfl) rfl rfl rfl ?_
              refine at_wanted (j := 2) rfl ?_
              refine at_v (ov_int rfl rfl rfl rfl) rfl rfl rfl ?_
              refine at_v (ov_pick_t rfl rfl rfl) rfl rfl rfl ?_
              refine at_nil ?_
              refine at_normal ?_
              refine hK26 _ _ _ ?_
              refine at_cond_false (congrArg (fun b => some (Value.bool b)) (show _ = false from decide_eq_false (by omega))) ?_
              refine at_skip ?_
              refine at_normal ?_
              refine hK25 _ _ _ ?_
              refine at_region ?_
              refine at_v (ov_move rfl rfl) rfl rfl rfl ?_
              refine at_v (ov_fieldAddr (k := 0) (r := 0) rfl rfl rfl rfl) rfl rfl rfl ?_
              refine at_v (ov_load rfl rfl rfl (fun _ s => s.ld (k := 0) rfl rfl)) rfl rfl rfl ?_
              refine at_v (ov_max rfl rfl rfl) rfl rfl rfl ?_
              refine at_v (ov_assign rfl rfl) rfl rfl rfl ?_
              refine at_nil ?_
              refine at_inb_normal ?_
              refine at_normal ?_
              refine hK18 _ _ _ ?_
              refine at_region ?_
              refine at_v ((ov_int rfl rfl rfl rfl).eq (congrArg (Value.int .i64) (inK_i64 (by omega) (by omega)))) rfl rfl rfl ?_
              refine at_v (ov_move rfl rfl) rfl rfl rfl ?_
              refine at_nil ?_
              refine at_normal ?_
              refine at_roundF (j + 1, max gj y.1) ⟨hjt, by simp only; omega, hnext⟩ (by simp only; omega) ⟨rfl, rfl, trivial⟩ rfl ?_
              exact fun _ s => s.finEq (ks := [1, 1, 1, 1]) (js := [0]) rfl rfl rfl
        · refine at_exit ?_
          refine at_then_exit ?_
          refine at_then_exit ?_
          refine at_exit_eq ?_
          refine at_inb_normal ?_
          refine at_normal ?_
          refine hK11 _ _ _ ?_
          refine at_region ?_
          refine at_v ((ov_int rfl rfl rfl rfl).eq (congrArg (Value.int .i64) (inK_i64 (by omega) (by omega)))) rfl rfl rfl ?_
          refine at_v (ov_move rfl rfl) rfl rfl rfl ?_
          refine at_nil ?_
          refine at_normal ?_
          refine at_roundF (k + 1, gj) ⟨hlt, by simp only; rw [hrs]; exact hgj⟩ (by simp only; omega) ⟨rfl, rfl, trivial⟩ rfl ?_
          rw [hrs]
          exact fun _ s => s.finEq (ks := [1]) (js := [0, 0, 0]) rfl rfl rfl
      · refine at_exit ?_
        refine at_then_exit ?_
        refine at_then_exit ?_
        refine at_exit_eq ?_
        refine at_normal ?_
        refine hK7 _ _ _ ?_
        refine at_seq_k (fun K11 hK11 => ?_)
        refine at_region ?_
        refine at_v (ov_assign rfl rfl) rfl rfl rfl ?_
        refine at_nil ?_
        refine at_normal ?_
        refine hK11 _ _ _ ?_
        refine at_ret ?_
        refine at_end ?_
        refine at_fin (rsV rfl (res_tmp rfl)) ?_
        refine ⟨_, ⟨rfl, rfl⟩, ?_⟩
        exact fun _ s => s.finEq (ks := []) (js := [0]) rfl rfl rfl
