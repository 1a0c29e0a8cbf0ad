/- PoolReaps, walked. -/
import Derived.Test.YtlkcccihkfggmaaProg
import Derived.Test.YtlkcccihkfggmaaPool6
import Derived.Test.YtlkcccihkfggmaaSLExt
import Derived.KernelRfl
set_option linter.unusedSimpArgs false
set_option linter.unusedVariables false
set_option maxRecDepth 100000
set_option maxHeartbeats 4000000
namespace Go.Proofs.Ytlkcccihkfggmaa
open Go Go.Proofs.Ytlkcccihkfggmaa.SL Go.RowKit
def runP (p : PM) (l : List PA) : PM := l.foldl doP p
theorem runP_succ (p : PM) (l : List PA) (k : Nat) (h : k < l.length) : runP p (l.take (k + 1)) = doP (runP p (l.take k)) l[k] := by
  unfold runP
  rw [List.take_succ_eq_append_getElem h, List.foldl_append]
  rfl
def initP (most idle wm : Int) : PM := ⟨most, idle, wm, 0, [], []⟩
theorem wf_init {most idle wm : Int} (h : 0 ≤ wm ∧ wm ≤ 12 ∧ 1 ≤ most ∧ most ≤ 6) : Wf 0 (initP most idle wm) where
  hn := by omega
  most_ := ⟨h.2.2.1, h.2.2.2⟩
  wm_ := ⟨h.1, h.2.1⟩
  last_ := by simp [initP]
  len := by simp [initP]; omega
  pw := by simp [initP]
  ids := by simp [initP]
  con := by simp [initP]
  since := by simp [initP]
  lenL := by simp [initP]; omega
  nod := by simp [initP]
  pos := by simp [initP]
theorem wf_run {n : Nat} {p : PM} (h : Wf n p) : ∀ (l : List PA), n + l.length ≤ 400 → (∀ x ∈ l, x.ok) → Wf (n + l.length) (runP p l) := by
  intro l
  induction l generalizing n p with
  | nil => intro _ _; exact h
  | cons x r ih =>
    intro hl hx
    simp only [List.length_cons] at hl ⊢
    have h1 := h.do_ (by omega) x (hx x (by simp))
    have h2 := ih h1 (by omega) fun y hy => hx y (by simp [hy])
    rw [show n + (r.length + 1) = n + 1 + r.length by omega]
    exact h2
theorem wf_runK {p : PM} (h : Wf 0 p) {l : List PA} (hl : l.length ≤ 100) (hx : ∀ x ∈ l, x.ok) (k : Nat) : Wf 100 (runP p (l.take k)) := by
  have hlen : (l.take k).length ≤ 100 := by rw [List.length_take]; omega
  exact (wf_run h (l.take k) (by omega) fun x hm => hx x (List.mem_of_mem_take hm)).mono (by omega) (by omega)
theorem do_most (p : PM) (x : PA) : (doP p x).most = p.most ∧ (doP p x).idle = p.idle ∧ (doP p x).wm = p.wm := by
  unfold doP
  (repeat' split) <;> exact ⟨rfl, rfl, rfl⟩
theorem run_most (p : PM) (l : List PA) : (runP p l).most = p.most ∧ (runP p l).idle = p.idle ∧ (runP p l).wm = p.wm := by
  induction l generalizing p with
  | nil => exact ⟨rfl, rfl, rfl⟩
  | cons x r ih =>
    have h1 := ih (doP p x)
    have h2 := do_most p x
    show (runP (doP p x) r).most = _ ∧ (runP (doP p x) r).idle = _ ∧ (runP (doP p x) r).wm = _
    rw [h1.1, h1.2.1, h1.2.2]
    exact h2
theorem T11a (w0 : World) {g n : Nat} {p : PM} (hw : Wf n p) :
    Tri Try.prog w0 11 [ptrTo g] [PO g p] fun v m => ∃ A c, v = .slice A p.cs.length c ∧ m = [Row infoE 39 6 A c p.cs, PO g p] :=
  T11 w0 hw.sorted hw.h6 hw.open_
theorem reap_eq {n : Nat} {p : PM} (h : Wf n p) (now : Int) : midL p.cs (reapU p.idle now) p.cs.length = p.cs.filter fun x => !reapB p.idle now x := by
  rw [midL_upd]
  unfold upd alive
  rw [List.filter_map]
  have e1 : p.cs.filter ((fun x : XM => !decide (x.2.1.state = 4)) ∘ fun x => (x.1, reapU p.idle now x)) = p.cs.filter fun x => !reapB p.idle now x := by
    refine List.filter_congr fun x hx => ?_
    show (!decide ((reapU p.idle now x).1.state = 4)) = !reapB p.idle now x
    by_cases hb : reapB p.idle now x = true
    · have e2 : (reapU p.idle now x).1 = x.2.1.drain := by unfold reapU; rw [if_pos hb]
      have h1 : x.2.1.state = 1 := by simp only [reapB, decide_eq_true_eq] at hb; exact hb.1
      have ho : x.2.1.o = 0 := by
        unfold CM.state at h1
        have := (h.con x hx).1
        by_cases h0 : x.2.1.o = 0
        · exact h0
        · rw [if_neg (by omega), if_neg h0] at h1
          split at h1 <;> omega
      have hf : x.2.1.f = 0 := by
        apply Decidable.byContradiction
        intro hf
        have := (h.con x hx).2.1 hf
        omega
      have : x.2.1.drain.state = 4 := by
        unfold CM.drain
        rw [if_neg (by simp [hf])]
        exact good_close
      simp only [e2, this, hb]
      rfl
    · have e2 : (reapU p.idle now x).1 = x.2.1 := by unfold reapU; rw [if_neg hb]
      simp [e2, h.open_ x hx, hb]
  rw [e1]
  rw [show (p.cs.filter fun x => !reapB p.idle now x).map (fun x : XM => (x.1, reapU p.idle now x)) = (p.cs.filter fun x => !reapB p.idle now x).map (fun x => x) from List.map_congr_left fun x hx => by
    have := (List.mem_filter.1 hx).2
    have hb : reapB p.idle now x = false := by simpa using this
    unfold reapU
    rw [if_neg (by simp [hb])]]
  simp
def reapP (p : PM) (now : Int) : PM := { p with cs := p.cs.filter fun x => !reapB p.idle now x }
theorem reap_zero (p : PM) (now : Int) : reapN p.idle now (reapP p now).cs = 0 := by
  unfold reapN reapP
  rw [List.countP_eq_zero]
  intro x hx
  have := (List.mem_filter.1 hx).2
  simpa using this
theorem reapP_wf {n : Nat} {p : PM} (h : Wf n p) (now : Int) : Wf n (reapP p now) := by
  have := h.upd (reapU p.idle now) (good_drainU h fun y => reapB p.idle now y = true)
  rw [← midL_upd, reap_eq h] at this
  exact this
theorem reap_tri (w0 : World) {g n : Nat} {p : PM} {now : Int} (hw : Wf n p) (hnow : U64 now) : Tri Try.prog w0 16 [ptrTo g, .int .u64 now] [PO g p] fun v m => v = .int .i64 (reapN p.idle now p.cs : Nat) ∧ m = [PO g (reapP p now)] :=
  (T16 w0 now hw.sorted hw.h6 hnow hw.since).post fun v m h => by rw [reap_eq hw] at h; exact h
theorem T7 (w0 : World) (room wait idle now : Int) (A : Option Addr) (c : Nat) (l : List PA) (hr : Rd paE w0 6 A l) (hm : l.length ≤ 9223372036854775807) (hok : ∀ x ∈ l, x.ok) (hidle : U64 idle) (hnow : U64 now) :
    Tri Try.prog w0 7 [.int .i64 room, .int .i64 wait, .int .u64 idle, .slice A l.length c, .int .u64 now] [] fun v m => v = .bool true ∧ m = [] := by
  refine tri_of Try.func7 rfl rfl fun F => ?_
  simp only [Try.ntmps7, argEnv, List.cons_append, List.nil_append]
  refine at_seq_k (fun K0 hK0 => ?_)
  refine at_region ?_
  refine at_v (ov_assign rfl rfl) rfl rfl rfl ?_
  refine at_nil ?_
  refine at_normal ?_
  refine hK0 _ _ _ ?_
  refine at_seq_k (fun K1 hK1 => ?_)
  refine at_seq_k (fun K2 hK2 => ?_)
  refine at_region ?_
  refine at_t (ot_call (ks := []) rfl rfl rfl Try.call8 rfl (T8 _) rfl) rfl rfl rfl ?_
  rintro v0 _ ⟨m0, hp0, rfl⟩
  obtain ⟨rfl, rfl⟩ := hp0
  simp only [List.cons_append, List.nil_append, splice, spliceL]
  refine at_v (ov_not rfl rfl) rfl rfl rfl ?_
  refine at_nil ?_
  refine at_normal ?_
  refine hK2 _ _ _ ?_
  refine at_cond_false rfl ?_
  refine at_skip ?_
  refine at_normal ?_
  refine hK1 _ _ _ ?_
  refine at_seq_k (fun K3 hK3 => ?_)
  refine at_region ?_
  refine at_v (ov_move rfl rfl) rfl rfl rfl ?_
  refine at_v (ov_move rfl rfl) rfl rfl rfl ?_
  refine at_v (ov_move rfl rfl) rfl rfl rfl ?_
  refine at_t (ot_call (ks := []) rfl rfl rfl Try.call9 rfl (T9 _ _ _ _) rfl) rfl rfl rfl ?_
  rintro v0 _ ⟨m0, hp0, rfl⟩
  obtain ⟨b0, hp0⟩ := hp0
  obtain ⟨hq0, hp0⟩ := hp0
  obtain ⟨hq1, hp0⟩ := hp0
  cases b0 with
  | false =>
    obtain ⟨rfl, rfl⟩ := hq1 rfl
    simp only [List.nil_append]
    refine at_v (ov_move rfl rfl) rfl rfl rfl ?_
    refine at_v (ov_extract rfl rfl rfl) rfl rfl rfl ?_
    refine at_v (ov_extract rfl rfl rfl) rfl rfl rfl ?_
    refine at_v (ov_assign rfl rfl) rfl rfl rfl ?_
    refine at_v (ov_assign rfl rfl) rfl rfl rfl ?_
    refine at_nil ?_
    refine at_normal ?_
    refine hK3 _ _ _ ?_
    refine at_seq_k (fun K4 hK4 => ?_)
    refine at_seq_k (fun K5 hK5 => ?_)
    refine at_region ?_
    refine at_v (ov_move rfl rfl) rfl rfl rfl ?_
    refine at_v (ov_ptr_nil (q := none) rfl Try.underlying25 rfl rfl) rfl rfl rfl ?_
    refine at_v (ov_move rfl rfl) rfl rfl rfl ?_
    refine at_unwanted (j := 2) rfl rfl rfl rfl ?_
    refine at_unwanted (j := 2) rfl rfl rfl rfl ?_
    refine at_unwanted (j := 2) rfl rfl rfl rfl ?_
    refine at_v (ov_pick_t rfl rfl rfl) rfl rfl rfl ?_
    refine at_nil ?_
    refine at_normal ?_
    refine hK5 _ _ _ ?_
    refine at_cond_true rfl ?_
    refine at_seq_k (fun K6 hK6 => ?_)
    refine at_region ?_
    refine at_v (ov_assign rfl rfl) rfl rfl rfl ?_
    refine at_nil ?_
    refine at_normal ?_
    refine hK6 _ _ _ ?_
    refine at_ret ?_
    refine at_then_ret ?_
    refine at_end ?_
    refine at_fin (rsV rfl (res_tmp rfl)) ?_
    refine ⟨_, ⟨rfl, rfl⟩, ?_⟩
    exact fun _ s => s.finEq (ks := []) (js := []) rfl rfl rfl
  | true =>
    obtain ⟨g, rfl, rfl⟩ := hp0 rfl
    have hb : 0 ≤ wait ∧ wait ≤ 12 ∧ 1 ≤ room ∧ room ≤ 6 ∧ idle ≠ 0 := by simpa using hq0
    clear hq0 hq1 hp0
    have hw0 : Wf 0 (initP room idle wait) := wf_init ⟨hb.1, hb.2.1, hb.2.2.1, hb.2.2.2.1⟩
    simp only [List.cons_append, List.nil_append]
    by_cases hi1 : (l.length : Int) > 100
    · refine at_v (ov_move rfl rfl) rfl rfl rfl ?_
      refine at_v (ov_extract rfl rfl rfl) rfl rfl rfl ?_
      refine at_v (ov_extract rfl rfl rfl) rfl rfl rfl ?_
      refine at_v (ov_assign rfl rfl) rfl rfl rfl ?_
      refine at_v (ov_assign rfl rfl) rfl rfl rfl ?_
      refine at_nil ?_
      refine at_normal ?_
      refine hK3 _ _ _ ?_
      refine at_seq_k (fun K4 hK4 => ?_)
      refine at_seq_k (fun K5 hK5 => ?_)
      refine at_region ?_
      refine at_v (ov_move rfl rfl) rfl rfl rfl ?_
      refine at_v (ov_ptr_nil (q := none) rfl Try.underlying25 rfl rfl) rfl rfl rfl ?_
      refine at_v (ov_move rfl rfl) rfl rfl rfl ?_
      refine at_wanted (j := 2) rfl ?_
      refine at_v (ov_move rfl rfl) rfl rfl rfl ?_
      refine at_wanted (j := 2) rfl ?_
      refine at_v (ov_len_slice rfl Try.underlying23 rfl) rfl rfl rfl ?_
      refine at_wanted (j := 2) rfl ?_
      refine at_v (ov_int rfl rfl rfl rfl) rfl rfl rfl ?_
      refine at_v (ov_pick_f rfl rfl rfl) rfl rfl rfl ?_
      refine at_nil ?_
      refine at_normal ?_
      refine hK5 _ _ _ ?_
      refine at_cond_true (congrArg (fun b => some (Value.bool b)) (show _ = true from decide_eq_true (by omega))) ?_
      refine at_seq_k (fun K6 hK6 => ?_)
      refine at_region ?_
      refine at_v (ov_assign rfl rfl) rfl rfl rfl ?_
      refine at_nil ?_
      refine at_normal ?_
      refine hK6 _ _ _ ?_
      refine at_ret ?_
      refine at_then_ret ?_
      refine at_end ?_
      refine at_fin (rsV rfl (res_tmp rfl)) ?_
      refine ⟨_, ⟨rfl, rfl⟩, ?_⟩
      exact fun _ s => s.finEq (ks := []) (js := [0]) rfl rfl rfl
    · have hl : l.length ≤ 100 := by omega
      refine at_v (ov_move rfl rfl) rfl rfl rfl ?_
      refine at_v (ov_extract rfl rfl rfl) rfl rfl rfl ?_
      refine at_v (ov_extract rfl rfl rfl) rfl rfl rfl ?_
      refine at_v (ov_assign rfl rfl) rfl rfl rfl ?_
      refine at_v (ov_assign rfl rfl) rfl rfl rfl ?_
      refine at_nil ?_
      refine at_normal ?_
      refine hK3 _ _ _ ?_
      refine at_seq_k (fun K4 hK4 => ?_)
      refine at_seq_k (fun K5 hK5 => ?_)
      refine at_region ?_
      refine at_v (ov_move rfl rfl) rfl rfl rfl ?_
      refine at_v (ov_ptr_nil (q := none) rfl Try.underlying25 rfl rfl) rfl rfl rfl ?_
      refine at_v (ov_move rfl rfl) rfl rfl rfl ?_
      refine at_wanted (j := 2) rfl ?_
      refine at_v (ov_move rfl rfl) rfl rfl rfl ?_
      refine at_wanted (j := 2) rfl ?_
      refine at_v (ov_len_slice rfl Try.underlying23 rfl) rfl rfl rfl ?_
      refine at_wanted (j := 2) rfl ?_
      refine at_v (ov_int rfl rfl rfl rfl) rfl rfl rfl ?_
      refine at_v (ov_pick_f rfl rfl rfl) rfl rfl rfl ?_
      refine at_nil ?_
      refine at_normal ?_
      refine hK5 _ _ _ ?_
      refine at_cond_false (congrArg (fun b => some (Value.bool b)) (show _ = false from decide_eq_false (by omega))) ?_
      refine at_skip ?_
      refine at_normal ?_
      refine hK4 _ _ _ ?_
      refine at_seq_k (fun K6 hK6 => ?_)
      refine at_seq_k (fun K7 hK7 => ?_)
      refine at_region ?_
      refine at_v (ov_move rfl rfl) rfl rfl rfl ?_
      refine at_v (ov_len_slice rfl Try.underlying23 rfl) rfl rfl rfl ?_
      refine at_v (ov_move rfl rfl) rfl rfl rfl ?_
      refine at_nil ?_
      refine at_normal ?_
      refine hK7 _ _ _ ?_
      refine at_block ?_
      refine at_loopE [39, 40, 41, 14, 42, 43, 44, 45, 38] (fun k => k ≤ l.length) (fun k => [(38, .int .i64 (k : Nat))]) (fun k m => setAt 0 (PO g (runP (initP room idle wait) (l.take k))) m) (fun k => l.length - k) 0 (Nat.zero_le _) ⟨rfl, trivial⟩ (fun _ s => s) ?_
      intro k hk
      simp only [setAt]
      have hwk := wf_runK hw0 hl hok k
      refine at_seq_k (fun K8 hK8 => ?_)
      refine at_region ?_
      refine at_v (ov_int rfl rfl rfl rfl) rfl rfl rfl ?_
      refine at_nil ?_
      refine at_normal ?_
      refine hK8 _ _ _ ?_
      refine at_seq_k (fun K9 hK9 => ?_)
      refine at_cond rfl (fun hc => ?_) (fun hc => ?_)
      · have hlt : k < l.length := by simpa using hc
        have hget : l[k]? = some l[k] := List.getElem?_eq_getElem hlt
        have hxok := hok l[k] (List.mem_of_getElem? hget)
        refine at_skip ?_
        refine at_normal ?_
        refine hK9 _ _ _ ?_
        refine at_seq_k (fun K10 hK10 => ?_)
        refine at_block ?_
        refine at_seq_k (fun K11 hK11 => ?_)
        refine at_region ?_
        refine at_v (ov_indexRd (fun _ s => hr.up s) rfl Try.underlying23 rfl rfl rfl hget) rfl rfl rfl ?_
        refine at_v (ov_loadRdS (vs := [_, _, _, _, _, _]) (fun _ s => hr.up s) rfl rfl rfl hget rfl rfl) rfl rfl rfl ?_
        refine at_t (ot_allocA rfl Try.zeroValue30) rfl rfl rfl ?_
        rintro _ _ ⟨g0, rfl, rfl⟩
        refine at_t0 (ot_store (k := 0) rfl rfl rfl rfl rfl rfl rfl) rfl rfl ?_
        rintro _ _ ⟨rfl, rfl⟩
        simp only [setAt, splice, spliceL, Value.cells]
        refine at_nil ?_
        refine at_normal ?_
        refine hK11 _ _ _ ?_
        refine at_region ?_
        refine at_v (ov_move rfl rfl) rfl rfl rfl ?_
        refine at_v (ov_loadS (cs := [_, _, _, _, _, _]) rfl rfl rfl rfl (fun _ s => s.lds (k := 0) rfl ⟨rfl, rfl, rfl, rfl, rfl, rfl, trivial⟩)) rfl rfl rfl ?_
        refine at_t (ot_call (ks := [1]) rfl rfl rfl Try.call10 rfl (T10 _ _ (by first | assumption | rfl | omega | decide | (simp; done) | (simp at *; omega)) (by first | assumption | rfl | omega | decide | (simp; done) | (simp at *; omega))) rfl) rfl rfl rfl ?_
        rintro v0 _ ⟨m0, hp0, rfl⟩
        obtain ⟨rfl, rfl⟩ := hp0
        simp only [List.cons_append, List.nil_append, splice, spliceL]
        refine at_nil ?_
        refine at_inb_normal ?_
        refine at_normal ?_
        refine hK10 _ _ _ ?_
        refine at_region ?_
        refine at_v ((ov_int rfl rfl rfl rfl).eq (congrArg (Value.int .i64) (inK_i64 (by omega) (by omega)))) rfl rfl rfl ?_
        refine at_v (ov_move rfl rfl) rfl rfl rfl ?_
        refine at_nil ?_
        refine at_normal ?_
        refine at_roundF (k + 1) hlt (by omega) ⟨rfl, trivial⟩ rfl ?_
        rw [runP_succ _ _ _ hlt]
        exact fun _ s => s.finEq (ks := [0]) (js := [0]) rfl rfl rfl
      · have hk2 : k = l.length := by
          have : ¬ k < l.length := by simpa using hc
          omega
        subst hk2
        rw [List.take_length] at hwk ⊢
        have hidl : (runP (initP room idle wait) l).idle = idle := (run_most _ _).2.1
        generalize runP (initP room idle wait) l = p at hwk hidl ⊢
        refine at_exit ?_
        refine at_then_exit ?_
        refine at_then_exit ?_
        refine at_exit_eq ?_
        refine at_normal ?_
        refine hK6 _ _ _ ?_
        refine at_seq_k (fun K10 hK10 => ?_)
        refine at_region ?_
        refine at_v (ov_assign rfl rfl) rfl rfl rfl ?_
        refine at_nil ?_
        refine at_normal ?_
        refine hK10 _ _ _ ?_
        refine at_seq_k (fun K11 hK11 => ?_)
        refine at_region ?_
        refine at_v (ov_assign rfl rfl) rfl rfl rfl ?_
        refine at_nil ?_
        refine at_normal ?_
        refine hK11 _ _ _ ?_
        refine at_seq_k (fun K12 hK12 => ?_)
        refine at_seq_k (fun K13 hK13 => ?_)
        refine at_region ?_
        refine at_v (ov_move rfl rfl) rfl rfl rfl ?_
        refine at_t (ot_call (ks := [0]) rfl rfl rfl Try.call11 rfl (T11a _ (by first | assumption | rfl | omega | decide | (simp; done) | (simp at *; omega))) rfl) rfl rfl rfl ?_
        rintro v0 _ ⟨m0, hp0, rfl⟩
        obtain ⟨A0, hp0⟩ := hp0
        obtain ⟨c0, hp0⟩ := hp0
        obtain ⟨rfl, rfl⟩ := hp0
        simp only [List.cons_append, List.nil_append, splice, spliceL]
        refine at_v (ov_len_slice rfl Try.underlying34 rfl) rfl rfl rfl ?_
        refine at_v (ov_move rfl rfl) rfl rfl rfl ?_
        refine at_nil ?_
        refine at_normal ?_
        refine hK13 _ _ _ ?_
        refine at_block ?_
        subst hidl
        refine at_rowNil infoE 39 6 ?_
        have h6 := hwk.h6
        refine at_loopE [50, 51, 52, 18, 53, 54, 55, 56, 57, 58, 59, 60, 61, 62, 63, 64, 65, 66, 67, 68, 69, 70, 71, 16, 72, 73, 74, 75, 15, 76, 49] (ι := Nat × Option Addr × Nat) (fun i => i.1 ≤ p.cs.length) (fun i => [(49, .int .i64 (i.1 : Nat)), (16, .int .i64 (reapN p.idle now (p.cs.take i.1) : Nat)), (15, .slice i.2.1 ((p.cs.take i.1).filter fun x => !reapB p.idle now x).length i.2.2)]) (fun i l => setAt 0 (Row infoE 39 6 i.2.1 i.2.2 ((p.cs.take i.1).filter fun x => !reapB p.idle now x)) l) (fun i => p.cs.length - i.1) (0, none, 0) (Nat.zero_le _) ⟨rfl, rfl, rfl, trivial⟩ (fun _ s => s) ?_
        rintro ⟨k, B, e⟩ hk
        simp only at hk
        simp only [setAt]
        refine at_seq_k (fun K14 hK14 => ?_)
        refine at_region ?_
        refine at_v (ov_int rfl rfl rfl rfl) rfl rfl rfl ?_
        refine at_nil ?_
        refine at_normal ?_
        refine hK14 _ _ _ ?_
        refine at_seq_k (fun K15 hK15 => ?_)
        refine at_cond rfl (fun hc => ?_) (fun hc => ?_)
        · have hlt : k < p.cs.length := by simpa using hc
          obtain ⟨x, hx⟩ : ∃ x, p.cs[k]? = some x := ⟨_, List.getElem?_eq_getElem hlt⟩
          have htk : p.cs.take (k + 1) = p.cs.take k ++ [x] := by rw [List.take_add_one, hx]; rfl
          have hl0 : ((p.cs.take k).filter fun x => !reapB p.idle now x).length ≤ 6 := Nat.le_trans (List.length_filter_le _ _) (by rw [List.length_take]; omega)
          have hstep := reapN_step (idle := p.idle) (now := now) hx
          have hsx := hwk.since x (List.mem_of_getElem? hx)
          have hn6 : reapN p.idle now (p.cs.take k) ≤ 6 := by
            have := List.countP_le_length (p := reapB p.idle now) (l := p.cs.take k)
            simp only [reapN]; simp at this; omega
          cases hb : reapB p.idle now x with
          | true =>
            have hb2 : x.2.1.state = 1 ∧ x.2.2 ≤ now ∧ now - x.2.2 ≥ p.idle := by simpa [reapB] using hb
            obtain ⟨hi2, hi3, hi4⟩ := hb2
            have hkept : ((p.cs.take (k + 1)).filter fun x => !reapB p.idle now x) = ((p.cs.take k).filter fun x => !reapB p.idle now x) := by rw [htk, List.filter_append]; simp [hb]
            rw [if_pos hb] at hstep
            refine at_skip ?_
            refine at_normal ?_
            refine hK15 _ _ _ ?_
            refine at_seq_k (fun K16 hK16 => ?_)
            refine at_block ?_
            refine at_seq_k (fun K17 hK17 => ?_)
            refine at_region ?_
            refine at_v (ov_indexRd (fun _ s => s.rd (k := 1) rfl) rfl Try.underlying34 rfl rfl rfl hx) rfl rfl rfl ?_
            refine at_v (ov_loadRdS (vs := [_, _, _, _, _, _]) (fun _ s => s.rd (k := 1) rfl) rfl rfl rfl hx rfl rfl) rfl rfl rfl ?_
            refine at_t (ot_allocA rfl Try.zeroValue39) rfl rfl rfl ?_
            rintro _ _ ⟨g0, rfl, rfl⟩
            refine at_t0 (ot_store (k := 0) rfl rfl rfl rfl rfl rfl rfl) rfl rfl ?_
            rintro _ _ ⟨rfl, rfl⟩
            simp only [setAt, splice, spliceL, Value.cells]
            refine at_nil ?_
            refine at_normal ?_
            refine hK17 _ _ _ ?_
            refine at_seq_k (fun K18 hK18 => ?_)
            refine at_region ?_
            refine at_v (ov_fieldAddr (k := 1) (r := 1) rfl rfl rfl rfl) rfl rfl rfl ?_
            refine at_v (ov_load rfl rfl rfl (fun _ s => s.ld (k := 0) rfl rfl)) rfl rfl rfl ?_
            refine at_v (ov_int rfl rfl rfl rfl) rfl rfl rfl ?_
            refine at_v (ov_move rfl rfl) rfl rfl rfl ?_
            refine at_reval 56 (.bool true) rfl (congrArg Value.bool (decide_eq_true (by omega))) ?_
            refine at_wanted (j := 3) rfl ?_
            refine at_v (ov_fieldAddr (k := 5) (r := 5) rfl rfl rfl rfl) rfl rfl rfl ?_
            refine at_wanted (j := 3) rfl ?_
            refine at_v (ov_load rfl rfl rfl (fun _ s => s.ld (k := 0) rfl rfl)) rfl rfl rfl ?_
            refine at_wanted (j := 3) rfl ?_
            refine at_v (ov_move rfl rfl) rfl rfl rfl ?_
            refine at_wanted (j := 3) rfl ?_
            refine at_v (ov_int rfl rfl rfl rfl) rfl rfl rfl ?_
            refine at_v (ov_pick_t rfl rfl rfl) rfl rfl rfl ?_
            refine at_v (ov_move rfl rfl) rfl rfl rfl ?_
            refine at_reval 62 (.bool true) rfl (congrArg Value.bool (decide_eq_true (by omega))) ?_
            refine at_wanted (j := 9) rfl ?_
            refine at_v (ov_move rfl rfl) rfl rfl rfl ?_
            refine at_wanted (j := 9) rfl ?_
            refine at_v (ov_fieldAddr (k := 5) (r := 5) rfl rfl rfl rfl) rfl rfl rfl ?_
            refine at_wanted (j := 9) rfl ?_
            refine at_v (ov_load rfl rfl rfl (fun _ s => s.ld (k := 0) rfl rfl)) rfl rfl rfl ?_
            refine at_wanted (j := 9) rfl ?_
            refine at_v ((ov_int rfl rfl rfl rfl).eq (congrArg (Value.int .u64) (inK_u64 (by omega) (by omega)))) rfl rfl rfl ?_
            refine at_wanted (j := 9) rfl ?_
            refine at_v (ov_move rfl rfl) rfl rfl rfl ?_
            refine at_wanted (j := 9) rfl ?_
            refine at_v (ov_int rfl rfl rfl rfl) rfl rfl rfl ?_
            refine at_v (ov_pick_t rfl rfl rfl) rfl rfl rfl ?_
            refine at_nil ?_
            refine at_normal ?_
            refine hK18 _ _ _ ?_
            refine at_cond_true (congrArg (fun b => some (Value.bool b)) (show _ = true from decide_eq_true (by omega))) ?_
            refine at_region ?_
            refine at_v (ov_move rfl rfl) rfl rfl rfl ?_
            refine at_v ((ov_int rfl rfl rfl rfl).eq (congrArg (Value.int .i64) (inK_i64 (by omega) (by omega)))) rfl rfl rfl ?_
            refine at_v (ov_assign rfl rfl) rfl rfl rfl ?_
            refine at_nil ?_
            refine at_inb_normal ?_
            refine at_normal ?_
            refine hK16 _ _ _ ?_
            refine at_region ?_
            refine at_v ((ov_int rfl rfl rfl rfl).eq (congrArg (Value.int .i64) (inK_i64 (by omega) (by omega)))) rfl rfl rfl ?_
            refine at_v (ov_move rfl rfl) rfl rfl rfl ?_
            refine at_nil ?_
            refine at_normal ?_
            refine at_roundF (k + 1, B, e) hlt (by simp only; omega) ⟨rfl, look_eq rfl (congrArg (Value.int .i64) (by simp only; omega)), look_eq rfl (by simp only; rw [hkept]), trivial⟩ rfl ?_
            simp only
            rw [hkept]
            exact fun _ s => s.finEq (ks := [1, 1, 1]) (js := [0]) rfl rfl rfl
          | false =>
            have hkept : ((p.cs.take (k + 1)).filter fun x => !reapB p.idle now x) = ((p.cs.take k).filter fun x => !reapB p.idle now x) ++ [x] := by rw [htk, List.filter_append]; simp [hb]
            rw [if_neg (by simp [hb])] at hstep
            have hb2 : ¬ (x.2.1.state = 1 ∧ x.2.2 ≤ now ∧ now - x.2.2 ≥ p.idle) := by simpa [reapB] using hb
            by_cases hi2 : x.2.1.state = 1
            · by_cases hi3 : x.2.2 ≤ now
              · have hi4 : ¬ now - x.2.2 ≥ p.idle := fun h => hb2 ⟨hi2, hi3, h⟩
                refine at_skip ?_
                refine at_normal ?_
                refine hK15 _ _ _ ?_
                refine at_seq_k (fun K16 hK16 => ?_)
                refine at_block ?_
                refine at_seq_k (fun K17 hK17 => ?_)
                refine at_region ?_
                refine at_v (ov_indexRd (fun _ s => s.rd (k := 1) rfl) rfl Try.underlying34 rfl rfl rfl hx) rfl rfl rfl ?_
                refine at_v (ov_loadRdS (vs := [_, _, _, _, _, _]) (fun _ s => s.rd (k := 1) rfl) rfl rfl rfl hx rfl rfl) rfl rfl rfl ?_
                refine at_t (ot_allocA rfl Try.zeroValue39) rfl rfl rfl ?_
                rintro _ _ ⟨g0, rfl, rfl⟩
                refine at_t0 (ot_store (k := 0) rfl rfl rfl rfl rfl rfl rfl) rfl rfl ?_
                rintro _ _ ⟨rfl, rfl⟩
                simp only [setAt, splice, spliceL, Value.cells]
                refine at_nil ?_
                refine at_normal ?_
                refine hK17 _ _ _ ?_
                refine at_seq_k (fun K18 hK18 => ?_)
                refine at_region ?_
                refine at_v (ov_fieldAddr (k := 1) (r := 1) rfl rfl rfl rfl) rfl rfl rfl ?_
                refine at_v (ov_load rfl rfl rfl (fun _ s => s.ld (k := 0) rfl rfl)) rfl rfl rfl ?_
                refine at_v (ov_int rfl rfl rfl rfl) rfl rfl rfl ?_
                refine at_v (ov_move rfl rfl) rfl rfl rfl ?_
                refine at_reval 56 (.bool true) rfl (congrArg Value.bool (decide_eq_true (by omega))) ?_
                refine at_wanted (j := 3) rfl ?_
                refine at_v (ov_fieldAddr (k := 5) (r := 5) rfl rfl rfl rfl) rfl rfl rfl ?_
                refine at_wanted (j := 3) rfl ?_
                refine at_v (ov_load rfl rfl rfl (fun _ s => s.ld (k := 0) rfl rfl)) rfl rfl rfl ?_
                refine at_wanted (j := 3) rfl ?_
                refine at_v (ov_move rfl rfl) rfl rfl rfl ?_
                refine at_wanted (j := 3) rfl ?_
                refine at_v (ov_int rfl rfl rfl rfl) rfl rfl rfl ?_
                refine at_v (ov_pick_t rfl rfl rfl) rfl rfl rfl ?_
                refine at_v (ov_move rfl rfl) rfl rfl rfl ?_
                refine at_reval 62 (.bool true) rfl (congrArg Value.bool (decide_eq_true (by omega))) ?_
                refine at_wanted (j := 9) rfl ?_
                refine at_v (ov_move rfl rfl) rfl rfl rfl ?_
                refine at_wanted (j := 9) rfl ?_
                refine at_v (ov_fieldAddr (k := 5) (r := 5) rfl rfl rfl rfl) rfl rfl rfl ?_
                refine at_wanted (j := 9) rfl ?_
                refine at_v (ov_load rfl rfl rfl (fun _ s => s.ld (k := 0) rfl rfl)) rfl rfl rfl ?_
                refine at_wanted (j := 9) rfl ?_
                refine at_v ((ov_int rfl rfl rfl rfl).eq (congrArg (Value.int .u64) (inK_u64 (by omega) (by omega)))) rfl rfl rfl ?_
                refine at_wanted (j := 9) rfl ?_
                refine at_v (ov_move rfl rfl) rfl rfl rfl ?_
                refine at_wanted (j := 9) rfl ?_
                refine at_v (ov_int rfl rfl rfl rfl) rfl rfl rfl ?_
                refine at_v (ov_pick_t rfl rfl rfl) rfl rfl rfl ?_
                refine at_nil ?_
                refine at_normal ?_
                refine hK18 _ _ _ ?_
                refine at_cond_false (congrArg (fun b => some (Value.bool b)) (show _ = false from decide_eq_false (by omega))) ?_
                refine at_region ?_
                refine at_v (ov_move rfl rfl) rfl rfl rfl ?_
                refine at_v (ov_loadS (cs := [_, _, _, _, _, _]) rfl rfl rfl rfl (fun _ s => s.lds (k := 0) rfl ⟨rfl, rfl, rfl, rfl, rfl, rfl, trivial⟩)) rfl rfl rfl ?_
                refine at_t (ot_buildSlice (cs := [_, _, _, _, _, _]) rfl Try.underlying34 rfl rfl rfl rfl rfl rfl) rfl rfl rfl ?_
                rintro _ _ ⟨g1, rfl, rfl⟩
                refine at_t (ot_append (k := 2) (size := 6) (bytes := 48) (ys := [x]) (fun _ s => s.rdPt (k := 0) rfl rfl (by simp [infoE])) rfl Try.underlying34 (ti := Try.t39) rfl rfl rfl rfl rfl (by decide) rfl rfl rfl (by simp [infoE, Value.oneCell']) (by simp; omega) (by decide)) rfl rfl rfl ?_
                rintro _ _ ⟨A1, c1, rfl, rfl⟩
                simp only [setAt]
                rw [← hkept]
                refine at_v (ov_assign rfl rfl) rfl rfl rfl ?_
                refine at_nil ?_
                refine at_inb_normal ?_
                refine at_normal ?_
                refine hK16 _ _ _ ?_
                refine at_region ?_
                refine at_v ((ov_int rfl rfl rfl rfl).eq (congrArg (Value.int .i64) (inK_i64 (by omega) (by omega)))) rfl rfl rfl ?_
                refine at_v (ov_move rfl rfl) rfl rfl rfl ?_
                refine at_nil ?_
                refine at_normal ?_
                refine at_roundF (k + 1, _, _) hlt (by simp only; omega) ⟨rfl, look_eq rfl (congrArg (Value.int .i64) (by simp only; omega)), rfl, trivial⟩ rfl ?_
                exact fun _ s => s.finEq (ks := [2, 2, 2]) (js := [0, 0]) rfl rfl rfl
              · refine at_skip ?_
                refine at_normal ?_
                refine hK15 _ _ _ ?_
                refine at_seq_k (fun K16 hK16 => ?_)
                refine at_block ?_
                refine at_seq_k (fun K17 hK17 => ?_)
                refine at_region ?_
                refine at_v (ov_indexRd (fun _ s => s.rd (k := 1) rfl) rfl Try.underlying34 rfl rfl rfl hx) rfl rfl rfl ?_
                refine at_v (ov_loadRdS (vs := [_, _, _, _, _, _]) (fun _ s => s.rd (k := 1) rfl) rfl rfl rfl hx rfl rfl) rfl rfl rfl ?_
                refine at_t (ot_allocA rfl Try.zeroValue39) rfl rfl rfl ?_
                rintro _ _ ⟨g0, rfl, rfl⟩
                refine at_t0 (ot_store (k := 0) rfl rfl rfl rfl rfl rfl rfl) rfl rfl ?_
                rintro _ _ ⟨rfl, rfl⟩
                simp only [setAt, splice, spliceL, Value.cells]
                refine at_nil ?_
                refine at_normal ?_
                refine hK17 _ _ _ ?_
                refine at_seq_k (fun K18 hK18 => ?_)
                refine at_region ?_
                refine at_v (ov_fieldAddr (k := 1) (r := 1) rfl rfl rfl rfl) rfl rfl rfl ?_
                refine at_v (ov_load rfl rfl rfl (fun _ s => s.ld (k := 0) rfl rfl)) rfl rfl rfl ?_
                refine at_v (ov_int rfl rfl rfl rfl) rfl rfl rfl ?_
                refine at_v (ov_move rfl rfl) rfl rfl rfl ?_
                refine at_reval 56 (.bool true) rfl (congrArg Value.bool (decide_eq_true (by omega))) ?_
                refine at_wanted (j := 3) rfl ?_
                refine at_v (ov_fieldAddr (k := 5) (r := 5) rfl rfl rfl rfl) rfl rfl rfl ?_
                refine at_wanted (j := 3) rfl ?_
                refine at_v (ov_load rfl rfl rfl (fun _ s => s.ld (k := 0) rfl rfl)) rfl rfl rfl ?_
                refine at_wanted (j := 3) rfl ?_
                refine at_v (ov_move rfl rfl) rfl rfl rfl ?_
                refine at_wanted (j := 3) rfl ?_
                refine at_v (ov_int rfl rfl rfl rfl) rfl rfl rfl ?_
                refine at_v (ov_pick_t rfl rfl rfl) rfl rfl rfl ?_
                refine at_v (ov_move rfl rfl) rfl rfl rfl ?_
                refine at_reval 62 (.bool false) rfl (congrArg Value.bool (decide_eq_false (by omega))) ?_
                refine at_unwanted (j := 9) rfl rfl rfl rfl ?_
                refine at_unwanted (j := 9) rfl rfl rfl rfl ?_
                refine at_unwanted (j := 9) rfl rfl rfl rfl ?_
                refine at_unwanted (j := 9) rfl rfl rfl rfl ?_
                refine at_unwanted (j := 9) rfl rfl rfl rfl ?_
                refine at_unwanted (j := 9) rfl rfl rfl rfl ?_
                refine at_v (ov_pick_f rfl rfl rfl) rfl rfl rfl ?_
                refine at_nil ?_
                refine at_normal ?_
                refine hK18 _ _ _ ?_
                refine at_cond_false rfl ?_
                refine at_region ?_
                refine at_v (ov_move rfl rfl) rfl rfl rfl ?_
                refine at_v (ov_loadS (cs := [_, _, _, _, _, _]) rfl rfl rfl rfl (fun _ s => s.lds (k := 0) rfl ⟨rfl, rfl, rfl, rfl, rfl, rfl, trivial⟩)) rfl rfl rfl ?_
                refine at_t (ot_buildSlice (cs := [_, _, _, _, _, _]) rfl Try.underlying34 rfl rfl rfl rfl rfl rfl) rfl rfl rfl ?_
                rintro _ _ ⟨g1, rfl, rfl⟩
                refine at_t (ot_append (k := 2) (size := 6) (bytes := 48) (ys := [x]) (fun _ s => s.rdPt (k := 0) rfl rfl (by simp [infoE])) rfl Try.underlying34 (ti := Try.t39) rfl rfl rfl rfl rfl (by decide) rfl rfl rfl (by simp [infoE, Value.oneCell']) (by simp; omega) (by decide)) rfl rfl rfl ?_
                rintro _ _ ⟨A1, c1, rfl, rfl⟩
                simp only [setAt]
                rw [← hkept]
                refine at_v (ov_assign rfl rfl) rfl rfl rfl ?_
                refine at_nil ?_
                refine at_inb_normal ?_
                refine at_normal ?_
                refine hK16 _ _ _ ?_
                refine at_region ?_
                refine at_v ((ov_int rfl rfl rfl rfl).eq (congrArg (Value.int .i64) (inK_i64 (by omega) (by omega)))) rfl rfl rfl ?_
                refine at_v (ov_move rfl rfl) rfl rfl rfl ?_
                refine at_nil ?_
                refine at_normal ?_
                refine at_roundF (k + 1, _, _) hlt (by simp only; omega) ⟨rfl, look_eq rfl (congrArg (Value.int .i64) (by simp only; omega)), rfl, trivial⟩ rfl ?_
                exact fun _ s => s.finEq (ks := [2, 2, 2]) (js := [0, 0]) rfl rfl rfl
            · refine at_skip ?_
              refine at_normal ?_
              refine hK15 _ _ _ ?_
              refine at_seq_k (fun K16 hK16 => ?_)
              refine at_block ?_
              refine at_seq_k (fun K17 hK17 => ?_)
              refine at_region ?_
              refine at_v (ov_indexRd (fun _ s => s.rd (k := 1) rfl) rfl Try.underlying34 rfl rfl rfl hx) rfl rfl rfl ?_
              refine at_v (ov_loadRdS (vs := [_, _, _, _, _, _]) (fun _ s => s.rd (k := 1) rfl) rfl rfl rfl hx rfl rfl) rfl rfl rfl ?_
              refine at_t (ot_allocA rfl Try.zeroValue39) rfl rfl rfl ?_
              rintro _ _ ⟨g0, rfl, rfl⟩
              refine at_t0 (ot_store (k := 0) rfl rfl rfl rfl rfl rfl rfl) rfl rfl ?_
              rintro _ _ ⟨rfl, rfl⟩
              simp only [setAt, splice, spliceL, Value.cells]
              refine at_nil ?_
              refine at_normal ?_
              refine hK17 _ _ _ ?_
              refine at_seq_k (fun K18 hK18 => ?_)
              refine at_region ?_
              refine at_v (ov_fieldAddr (k := 1) (r := 1) rfl rfl rfl rfl) rfl rfl rfl ?_
              refine at_v (ov_load rfl rfl rfl (fun _ s => s.ld (k := 0) rfl rfl)) rfl rfl rfl ?_
              refine at_v (ov_int rfl rfl rfl rfl) rfl rfl rfl ?_
              refine at_v (ov_move rfl rfl) rfl rfl rfl ?_
              refine at_reval 56 (.bool false) rfl (congrArg Value.bool (decide_eq_false (by omega))) ?_
              refine at_unwanted (j := 3) rfl rfl rfl rfl ?_
              refine at_unwanted (j := 3) rfl rfl rfl rfl ?_
              refine at_unwanted (j := 3) rfl rfl rfl rfl ?_
              refine at_unwanted (j := 3) rfl rfl rfl rfl ?_
              refine at_v (ov_pick_f rfl rfl rfl) rfl rfl rfl ?_
              refine at_v (ov_move rfl rfl) rfl rfl rfl ?_
              refine at_unwanted (j := 9) rfl rfl rfl rfl ?_
              refine at_unwanted (j := 9) rfl rfl rfl rfl ?_
              refine at_unwanted (j := 9) rfl rfl rfl rfl ?_
              refine at_unwanted (j := 9) rfl rfl rfl rfl ?_
              refine at_unwanted (j := 9) rfl rfl rfl rfl ?_
              refine at_unwanted (j := 9) rfl rfl rfl rfl ?_
              refine at_v (ov_pick_f rfl rfl rfl) rfl rfl rfl ?_
              refine at_nil ?_
              refine at_normal ?_
              refine hK18 _ _ _ ?_
              refine at_cond_false rfl ?_
              refine at_region ?_
              refine at_v (ov_move rfl rfl) rfl rfl rfl ?_
              refine at_v (ov_loadS (cs := [_, _, _, _, _, _]) rfl rfl rfl rfl (fun _ s => s.lds (k := 0) rfl ⟨rfl, rfl, rfl, rfl, rfl, rfl, trivial⟩)) rfl rfl rfl ?_
              refine at_t (ot_buildSlice (cs := [_, _, _, _, _, _]) rfl Try.underlying34 rfl rfl rfl rfl rfl rfl) rfl rfl rfl ?_
              rintro _ _ ⟨g1, rfl, rfl⟩
              refine at_t (ot_append (k := 2) (size := 6) (bytes := 48) (ys := [x]) (fun _ s => s.rdPt (k := 0) rfl rfl (by simp [infoE])) rfl Try.underlying34 (ti := Try.t39) rfl rfl rfl rfl rfl (by decide) rfl rfl rfl (by simp [infoE, Value.oneCell']) (by simp; omega) (by decide)) rfl rfl rfl ?_
              rintro _ _ ⟨A1, c1, rfl, rfl⟩
              simp only [setAt]
              rw [← hkept]
              refine at_v (ov_assign rfl rfl) rfl rfl rfl ?_
              refine at_nil ?_
              refine at_inb_normal ?_
              refine at_normal ?_
              refine hK16 _ _ _ ?_
              refine at_region ?_
              refine at_v ((ov_int rfl rfl rfl rfl).eq (congrArg (Value.int .i64) (inK_i64 (by omega) (by omega)))) rfl rfl rfl ?_
              refine at_v (ov_move rfl rfl) rfl rfl rfl ?_
              refine at_nil ?_
              refine at_normal ?_
              refine at_roundF (k + 1, _, _) hlt (by simp only; omega) ⟨rfl, look_eq rfl (congrArg (Value.int .i64) (by simp only; omega)), rfl, trivial⟩ rfl ?_
              exact fun _ s => s.finEq (ks := [2, 2, 2]) (js := [0, 0]) rfl rfl rfl
        · have hk2 : k = p.cs.length := by
            have : ¬ k < p.cs.length := by simpa using hc
            omega
          subst hk2
          have hrp := reap_tri w0 (g := g) hwk hnow
          have hw2 := reapP_wf hwk now
          have hrp2 : Tri Try.prog w0 16 [ptrTo g, .int .u64 now] [PO g (reapP p now)] fun v m => v = .int .i64 0 ∧ m = [PO g (reapP (reapP p now) now)] := (reap_tri w0 (g := g) hw2 hnow).post fun v m h => by rw [show (reapP p now).idle = p.idle from rfl, reap_zero] at h; exact h
          have hwt : Tri Try.prog w0 12 [ptrTo g] [PO g (reapP p now)] fun v m => ∃ A c, v = .slice A p.L.length c ∧ m = [Row wE 3 1 A c p.L, PO g (reapP p now)] := T12 w0
          simp only [List.take_length]
          have hL : p.L.length ≤ 1000 := by have := hwk.lenL; have := hwk.wm_; omega
          have hl6 : (p.cs.filter fun x => !reapB p.idle now x).length ≤ 6 := Nat.le_trans (List.length_filter_le _ _) h6
          rw [show (p.cs.filter fun x => !reapB p.idle now x) = (reapP p now).cs from rfl] at hl6 ⊢
          refine at_exit ?_
          refine at_then_exit ?_
          refine at_then_exit ?_
          refine at_exit_eq ?_
          refine at_normal ?_
          refine hK12 _ _ _ ?_
          refine at_seq_k (fun K16 hK16 => ?_)
          refine at_region ?_
          refine at_v (ov_move rfl rfl) rfl rfl rfl ?_
          refine at_t (ot_call (ks := [2]) rfl rfl rfl Try.call12 rfl (T12 _) rfl) rfl rfl rfl ?_
          rintro v0 _ ⟨m0, hp0, rfl⟩
          obtain ⟨A1, hp0⟩ := hp0
          obtain ⟨c1, hp0⟩ := hp0
          obtain ⟨rfl, rfl⟩ := hp0
          simp only [List.cons_append, List.nil_append, splice, spliceL]
          refine at_v (ov_assign rfl rfl) rfl rfl rfl ?_
          refine at_nil ?_
          refine at_normal ?_
          refine hK16 _ _ _ ?_
          refine at_seq_k (fun K17 hK17 => ?_)
          refine at_region ?_
          refine at_v (ov_move rfl rfl) rfl rfl rfl ?_
          refine at_v (ov_move rfl rfl) rfl rfl rfl ?_
          refine at_t (ot_call (ks := [1]) rfl rfl rfl Try.call16 rfl (hrp ) rfl) rfl rfl rfl ?_
          rintro v0 _ ⟨m0, hp0, rfl⟩
          obtain ⟨rfl, rfl⟩ := hp0
          simp only [List.cons_append, List.nil_append, splice, spliceL]
          refine at_v (ov_move rfl rfl) rfl rfl rfl ?_
          refine at_v (ov_int rfl rfl rfl rfl) rfl rfl rfl ?_
          refine at_v (ov_move rfl rfl) rfl rfl rfl ?_
          refine at_reval 84 (.bool true) rfl (congrArg Value.bool (decide_eq_true (by omega))) ?_
          refine at_wanted (j := 5) rfl ?_
          refine at_v (ov_move rfl rfl) rfl rfl rfl ?_
          refine at_wanted (j := 5) rfl ?_
          refine at_t (ot_call (ks := [0]) rfl rfl rfl Try.call11 rfl (T11a _ (by first | assumption | rfl | omega | decide | (simp; done) | (simp at *; omega))) rfl) rfl rfl rfl ?_
          rintro v0 _ ⟨m0, hp0, rfl⟩
          obtain ⟨A2, hp0⟩ := hp0
          obtain ⟨c2, hp0⟩ := hp0
          obtain ⟨rfl, rfl⟩ := hp0
          simp only [List.cons_append, List.nil_append, splice, spliceL]
          refine at_wanted (j := 5) rfl ?_
          refine at_t (ot_call (ks := [0]) rfl rfl rfl Try.call18 rfl (T18 _ (by first | assumption | rfl | omega | decide | (simp; done) | (simp at *; omega))) rfl) rfl rfl rfl ?_
          rintro v0 _ ⟨m0, hp0, rfl⟩
          obtain ⟨B0, hp0⟩ := hp0
          obtain ⟨e0, hp0⟩ := hp0
          obtain ⟨rfl, rfl⟩ := hp0
          simp only [List.cons_append, List.nil_append, splice, spliceL]
          refine at_wanted (j := 5) rfl ?_
          refine at_v (ov_move rfl rfl) rfl rfl rfl ?_
          refine at_wanted (j := 5) rfl ?_
          refine at_t (ot_call (ks := [4]) rfl rfl rfl Try.call18 rfl (T18 _ (by first | assumption | rfl | omega | decide | (simp; done) | (simp at *; omega))) rfl) rfl rfl rfl ?_
          rintro v0 _ ⟨m0, hp0, rfl⟩
          obtain ⟨B1, hp0⟩ := hp0
          obtain ⟨e1, hp0⟩ := hp0
          obtain ⟨rfl, rfl⟩ := hp0
          simp only [List.cons_append, List.nil_append, splice, spliceL]
          refine at_wanted (j := 5) rfl ?_
          refine at_t (ot_call (ks := [2, 0]) rfl rfl rfl Try.call17 rfl (T17a _ (by first | assumption | rfl | omega | decide | (simp; done) | (simp at *; omega)) (by first | assumption | rfl | omega | decide | (simp; done) | (simp at *; omega))) rfl) rfl rfl rfl ?_
          rintro v0 _ ⟨m0, hp0, rfl⟩
          obtain ⟨rfl, rfl⟩ := hp0
          simp only [List.cons_append, List.nil_append, splice, spliceL]
          refine at_v (ov_pick_t rfl rfl rfl) rfl rfl rfl ?_
          refine at_v (ov_move rfl rfl) rfl rfl rfl ?_
          refine at_wanted (j := 13) rfl ?_
          refine at_v (ov_move rfl rfl) rfl rfl rfl ?_
          refine at_wanted (j := 13) rfl ?_
          refine at_t (ot_call (ks := [4]) rfl rfl rfl Try.call12 rfl (hwt ) rfl) rfl rfl rfl ?_
          rintro v0 _ ⟨m0, hp0, rfl⟩
          obtain ⟨A3, hp0⟩ := hp0
          obtain ⟨c3, hp0⟩ := hp0
          obtain ⟨rfl, rfl⟩ := hp0
          simp only [List.cons_append, List.nil_append, splice, spliceL]
          refine at_wanted (j := 13) rfl ?_
          refine at_v (ov_move rfl rfl) rfl rfl rfl ?_
          refine at_wanted (j := 13) rfl ?_
          refine at_t (ot_call (ks := [0, 5]) rfl rfl rfl Try.call13 rfl (T13a _ (by first | assumption | rfl | omega | decide | (simp; done) | (simp at *; omega)) (by first | assumption | rfl | omega | decide | (simp; done) | (simp at *; omega))) rfl) rfl rfl rfl ?_
          rintro v0 _ ⟨m0, hp0, rfl⟩
          obtain ⟨rfl, rfl⟩ := hp0
          simp only [List.cons_append, List.nil_append, splice, spliceL]
          refine at_v (ov_pick_t rfl rfl rfl) rfl rfl rfl ?_
          refine at_v (ov_move rfl rfl) rfl rfl rfl ?_
          refine at_wanted (j := 19) rfl ?_
          refine at_v (ov_move rfl rfl) rfl rfl rfl ?_
          refine at_wanted (j := 19) rfl ?_
          refine at_v (ov_move rfl rfl) rfl rfl rfl ?_
          refine at_wanted (j := 19) rfl ?_
          refine at_t (ot_call (ks := [2]) rfl rfl rfl Try.call16 rfl (hrp2 ) rfl) rfl rfl rfl ?_
          rintro v0 _ ⟨m0, hp0, rfl⟩
          obtain ⟨rfl, rfl⟩ := hp0
          simp only [List.cons_append, List.nil_append, splice, spliceL]
          refine at_wanted (j := 19) rfl ?_
          refine at_v (ov_int rfl rfl rfl rfl) rfl rfl rfl ?_
          refine at_v (ov_pick_t rfl rfl rfl) rfl rfl rfl ?_
          refine at_v (ov_assign rfl rfl) rfl rfl rfl ?_
          refine at_nil ?_
          refine at_normal ?_
          refine hK17 _ _ _ ?_
          refine at_ret ?_
          refine at_end ?_
          refine at_fin (rsV rfl (res_tmp rfl)) ?_
          refine ⟨_, ⟨rfl, rfl⟩, ?_⟩
          exact fun _ s => s.finEq (ks := []) (js := [0, 0, 0, 0, 0, 0, 0, 0]) rfl rfl rfl
