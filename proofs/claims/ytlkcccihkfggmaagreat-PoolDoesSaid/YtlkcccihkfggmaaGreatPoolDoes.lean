/- PoolDoes, walked. -/
import Derived.Test.YtlkcccihkfggmaaGreatProg
import Derived.Test.YtlkcccihkfggmaaGreatRefPool3
import Derived.Test.YtlkcccihkfggmaaGreatPool7
import Derived.Test.YtlkcccihkfggmaaGreatSLBr
import Derived.KernelRfl
set_option linter.unusedSimpArgs false
set_option linter.unusedVariables false
set_option maxRecDepth 100000
set_option maxHeartbeats 4000000
namespace Go.Proofs.YtlkcccihkfggmaaGreat
open Go Go.Proofs.YtlkcccihkfggmaaGreat.SL Go.RowKit
theorem T12a (w0 : World) {g n : Nat} {p : PM} (hw : Wf n p) :
    Tri Tryz.prog w0 12 [ptrTo g] [RO g p] fun v m => ∃ A c, v = .slice A p.cs.length c ∧ m = [Row infoE 75 6 A c p.cs, RO g p] :=
  T12 w0 hw
theorem T3 (w0 : World) (room wait idle : Int) (A : Option Addr) (c : Nat) (l : List PA) (hr : Rd paE w0 6 A l) (hm : l.length ≤ 9223372036854775807) (hok : ∀ x ∈ l, x.ok) :
    Tri Tryz.prog w0 3 [.int .i64 room, .int .i64 wait, .int .u64 idle, .slice A l.length c] [] fun v m => v = .bool true ∧ m = [] := by
  refine tri_of Tryz.func3 rfl rfl fun F => ?_
  simp only [Tryz.ntmps3, argEnv, List.cons_append, List.nil_append]
  by_cases hi1 : (l.length : Int) > 100
  · refine at_seq_k (fun K0 hK0 => ?_)
    refine at_region ?_
    refine at_v (ov_assign rfl rfl) rfl rfl rfl ?_
    refine at_nil ?_
    refine at_normal ?_
    refine hK0 _ _ _ ?_
    refine at_seq_k (fun K1 hK1 => ?_)
    refine at_seq_k (fun K2 hK2 => ?_)
    refine at_region ?_
    refine at_t (ot_call (ks := []) rfl rfl rfl Tryz.call4 rfl (T4 _) rfl) rfl rfl rfl ?_
    rintro v0 _ ⟨m0, hp0, rfl⟩
    obtain ⟨rfl, rfl⟩ := hp0
    simp only [List.cons_append, List.nil_append, splice, spliceL]
    refine at_v (ov_not rfl rfl) rfl rfl rfl ?_
    refine at_nil ?_
    refine at_normal ?_
    refine hK2 _ _ _ ?_
    refine at_cond_false rfl ?_
    refine at_skip ?_
    refine at_normal ?_
    refine hK1 _ _ _ ?_
    refine at_seq_k (fun K3 hK3 => ?_)
    refine at_seq_k (fun K4 hK4 => ?_)
    refine at_region ?_
    refine at_v (ov_move rfl rfl) rfl rfl rfl ?_
    refine at_v (ov_len_slice rfl Tryz.underlying23 rfl) rfl rfl rfl ?_
    refine at_v (ov_int rfl rfl rfl rfl) rfl rfl rfl ?_
    refine at_nil ?_
    refine at_normal ?_
    refine hK4 _ _ _ ?_
    refine at_cond_true (congrArg (fun b => some (Value.bool b)) (show _ = true from decide_eq_true (by omega))) ?_
    refine at_seq_k (fun K5 hK5 => ?_)
    refine at_region ?_
    refine at_v (ov_assign rfl rfl) rfl rfl rfl ?_
    refine at_nil ?_
    refine at_normal ?_
    refine hK5 _ _ _ ?_
    refine at_ret ?_
    refine at_then_ret ?_
    refine at_end ?_
    refine at_fin (rsV rfl (res_tmp rfl)) ?_
    refine ⟨_, ⟨rfl, rfl⟩, ?_⟩
    exact fun _ s => s.finEq (ks := []) (js := []) rfl rfl rfl
  have hl : l.length ≤ 100 := by omega
  refine at_seq_k (fun K0 hK0 => ?_)
  refine at_region ?_
  refine at_v (ov_assign rfl rfl) rfl rfl rfl ?_
  refine at_nil ?_
  refine at_normal ?_
  refine hK0 _ _ _ ?_
  refine at_seq_k (fun K1 hK1 => ?_)
  refine at_seq_k (fun K2 hK2 => ?_)
  refine at_region ?_
  refine at_t (ot_call (ks := []) rfl rfl rfl Tryz.call4 rfl (T4 _) rfl) rfl rfl rfl ?_
  rintro v0 _ ⟨m0, hp0, rfl⟩
  obtain ⟨rfl, rfl⟩ := hp0
  simp only [List.cons_append, List.nil_append, splice, spliceL]
  refine at_v (ov_not rfl rfl) rfl rfl rfl ?_
  refine at_nil ?_
  refine at_normal ?_
  refine hK2 _ _ _ ?_
  refine at_cond_false rfl ?_
  refine at_skip ?_
  refine at_normal ?_
  refine hK1 _ _ _ ?_
  refine at_seq_k (fun K3 hK3 => ?_)
  refine at_seq_k (fun K4 hK4 => ?_)
  refine at_region ?_
  refine at_v (ov_move rfl rfl) rfl rfl rfl ?_
  refine at_v (ov_len_slice rfl Tryz.underlying23 rfl) rfl rfl rfl ?_
  refine at_v (ov_int rfl rfl rfl rfl) rfl rfl rfl ?_
  refine at_nil ?_
  refine at_normal ?_
  refine hK4 _ _ _ ?_
  refine at_cond_false (congrArg (fun b => some (Value.bool b)) (show _ = false from decide_eq_false (by omega))) ?_
  refine at_skip ?_
  refine at_normal ?_
  refine hK3 _ _ _ ?_
  refine at_seq_k (fun K5 hK5 => ?_)
  refine at_region ?_
  refine at_v (ov_move rfl rfl) rfl rfl rfl ?_
  refine at_v (ov_move rfl rfl) rfl rfl rfl ?_
  refine at_v (ov_move rfl rfl) rfl rfl rfl ?_
  refine at_t (ot_call (ks := []) rfl rfl rfl Tryz.call5 rfl (T5 _ _ _ _) rfl) rfl rfl rfl ?_
  rintro v0 _ ⟨m0, hp0, rfl⟩
  obtain ⟨b0, hp0⟩ := hp0
  obtain ⟨hq0, hp0⟩ := hp0
  obtain ⟨hq1, hp0⟩ := hp0
  cases b0 with
  | false =>
    obtain ⟨rfl, rfl⟩ := hq1 rfl
    have hno : ¬ (0 ≤ wait ∧ wait ≤ 12 ∧ 1 ≤ room ∧ room ≤ 6 ∧ idle ≠ 0) := by simpa using hq0
    clear hq0 hq1 hp0
    simp only [List.nil_append]
    refine at_v (ov_move rfl rfl) rfl rfl rfl ?_
    refine at_v (ov_extract rfl rfl rfl) rfl rfl rfl ?_
    refine at_v (ov_extract rfl rfl rfl) rfl rfl rfl ?_
    refine at_v (ov_assign rfl rfl) rfl rfl rfl ?_
    refine at_v (ov_assign rfl rfl) rfl rfl rfl ?_
    refine at_nil ?_
    refine at_normal ?_
    refine hK5 _ _ _ ?_
    refine at_seq_k (fun K6 hK6 => ?_)
    refine at_region ?_
    refine at_v (ov_move rfl rfl) rfl rfl rfl ?_
    refine at_v (ov_move rfl rfl) rfl rfl rfl ?_
    refine at_v (ov_move rfl rfl) rfl rfl rfl ?_
    refine at_t (ot_call (ks := []) rfl rfl rfl Tryz.call6 rfl (T6 _ _ _ _) rfl) rfl rfl rfl ?_
    rintro v0 _ ⟨m0, hp0, rfl⟩
    obtain ⟨b0, hp0⟩ := hp0
    obtain ⟨hq0, hp0⟩ := hp0
    obtain ⟨hq1, hp0⟩ := hp0
    cases b0 with
    | true => exact absurd (by simpa using hq0) hno
    | false =>
      obtain ⟨rfl, rfl⟩ := hq1 rfl
      clear hq0 hq1 hp0
      simp only [List.nil_append]
      refine at_v (ov_move rfl rfl) rfl rfl rfl ?_
      refine at_v (ov_extract rfl rfl rfl) rfl rfl rfl ?_
      refine at_v (ov_extract rfl rfl rfl) rfl rfl rfl ?_
      refine at_v (ov_assign rfl rfl) rfl rfl rfl ?_
      refine at_v (ov_assign rfl rfl) rfl rfl rfl ?_
      refine at_nil ?_
      refine at_normal ?_
      refine hK6 _ _ _ ?_
      refine at_seq_k (fun K7 hK7 => ?_)
      refine at_seq_k (fun K8 hK8 => ?_)
      refine at_region ?_
      refine at_v (ov_move rfl rfl) rfl rfl rfl ?_
      refine at_v (ov_move rfl rfl) rfl rfl rfl ?_
      refine at_v (ov_int rfl rfl rfl rfl) rfl rfl rfl ?_
      refine at_v (ov_move rfl rfl) rfl rfl rfl ?_
      refine at_wanted (j := 3) rfl ?_
      refine at_v (ov_move rfl rfl) rfl rfl rfl ?_
      refine at_wanted (j := 3) rfl ?_
      refine at_v (ov_ptr_nil (q := none) rfl Tryz.underlying25 rfl rfl) rfl rfl rfl ?_
      refine at_wanted (j := 3) rfl ?_
      refine at_v (ov_move rfl rfl) rfl rfl rfl ?_
      refine at_wanted (j := 3) rfl ?_
      refine at_v (ov_ptr_nil (q := none) rfl Tryz.underlying29 rfl rfl) rfl rfl rfl ?_
      refine at_wanted (j := 3) rfl ?_
      refine at_v (ov_boolne rfl Tryz.underlying4 rfl rfl) rfl rfl rfl ?_
      refine at_v (ov_pick_f rfl rfl rfl) rfl rfl rfl ?_
      refine at_nil ?_
      refine at_normal ?_
      refine hK8 _ _ _ ?_
      refine at_cond_false rfl ?_
      refine at_skip ?_
      refine at_normal ?_
      refine hK7 _ _ _ ?_
      refine at_seq_k (fun K9 hK9 => ?_)
      refine at_seq_k (fun K10 hK10 => ?_)
      refine at_region ?_
      refine at_v (ov_move rfl rfl) rfl rfl rfl ?_
      refine at_v (ov_ptr_nil (q := none) rfl Tryz.underlying25 rfl rfl) rfl rfl rfl ?_
      refine at_nil ?_
      refine at_normal ?_
      refine hK10 _ _ _ ?_
      refine at_cond_true rfl ?_
      refine at_seq_k (fun K11 hK11 => ?_)
      refine at_region ?_
      refine at_v (ov_assign rfl rfl) rfl rfl rfl ?_
      refine at_nil ?_
      refine at_normal ?_
      refine hK11 _ _ _ ?_
      refine at_ret ?_
      refine at_then_ret ?_
      refine at_end ?_
      refine at_fin (rsV rfl (res_tmp rfl)) ?_
      refine ⟨_, ⟨rfl, rfl⟩, ?_⟩
      exact fun _ s => s.finEq (ks := []) (js := []) rfl rfl rfl
  | true =>
    obtain ⟨g, rfl, rfl⟩ := hp0 rfl
    have hb : 0 ≤ wait ∧ wait ≤ 12 ∧ 1 ≤ room ∧ room ≤ 6 ∧ idle ≠ 0 := by simpa using hq0
    clear hq0 hq1 hp0
    have hw0 : Wf 0 (initP room idle wait) := wf_init ⟨hb.1, hb.2.1, hb.2.2.1, hb.2.2.2.1⟩
    simp only [List.cons_append, List.nil_append]
    refine at_v (ov_move rfl rfl) rfl rfl rfl ?_
    refine at_v (ov_extract rfl rfl rfl) rfl rfl rfl ?_
    refine at_v (ov_extract rfl rfl rfl) rfl rfl rfl ?_
    refine at_v (ov_assign rfl rfl) rfl rfl rfl ?_
    refine at_v (ov_assign rfl rfl) rfl rfl rfl ?_
    refine at_nil ?_
    refine at_normal ?_
    refine hK5 _ _ _ ?_
    refine at_seq_k (fun K6 hK6 => ?_)
    refine at_region ?_
    refine at_v (ov_move rfl rfl) rfl rfl rfl ?_
    refine at_v (ov_move rfl rfl) rfl rfl rfl ?_
    refine at_v (ov_move rfl rfl) rfl rfl rfl ?_
    refine at_t (ot_call (ks := []) rfl rfl rfl Tryz.call6 rfl (T6 _ _ _ _) rfl) rfl rfl rfl ?_
    rintro v0 _ ⟨m0, hp0, rfl⟩
    obtain ⟨b0, hp0⟩ := hp0
    obtain ⟨hq0, hp0⟩ := hp0
    obtain ⟨hq1, hp0⟩ := hp0
    cases b0 with
    | false => exact absurd hb (by simpa using hq0)
    | true =>
      obtain ⟨g2, rfl, rfl⟩ := hp0 rfl
      clear hq0 hq1 hp0
      simp only [List.cons_append, List.nil_append]
      refine at_v (ov_move rfl rfl) rfl rfl rfl ?_
      refine at_v (ov_extract rfl rfl rfl) rfl rfl rfl ?_
      refine at_v (ov_extract rfl rfl rfl) rfl rfl rfl ?_
      refine at_v (ov_assign rfl rfl) rfl rfl rfl ?_
      refine at_v (ov_assign rfl rfl) rfl rfl rfl ?_
      refine at_nil ?_
      refine at_normal ?_
      refine hK6 _ _ _ ?_
      refine at_seq_k (fun K7 hK7 => ?_)
      refine at_seq_k (fun K8 hK8 => ?_)
      refine at_region ?_
      refine at_v (ov_move rfl rfl) rfl rfl rfl ?_
      refine at_v (ov_move rfl rfl) rfl rfl rfl ?_
      refine at_v (ov_int rfl rfl rfl rfl) rfl rfl rfl ?_
      refine at_v (ov_move rfl rfl) rfl rfl rfl ?_
      refine at_wanted (j := 3) rfl ?_
      refine at_v (ov_move rfl rfl) rfl rfl rfl ?_
      refine at_wanted (j := 3) rfl ?_
      refine at_v (ov_ptr_nil (q := none) rfl Tryz.underlying25 rfl rfl) rfl rfl rfl ?_
      refine at_wanted (j := 3) rfl ?_
      refine at_v (ov_move rfl rfl) rfl rfl rfl ?_
      refine at_wanted (j := 3) rfl ?_
      refine at_v (ov_ptr_nil (q := none) rfl Tryz.underlying29 rfl rfl) rfl rfl rfl ?_
      refine at_wanted (j := 3) rfl ?_
      refine at_v (ov_boolne rfl Tryz.underlying4 rfl rfl) rfl rfl rfl ?_
      refine at_v (ov_pick_f rfl rfl rfl) rfl rfl rfl ?_
      refine at_nil ?_
      refine at_normal ?_
      refine hK8 _ _ _ ?_
      refine at_cond_false rfl ?_
      refine at_skip ?_
      refine at_normal ?_
      refine hK7 _ _ _ ?_
      refine at_seq_k (fun K9 hK9 => ?_)
      refine at_seq_k (fun K10 hK10 => ?_)
      refine at_region ?_
      refine at_v (ov_move rfl rfl) rfl rfl rfl ?_
      refine at_v (ov_ptr_nil (q := none) rfl Tryz.underlying25 rfl rfl) rfl rfl rfl ?_
      refine at_nil ?_
      refine at_normal ?_
      refine hK10 _ _ _ ?_
      refine at_cond_false rfl ?_
      refine at_skip ?_
      refine at_normal ?_
      refine hK9 _ _ _ ?_
      refine at_seq_k (fun K11 hK11 => ?_)
      refine at_seq_k (fun K12 hK12 => ?_)
      refine at_region ?_
      refine at_v (ov_move rfl rfl) rfl rfl rfl ?_
      refine at_v (ov_len_slice rfl Tryz.underlying23 rfl) rfl rfl rfl ?_
      refine at_v (ov_move rfl rfl) rfl rfl rfl ?_
      refine at_nil ?_
      refine at_normal ?_
      refine hK12 _ _ _ ?_
      refine at_block ?_
      refine at_loopE [49, 50, 51, 14, 52, 53, 54, 55, 56, 57, 58, 59, 60, 61, 62, 63, 64, 65, 66, 67, 68, 69, 70, 71, 72, 73, 74, 75, 76, 77, 78, 79, 80, 8, 81, 48] (fun k => k ≤ l.length) (fun k => [(48, .int .i64 (k : Nat))]) (fun k m => setAt 0 (RO g2 (runP (initP room idle wait) (l.take k))) (setAt 1 (PO g (runP (initP room idle wait) (l.take k))) m)) (fun k => l.length - k) 0 (Nat.zero_le _) ⟨rfl, trivial⟩ (fun _ s => s) ?_
      intro k hk
      simp only [setAt]
      have hwk := wf_runK hw0 hl hok k
      have hrs : ∀ h : k < l.length, runP (initP room idle wait) (l.take (k + 1)) = doP (runP (initP room idle wait) (l.take k)) l[k] := fun h => runP_succ _ _ _ h
      generalize runP (initP room idle wait) (l.take k) = p at hwk hrs ⊢
      refine at_seq_k (fun K13 hK13 => ?_)
      refine at_region ?_
      refine at_v (ov_int rfl rfl rfl rfl) rfl rfl rfl ?_
      refine at_nil ?_
      refine at_normal ?_
      refine hK13 _ _ _ ?_
      refine at_seq_k (fun K14 hK14 => ?_)
      refine at_cond rfl (fun hc => ?_) (fun hc => ?_)
      · have hlt : k < l.length := by simpa using hc
        have hget : l[k]? = some l[k] := List.getElem?_eq_getElem hlt
        have hxok := hok l[k] (List.mem_of_getElem? hget)
        have hrs := hrs hlt
        generalize l[k] = x at hget hxok hrs
        have hw2 := hwk.do_ (by omega) x hxok
        have h6 := hw2.h6
        have hL12 : (doP p x).L.length ≤ 12 := by have := hw2.lenL; have := hw2.wm_; omega
        refine at_skip ?_
        refine at_normal ?_
        refine hK14 _ _ _ ?_
        refine at_seq_k (fun K15 hK15 => ?_)
        refine at_block ?_
        refine at_seq_k (fun K16 hK16 => ?_)
        refine at_region ?_
        refine at_v (ov_indexRd (fun _ s => hr.up s) rfl Tryz.underlying23 rfl rfl rfl hget) rfl rfl rfl ?_
        refine at_v (ov_loadRdS (vs := [_, _, _, _, _, _]) (fun _ s => hr.up s) rfl rfl rfl hget rfl rfl) rfl rfl rfl ?_
        refine at_t (ot_allocA rfl Tryz.zeroValue33) rfl rfl rfl ?_
        rintro _ _ ⟨g0, rfl, rfl⟩
        refine at_t0 (ot_store (k := 0) rfl rfl rfl rfl rfl rfl rfl) rfl rfl ?_
        rintro _ _ ⟨rfl, rfl⟩
        simp only [setAt, splice, spliceL, Value.cells]
        refine at_nil ?_
        refine at_normal ?_
        refine hK16 _ _ _ ?_
        refine at_seq_k (fun K17 hK17 => ?_)
        refine at_drawTo (f0 := 8) [] 1000 [(2, 0), (1, 1), (2, 3), (1, 4), (0, 2), (0, 5), (2, 6), (2, 7), (2, 8), (2, 11), (0, 9), (0, 10), (0, 12), (0, 13), (2, 14), (2, 15), (2, 16), (2, 17), (2, 19), (2, 20), (2, 21)] (by kernel_rfl) (by kernel_rfl) (by kernel_rfl) (fun _ s => (s.pulls (ks := [0]) rfl).left) ?_
        refine aq_p (ov_move rfl rfl) rfl rfl rfl ?_
        refine aq_v (ov_loadS (cs := [_, _, _, _, _, _]) rfl rfl rfl rfl (fun _ s => s.lds (k := 0) rfl ⟨rfl, rfl, rfl, rfl, rfl, rfl, trivial⟩)) rfl rfl rfl ?_
        refine aq_p (ov_move rfl rfl) rfl rfl rfl ?_
        refine aq_v (ov_loadS (cs := [_, _, _, _, _, _]) rfl rfl rfl rfl (fun _ s => s.lds (k := 0) rfl ⟨rfl, rfl, rfl, rfl, rfl, rfl, trivial⟩)) rfl rfl rfl ?_
        refine aq_t (ot_call (ks := [2]) rfl rfl rfl Tryz.call7 rfl (T7 _ _ (by first | assumption | rfl | omega | decide | (simp; done) | (simp at *; omega)) (by first | assumption | rfl | omega | decide | (simp; done) | (simp at *; omega))) rfl) rfl rfl rfl ?_
        rintro v0 _ ⟨m0, hp0, rfl⟩
        obtain ⟨rfl, rfl⟩ := hp0
        simp only [List.cons_append, List.nil_append, splice, spliceL]
        refine ⟨fun _ s => (s.pulls (ks := [1]) rfl).left, ?_⟩
        refine aq_t (ot_call (ks := [2]) rfl rfl rfl Tryz.call8 rfl (T8 _ _ (by first | assumption | rfl | omega | decide | (simp; done) | (simp at *; omega)) (by first | assumption | rfl | omega | decide | (simp; done) | (simp at *; omega))) rfl) rfl rfl rfl ?_
        rintro v0 _ ⟨m0, hp0, rfl⟩
        obtain ⟨rfl, rfl⟩ := hp0
        simp only [List.cons_append, List.nil_append, splice, spliceL]
        refine ⟨fun _ s => (s.pulls (ks := [2]) rfl).left, ?_⟩
        refine aq_p (ov_neS rfl (by kernel_rfl) rfl rfl rfl rfl) rfl rfl rfl ?_
        refine aq_p (ov_move rfl rfl) rfl rfl rfl ?_
        refine at_reval 59 (.bool false) rfl (congrArg Value.bool (by simp; done)) ?_
        refine aq_wanted (j := 7) rfl ?_
        refine aq_p (ov_move rfl rfl) rfl rfl rfl ?_
        refine aq_wanted (j := 7) rfl ?_
        refine aq_p (ov_move rfl rfl) rfl rfl rfl ?_
        refine aq_wanted (j := 7) rfl ?_
        refine aq_t (ot_call (ks := [1]) rfl rfl rfl Tryz.call11 rfl (T11a _ (by first | assumption | rfl | omega | decide | (simp; done) | (simp at *; omega))) rfl) rfl rfl rfl ?_
        rintro v0 _ ⟨m0, hp0, rfl⟩
        obtain ⟨A0, hp0⟩ := hp0
        obtain ⟨c0, hp0⟩ := hp0
        obtain ⟨rfl, rfl⟩ := hp0
        simp only [List.cons_append, List.nil_append, splice, spliceL]
        refine ⟨fun _ s => (s.pulls (ks := [3]) rfl).left, ?_⟩
        refine aq_wanted (j := 7) rfl ?_
        refine aq_t (ot_call (ks := [0]) rfl rfl rfl Tryz.call10 rfl (T10 _ (by first | assumption | rfl | omega | decide | (simp; done) | (simp at *; omega))) rfl) rfl rfl rfl ?_
        rintro v0 _ ⟨m0, hp0, rfl⟩
        obtain ⟨B0, hp0⟩ := hp0
        obtain ⟨e0, hp0⟩ := hp0
        obtain ⟨rfl, rfl⟩ := hp0
        simp only [List.cons_append, List.nil_append, splice, spliceL]
        refine ⟨fun _ s => (s.pulls (ks := [4]) rfl).left, ?_⟩
        refine aq_wanted (j := 7) rfl ?_
        refine aq_t (ot_call (ks := [3]) rfl rfl rfl Tryz.call12 rfl (T12 _ (by first | assumption | rfl | omega | decide | (simp; done) | (simp at *; omega))) rfl) rfl rfl rfl ?_
        rintro v0 _ ⟨m0, hp0, rfl⟩
        obtain ⟨A1, hp0⟩ := hp0
        obtain ⟨c1, hp0⟩ := hp0
        obtain ⟨rfl, rfl⟩ := hp0
        simp only [List.cons_append, List.nil_append, splice, spliceL]
        refine ⟨fun _ s => (s.pulls (ks := [5]) rfl).left, ?_⟩
        refine aq_wanted (j := 7) rfl ?_
        refine aq_t (ot_call (ks := [2, 0]) rfl rfl rfl Tryz.call9 rfl (T9a _ (by first | assumption | rfl | omega | decide | (simp; done) | (simp at *; omega)) (by first | assumption | rfl | omega | decide | (simp; done) | (simp at *; omega))) rfl) rfl rfl rfl ?_
        rintro v0 _ ⟨m0, hp0, rfl⟩
        obtain ⟨rfl, rfl⟩ := hp0
        simp only [List.cons_append, List.nil_append, splice, spliceL]
        refine ⟨fun _ s => (s.pulls (ks := [5]) rfl).left, ?_⟩
        refine aq_wanted (j := 7) rfl ?_
        refine aq_p (ov_not rfl rfl) rfl rfl rfl ?_
        refine aq_p (ov_pick_f rfl rfl rfl) rfl rfl rfl ?_
        refine aq_p (ov_move rfl rfl) rfl rfl rfl ?_
        refine aq_wanted (j := 16) rfl ?_
        refine aq_p (ov_move rfl rfl) rfl rfl rfl ?_
        refine aq_wanted (j := 16) rfl ?_
        refine aq_p (ov_move rfl rfl) rfl rfl rfl ?_
        refine aq_wanted (j := 16) rfl ?_
        refine aq_p (ov_nilCheck rfl rfl) rfl rfl rfl ?_
        refine aq_wanted (j := 16) rfl ?_
        refine aq_p (ov_fieldAddr (k := 2) (r := 2) rfl rfl rfl rfl) rfl rfl rfl ?_
        refine aq_nil ?_
        refine at_pulls [2] rfl ?_
        refine at_ref fun wb PA0 pc ps hps => ?_
        refine at_pulls [1] rfl ?_
        refine at_ex fun LA => at_ex fun lc => at_open ?_
        simp only [List.cons_append, List.nil_append]
        refine at_fork (i := 18) (j := 22) (by kernel_rfl) (by kernel_rfl) (fun _ s => (s.pulls (ks := [9]) rfl).left) rfl rfl ?_ ?_
        · refine aq_wanted (j := 16) rfl ?_
          refine aq_t (ot_call (ks := [8]) rfl rfl rfl Tryz.call14 rfl (T14 _) rfl) rfl rfl rfl ?_
          rintro v0 _ ⟨m0, hp0, rfl⟩
          obtain ⟨A2, hp0⟩ := hp0
          obtain ⟨c2, hp0⟩ := hp0
          obtain ⟨rfl, rfl⟩ := hp0
          simp only [List.cons_append, List.nil_append, splice, spliceL]
          refine ⟨fun _ s => (s.pulls (ks := [10]) rfl).left, ?_⟩
          refine aq_nil ?_
          refine at_next (f0 := 0) [(0, 22), (2, 23), (2, 24), (0, 25), (0, 26), (2, 27), (2, 28)] (by kernel_rfl) (by kernel_rfl) (fun _ s => (s.pulls (ks := [10]) rfl).left) ?_
          refine aq_wanted (j := 16) rfl ?_
          refine aq_v0 (ov_load rfl rfl rfl (fun _ s => s.ld (k := 4) rfl rfl)) rfl rfl rfl ?_
          refine ⟨fun _ s => (s.pulls (ks := [10]) rfl).left, ?_⟩
          refine aq_wanted (j := 16) rfl ?_
          refine aq_p (ov_nilCheck rfl rfl) rfl rfl rfl ?_
          refine aq_wanted (j := 16) rfl ?_
          refine aq_p (ov_fieldAddr (k := 0) (r := 0) rfl rfl rfl rfl) rfl rfl rfl ?_
          refine aq_wanted (j := 16) rfl ?_
          refine aq_v0 (ov_load rfl rfl rfl (fun _ s => s.ld (k := 2) rfl rfl)) rfl rfl rfl ?_
          refine ⟨fun _ s => (s.pulls (ks := [10]) rfl).left, ?_⟩
          refine aq_wanted (j := 16) rfl ?_
          refine aq_t (ot_call (ks := [0, 2]) rfl rfl rfl Tryz.call13 rfl (T13a _ (by first | assumption | rfl | omega | decide | (simp; done) | (simp at *; omega)) (by first | assumption | rfl | omega | decide | (simp; done) | (simp at *; omega))) rfl) rfl rfl rfl ?_
          rintro v0 _ ⟨m0, hp0, rfl⟩
          obtain ⟨rfl, rfl⟩ := hp0
          simp only [List.cons_append, List.nil_append, splice, spliceL]
          refine ⟨fun _ s => (s.pulls (ks := [10]) rfl).left, ?_⟩
          refine aq_wanted (j := 16) rfl ?_
          refine aq_p (ov_not rfl rfl) rfl rfl rfl ?_
          refine aq_p (ov_pick_f rfl rfl rfl) rfl rfl rfl ?_
          refine aq_nil ?_
          refine at_leaf (by kernel_rfl) ?_
          refine at_normal ?_
          refine hK17 _ _ _ ?_
          refine at_cond_false rfl ?_
          refine at_skip ?_
          refine at_inb_normal ?_
          refine at_normal ?_
          refine hK15 _ _ _ ?_
          refine at_region ?_
          refine at_v ((ov_int rfl rfl rfl rfl).eq (congrArg (Value.int .i64) (inK_i64 (by omega) (by omega)))) rfl rfl rfl ?_
          refine at_v (ov_move rfl rfl) rfl rfl rfl ?_
          refine at_nil ?_
          refine at_normal ?_
          refine at_fold (A := RowR wb (doP p x).wm (doP p x).L) [3, 1] rfl (fun h s => ⟨LA, lc, s⟩) ?_
          refine at_fold (A := RefA g2 (doP p x).most (doP p x).idle (doP p x).wm (doP p x).last (doP p x).L (doP p x).cs) [3, 0, 2, 2] rfl (fun h s => ⟨wb, PA0, pc, ps, hps, s⟩) ?_
          refine at_roundF (k + 1) hlt (by omega) ⟨rfl, trivial⟩ rfl ?_
          rw [hrs]
          exact fun _ s => s.finEq (ks := [0, 1]) (js := [0, 0, 0, 0, 0]) rfl rfl rfl
        · refine aq_wanted (j := 16) rfl ?_
          refine aq_v0 (ov_load rfl rfl rfl (fun _ s => s.ld (k := 2) rfl rfl)) rfl rfl rfl ?_
          refine ⟨fun _ s => (s.pulls (ks := [9]) rfl).left, ?_⟩
          refine aq_nil ?_
          refine at_next (f0 := 5) [(2, 23), (2, 24)] (by kernel_rfl) (by kernel_rfl) (fun _ s => (s.pulls (ks := [9]) rfl).left) ?_
          refine aq_wanted (j := 16) rfl ?_
          refine aq_p (ov_nilCheck rfl rfl) rfl rfl rfl ?_
          refine aq_wanted (j := 16) rfl ?_
          refine aq_p (ov_fieldAddr (k := 0) (r := 0) rfl rfl rfl rfl) rfl rfl rfl ?_
          refine aq_nil ?_
          refine at_fork (i := 18) (j := 25) (by kernel_rfl) (by kernel_rfl) (fun _ s => (s.pulls (ks := [9]) rfl).left) rfl rfl ?_ ?_
          · refine aq_wanted (j := 16) rfl ?_
            refine aq_t (ot_call (ks := [8]) rfl rfl rfl Tryz.call14 rfl (T14 _) rfl) rfl rfl rfl ?_
            rintro v0 _ ⟨m0, hp0, rfl⟩
            obtain ⟨A2, hp0⟩ := hp0
            obtain ⟨c2, hp0⟩ := hp0
            obtain ⟨rfl, rfl⟩ := hp0
            simp only [List.cons_append, List.nil_append, splice, spliceL]
            refine ⟨fun _ s => (s.pulls (ks := [10]) rfl).left, ?_⟩
            refine aq_nil ?_
            refine at_next (f0 := 0) [(0, 25), (0, 26), (2, 27), (2, 28)] (by kernel_rfl) (by kernel_rfl) (fun _ s => (s.pulls (ks := [10]) rfl).left) ?_
            refine aq_wanted (j := 16) rfl ?_
            refine aq_v0 (ov_load rfl rfl rfl (fun _ s => s.ld (k := 2) rfl rfl)) rfl rfl rfl ?_
            refine ⟨fun _ s => (s.pulls (ks := [10]) rfl).left, ?_⟩
            refine aq_wanted (j := 16) rfl ?_
            refine aq_t (ot_call (ks := [0, 2]) rfl rfl rfl Tryz.call13 rfl (T13a _ (by first | assumption | rfl | omega | decide | (simp; done) | (simp at *; omega)) (by first | assumption | rfl | omega | decide | (simp; done) | (simp at *; omega))) rfl) rfl rfl rfl ?_
            rintro v0 _ ⟨m0, hp0, rfl⟩
            obtain ⟨rfl, rfl⟩ := hp0
            simp only [List.cons_append, List.nil_append, splice, spliceL]
            refine ⟨fun _ s => (s.pulls (ks := [10]) rfl).left, ?_⟩
            refine aq_wanted (j := 16) rfl ?_
            refine aq_p (ov_not rfl rfl) rfl rfl rfl ?_
            refine aq_p (ov_pick_f rfl rfl rfl) rfl rfl rfl ?_
            refine aq_nil ?_
            refine at_leaf (by kernel_rfl) ?_
            refine at_normal ?_
            refine hK17 _ _ _ ?_
            refine at_cond_false rfl ?_
            refine at_skip ?_
            refine at_inb_normal ?_
            refine at_normal ?_
            refine hK15 _ _ _ ?_
            refine at_region ?_
            refine at_v ((ov_int rfl rfl rfl rfl).eq (congrArg (Value.int .i64) (inK_i64 (by omega) (by omega)))) rfl rfl rfl ?_
            refine at_v (ov_move rfl rfl) rfl rfl rfl ?_
            refine at_nil ?_
            refine at_normal ?_
            refine at_fold (A := RowR wb (doP p x).wm (doP p x).L) [3, 1] rfl (fun h s => ⟨LA, lc, s⟩) ?_
            refine at_fold (A := RefA g2 (doP p x).most (doP p x).idle (doP p x).wm (doP p x).last (doP p x).L (doP p x).cs) [3, 0, 2, 2] rfl (fun h s => ⟨wb, PA0, pc, ps, hps, s⟩) ?_
            refine at_roundF (k + 1) hlt (by omega) ⟨rfl, trivial⟩ rfl ?_
            rw [hrs]
            exact fun _ s => s.finEq (ks := [0, 1]) (js := [0, 0, 0, 0, 0]) rfl rfl rfl
          · refine aq_wanted (j := 16) rfl ?_
            refine aq_v0 (ov_load rfl rfl rfl (fun _ s => s.ld (k := 0) rfl rfl)) rfl rfl rfl ?_
            refine ⟨fun _ s => (s.pulls (ks := [9]) rfl).left, ?_⟩
            refine aq_nil ?_
            refine at_next (f0 := 0) [(0, 18), (0, 26), (2, 27), (2, 28)] (by kernel_rfl) (by kernel_rfl) (fun _ s => (s.pulls (ks := [9]) rfl).left) ?_
            refine aq_wanted (j := 16) rfl ?_
            refine aq_t (ot_call (ks := [8]) rfl rfl rfl Tryz.call14 rfl (T14 _) rfl) rfl rfl rfl ?_
            rintro v0 _ ⟨m0, hp0, rfl⟩
            obtain ⟨A2, hp0⟩ := hp0
            obtain ⟨c2, hp0⟩ := hp0
            obtain ⟨rfl, rfl⟩ := hp0
            simp only [List.cons_append, List.nil_append, splice, spliceL]
            refine ⟨fun _ s => (s.pulls (ks := [10]) rfl).left, ?_⟩
            refine aq_wanted (j := 16) rfl ?_
            refine aq_t (ot_call (ks := [0, 2]) rfl rfl rfl Tryz.call13 rfl (T13a _ (by first | assumption | rfl | omega | decide | (simp; done) | (simp at *; omega)) (by first | assumption | rfl | omega | decide | (simp; done) | (simp at *; omega))) rfl) rfl rfl rfl ?_
            rintro v0 _ ⟨m0, hp0, rfl⟩
            obtain ⟨rfl, rfl⟩ := hp0
            simp only [List.cons_append, List.nil_append, splice, spliceL]
            refine ⟨fun _ s => (s.pulls (ks := [10]) rfl).left, ?_⟩
            refine aq_wanted (j := 16) rfl ?_
            refine aq_p (ov_not rfl rfl) rfl rfl rfl ?_
            refine aq_p (ov_pick_f rfl rfl rfl) rfl rfl rfl ?_
            refine aq_nil ?_
            refine at_leaf (by kernel_rfl) ?_
            refine at_normal ?_
            refine hK17 _ _ _ ?_
            refine at_cond_false rfl ?_
            refine at_skip ?_
            refine at_inb_normal ?_
            refine at_normal ?_
            refine hK15 _ _ _ ?_
            refine at_region ?_
            refine at_v ((ov_int rfl rfl rfl rfl).eq (congrArg (Value.int .i64) (inK_i64 (by omega) (by omega)))) rfl rfl rfl ?_
            refine at_v (ov_move rfl rfl) rfl rfl rfl ?_
            refine at_nil ?_
            refine at_normal ?_
            refine at_fold (A := RowR wb (doP p x).wm (doP p x).L) [3, 1] rfl (fun h s => ⟨LA, lc, s⟩) ?_
            refine at_fold (A := RefA g2 (doP p x).most (doP p x).idle (doP p x).wm (doP p x).last (doP p x).L (doP p x).cs) [3, 0, 2, 2] rfl (fun h s => ⟨wb, PA0, pc, ps, hps, s⟩) ?_
            refine at_roundF (k + 1) hlt (by omega) ⟨rfl, trivial⟩ rfl ?_
            rw [hrs]
            exact fun _ s => s.finEq (ks := [0, 1]) (js := [0, 0, 0, 0, 0]) rfl rfl rfl
      · refine at_exit ?_
        refine at_then_exit ?_
        refine at_then_exit ?_
        refine at_exit_eq ?_
        refine at_normal ?_
        refine hK11 _ _ _ ?_
        refine at_seq_k (fun K15 hK15 => ?_)
        refine at_region ?_
        refine at_v (ov_assign rfl rfl) rfl rfl rfl ?_
        refine at_nil ?_
        refine at_normal ?_
        refine hK15 _ _ _ ?_
        refine at_ret ?_
        refine at_end ?_
        refine at_fin (rsV rfl (res_tmp rfl)) ?_
        refine ⟨_, ⟨rfl, rfl⟩, ?_⟩
        exact fun _ s => s.finEq (ks := []) (js := [0, 0]) rfl rfl rfl
