/- SessionOrder, walked. -/
import Derived.Test.YtmhoimnochigjaaProg
import Derived.Test.YtmhoimnochigjaaSession2
import Derived.Test.YtmhoimnochigjaaSLRow
import Derived.KernelRfl
set_option linter.unusedSimpArgs false
set_option linter.unusedVariables false
set_option maxRecDepth 100000
set_option maxHeartbeats 4000000
namespace Go.Proofs.Ytmhoimnochigjaa
open Go Go.Proofs.Ytmhoimnochigjaa.SL Go.RowKit
/-- The requests that a client's acts let stand. -/
def came (s : SM) (x : AM) : List Rq := if x.d = 0 then (if s.reqs.length ≥ 8 then s.reqs else s.reqs ++ [x.q]) else if x.d = 1 then s.reqs.drop 1 else s.reqs
theorem came_eq (s : SM) (v : VM) (x : AM) : (doS s v x).reqs = came s x := by
  unfold doS came SM.push SM.pop SM.begin SM.end_ SM.abort SM.wrote SM.learn SM.ack SM.verdict
  by_cases h0 : x.d = 0
  · simp only [h0, if_true]; split <;> rfl
  · by_cases h1 : x.d = 1
    · simp [h1]
    · simp only [h0, h1, if_false]
      (repeat' split) <;> rfl
theorem reqs_le (s : SM) (v : VM) (x : AM) (h : s.reqs.length ≤ 8) : (doS s v x).reqs.length ≤ 8 := by
  rw [came_eq]
  unfold came
  (repeat' split) <;> first | exact h | (simp; omega)
theorem runS_reqs (l : List AM) (k : Nat) (h : k ≤ l.length) : (runS (l.take k)).1.reqs.length ≤ 8 := by
  induction k with
  | zero => simp [runS, SM.new]
  | succ k ih => rw [runS_succ l k h]; exact reqs_le _ _ _ (ih (by omega))
theorem T3 (w0 : World) (A : Option Addr) (c : Nat) (l : List AM) (hr : Rd actE w0 10 A l) (hm : l.length ≤ 9223372036854775807) : Tri Try.prog w0 3 [.slice A l.length c] [] fun v m => v = .bool true ∧ m = [] := by
  refine tri_of Try.func3 rfl rfl fun F => ?_
  simp only [Try.ntmps3, argEnv, List.cons_append, List.nil_append]
  refine at_seq_k (fun K0 hK0 => ?_)
  refine at_region ?_
  refine at_v (ov_assign rfl rfl) rfl rfl rfl ?_
  refine at_nil ?_
  refine at_normal ?_
  refine hK0 _ _ ?_
  refine at_seq_k (fun K1 hK1 => ?_)
  refine at_seq_k (fun K2 hK2 => ?_)
  refine at_region ?_
  refine at_t (ot_call (ks := []) rfl rfl rfl Try.call6 rfl (T6 _) rfl) rfl rfl rfl ?_
  rintro v0 _ ⟨m0, hp0, rfl⟩
  obtain ⟨rfl, rfl⟩ := hp0
  simp only [List.cons_append, List.nil_append]
  refine at_v (ov_not rfl rfl) rfl rfl rfl ?_
  refine at_nil ?_
  refine at_normal ?_
  refine hK2 _ _ ?_
  refine at_cond_false rfl ?_
  refine at_skip ?_
  refine at_normal ?_
  refine hK1 _ _ ?_
  refine at_seq_k (fun K3 hK3 => ?_)
  refine at_seq_k (fun K4 hK4 => ?_)
  refine at_region ?_
  refine at_v (ov_move rfl rfl) rfl rfl rfl ?_
  refine at_t (ot_call (ks := []) rfl rfl rfl Try.call7 rfl (T7 _ _ _ _ (by first | assumption | omega | decide | (simp; done) | (simp at *; omega)) (by first | assumption | omega | decide | (simp; done) | (simp at *; omega))) rfl) rfl rfl rfl ?_
  rintro v0 _ ⟨m0, hp0, rfl⟩
  obtain ⟨b0, hp0⟩ := hp0
  obtain ⟨hq0, hp0⟩ := hp0
  obtain ⟨rfl, rfl⟩ := hp0
  simp only [List.cons_append, List.nil_append]
  refine at_nil ?_
  refine at_normal ?_
  refine hK4 _ _ ?_
  refine at_cond rfl (fun h => ?_) (fun h => ?_)
  · refine at_seq_k (fun K5 hK5 => ?_)
    refine at_region ?_
    refine at_v (ov_assign rfl rfl) rfl rfl rfl ?_
    refine at_nil ?_
    refine at_normal ?_
    refine hK5 _ _ ?_
    refine at_ret ?_
    refine at_then_ret ?_
    refine at_end ?_
    refine at_fin (rsV rfl (res_tmp rfl)) ?_
    refine ⟨_, ⟨rfl, rfl⟩, ?_⟩
    exact fun _ s => s.finEq (ks := []) (js := []) rfl rfl rfl
  · have hl := hq0 h
    refine at_rowNil rqE 32 3 ?_
    refine at_skip ?_
    refine at_normal ?_
    refine hK3 _ _ ?_
    refine at_seq_k (fun K5 hK5 => ?_)
    refine at_region ?_
    refine at_t (ot_call (ks := []) rfl rfl rfl Try.call8 rfl (T8 _) rfl) rfl rfl rfl ?_
    rintro v0 _ ⟨m0, hp0, rfl⟩
    obtain ⟨g0, hp0⟩ := hp0
    obtain ⟨rfl, rfl⟩ := hp0
    simp only [List.cons_append, List.nil_append]
    refine at_t (ot_call (ks := []) rfl rfl rfl Try.call9 rfl (T9 _ _) rfl) rfl rfl rfl ?_
    rintro v0 _ ⟨m0, hp0, rfl⟩
    obtain ⟨g1, hp0⟩ := hp0
    obtain ⟨rfl, rfl⟩ := hp0
    simp only [List.cons_append, List.nil_append]
    refine at_v (ov_assign rfl rfl) rfl rfl rfl ?_
    refine at_v (ov_assign rfl rfl) rfl rfl rfl ?_
    refine at_nil ?_
    refine at_normal ?_
    refine hK5 _ _ ?_
    refine at_seq_k (fun K6 hK6 => ?_)
    refine at_region ?_
    refine at_v (ov_assign rfl rfl) rfl rfl rfl ?_
    refine at_nil ?_
    refine at_normal ?_
    refine hK6 _ _ ?_
    refine at_seq_k (fun K7 hK7 => ?_)
    refine at_seq_k (fun K8 hK8 => ?_)
    refine at_region ?_
    refine at_v (ov_move rfl rfl) rfl rfl rfl ?_
    refine at_v (ov_len_slice rfl Try.underlying22 rfl) rfl rfl rfl ?_
    refine at_v (ov_move rfl rfl) rfl rfl rfl ?_
    refine at_nil ?_
    refine at_normal ?_
    refine hK8 _ _ ?_
    refine at_block ?_
    refine at_loopE [20, 21, 22, 7, 23, 24, 25, 26, 8, 27, 28, 29, 30, 31, 32, 33, 34, 35, 36, 37, 38, 39, 5, 40, 41, 42, 43, 44, 45, 46, 47, 48, 49, 50, 2, 51, 52, 53, 54, 55, 56, 57, 58, 59, 61, 62, 63, 64, 60, 65, 66, 9, 10, 67, 68, 69, 70, 71, 72, 73, 74, 75, 76, 77, 78, 79, 80, 81, 82, 83, 84, 85, 86, 87, 88, 89, 90, 91, 92, 93, 94, 95, 96, 19] (ι := Nat × Option Addr × Nat) (fun i => i.1 ≤ l.length) (fun i => [(19, .int .i64 (i.1 : Nat)), (5, .slice i.2.1 (runS (l.take i.1)).1.reqs.length i.2.2)]) (fun i m => setAt 0 (ViewA g1 (runS (l.take i.1)).2) (setAt 1 (SessA g0 (runS (l.take i.1)).1) (setAt 2 (Row rqE 32 3 i.2.1 i.2.2 (runS (l.take i.1)).1.reqs) m))) (fun i => l.length - i.1) (0, none, 0) (Nat.zero_le _) ⟨rfl, rfl, trivial⟩ (fun _ s => s) ?_
    rintro ⟨k, A1, c1⟩ hk
    simp only [setAt] at hk ⊢
    have hcl := runS_len l k hk
    have hrl := runS_reqs l k hk
    generalize hst : runS (l.take k) = st at hcl hrl ⊢
    obtain ⟨s, v⟩ := st
    simp only [] at hcl hrl ⊢
    refine at_seq_k (fun K9 hK9 => ?_)
    refine at_region ?_
    refine at_v (ov_int rfl rfl rfl rfl) rfl rfl rfl ?_
    refine at_nil ?_
    refine at_normal ?_
    refine hK9 _ _ ?_
    refine at_seq_k (fun K10 hK10 => ?_)
    refine at_cond rfl (fun hc => ?_) (fun hc => ?_)
    · have hlt : k < l.length := by simpa using hc
      have hget : l[k]? = some l[k] := List.getElem?_eq_getElem hlt
      have hlen : v.cuts.length ≤ 999999 := by omega
      have hce : (doS s v l[k]).reqs = came s l[k] := came_eq _ _ _
      have hle : (doS s v l[k]).reqs.length ≤ 8 := reqs_le _ _ _ hrl
      by_cases hid : l[k].d = 0
      · by_cases hie : doE s l[k] = 0
        · have hlt8 : ¬ s.reqs.length ≥ 8 := by
            intro h
            simp [doE, hid, SM.pushE, h] at hie
          have hce2 : (doS s v l[k]).reqs = s.reqs ++ [l[k].q] := by rw [hce, came, if_pos hid, if_neg hlt8]
          cases hi2 : (doS s v l[k]).reqs with
          | nil =>
            have hi1 : (doS s v l[k]).some_ = false := by simp [SM.some_, hi2]
            refine at_skip ?_
            refine at_normal ?_
            refine hK10 _ _ ?_
            refine at_seq_k (fun K11 hK11 => ?_)
            refine at_block ?_
            refine at_seq_k (fun K12 hK12 => ?_)
            refine at_region ?_
            refine at_v (ov_indexRd (fun _ s => hr.up s) rfl Try.underlying22 rfl rfl rfl hget) rfl rfl rfl ?_
            refine at_v (ov_loadRdS (vs := [_, _, _, _, _, _, _, _, _, _]) (fun _ s => hr.up s) rfl rfl rfl hget rfl rfl) rfl rfl rfl ?_
            refine at_t (ot_allocA rfl Try.zeroValue36) rfl rfl rfl ?_
            rintro _ _ ⟨g2, rfl, rfl⟩
            refine at_t0 (ot_store (k := 0) rfl rfl rfl rfl rfl rfl rfl) rfl rfl ?_
            rintro _ _ ⟨rfl, rfl⟩
            simp only [setAt, splice, spliceL, Value.cells]
            refine at_nil ?_
            refine at_normal ?_
            refine hK12 _ _ ?_
            refine at_seq_k (fun K13 hK13 => ?_)
            refine at_region ?_
            refine at_v (ov_move rfl rfl) rfl rfl rfl ?_
            refine at_v (ov_move rfl rfl) rfl rfl rfl ?_
            refine at_v (ov_loadS (cs := [_, _, _, _, _, _, _, _, _, _]) rfl rfl rfl rfl (fun _ s => s.lds (k := 0) rfl ⟨rfl, rfl, rfl, rfl, rfl, rfl, rfl, rfl, rfl, rfl, trivial⟩)) rfl rfl rfl ?_
            refine at_t (ot_call (ks := [2, 1]) rfl rfl rfl Try.call10 rfl (T10 _ _ _ _ _ _ (by first | assumption | omega | decide | (simp; done) | (simp at *; omega))) rfl) rfl rfl rfl ?_
            rintro v0 _ ⟨m0, hp0, rfl⟩
            obtain ⟨rfl, rfl⟩ := hp0
            simp only [List.cons_append, List.nil_append]
            refine at_t (ot_allocA rfl Try.zeroValue39) rfl rfl rfl ?_
            rintro _ _ ⟨g3, rfl, rfl⟩
            refine at_t0 (ot_store (k := 0) rfl rfl rfl rfl rfl rfl rfl) rfl rfl ?_
            rintro _ _ ⟨rfl, rfl⟩
            simp only [setAt, splice, spliceL, Value.cells]
            refine at_nil ?_
            refine at_normal ?_
            refine hK13 _ _ ?_
            refine at_seq_k (fun K14 hK14 => ?_)
            refine at_seq_k (fun K15 hK15 => ?_)
            refine at_region ?_
            refine at_v (ov_fieldAddr (k := 0) (r := 0) rfl rfl rfl rfl) rfl rfl rfl ?_
            refine at_v (ov_load rfl rfl rfl (fun _ s => s.ld (k := 3) rfl rfl)) rfl rfl rfl ?_
            refine at_v (ov_int rfl rfl rfl rfl) rfl rfl rfl ?_
            refine at_v (ov_move rfl rfl) rfl rfl rfl ?_
            refine at_reval 30 (.bool true) rfl (congrArg Value.bool (decide_eq_true (by omega))) ?_
            refine at_wanted (j := 3) rfl ?_
            refine at_v (ov_fieldAddr (k := 1) (r := 1) rfl rfl rfl rfl) rfl rfl rfl ?_
            refine at_wanted (j := 3) rfl ?_
            refine at_v (ov_load rfl rfl rfl (fun _ s => s.ld (k := 0) rfl rfl)) rfl rfl rfl ?_
            refine at_wanted (j := 3) rfl ?_
            refine at_v (ov_int rfl rfl rfl rfl) rfl rfl rfl ?_
            refine at_v (ov_pick_t rfl rfl rfl) rfl rfl rfl ?_
            refine at_nil ?_
            refine at_normal ?_
            refine hK15 _ _ ?_
            refine at_cond_true (congrArg (fun b => some (Value.bool b)) (show _ = true from decide_eq_true (by omega))) ?_
            refine at_region ?_
            refine at_v (ov_move rfl rfl) rfl rfl rfl ?_
            refine at_v (ov_fieldAddr (k := 3) (r := 3) rfl rfl rfl rfl) rfl rfl rfl ?_
            refine at_v (ov_loadS (cs := [_, _, _]) rfl rfl rfl rfl (fun _ s => s.lds (k := 3) rfl ⟨rfl, rfl, rfl, trivial⟩)) rfl rfl rfl ?_
            refine at_t (ot_buildSlice (cs := [_, _, _]) rfl Try.underlying29 rfl rfl rfl rfl rfl rfl) rfl rfl rfl ?_
            rintro _ _ ⟨g4, rfl, rfl⟩
            refine at_t (ot_append (k := 5) (size := 3) (bytes := 32) (ys := [l[k].q]) (fun _ s => s.rdPt (k := 0) rfl rfl (by simp [rqE])) rfl Try.underlying29 (ti := Try.t32) rfl rfl rfl rfl rfl (by decide) rfl rfl rfl (by simp [rqE, Value.oneCell']) (by simp; omega) (by decide)) rfl rfl rfl ?_
            rintro _ _ ⟨A0, c0, rfl, rfl⟩
            simp only [setAt]
            rw [← hce2, hi2]
            refine at_v (ov_assign rfl rfl) rfl rfl rfl ?_
            refine at_nil ?_
            refine at_normal ?_
            refine hK14 _ _ ?_
            refine at_seq_k (fun K16 hK16 => ?_)
            refine at_seq_k (fun K17 hK17 => ?_)
            refine at_region ?_
            refine at_v (ov_fieldAddr (k := 0) (r := 0) rfl rfl rfl rfl) rfl rfl rfl ?_
            refine at_v (ov_load rfl rfl rfl (fun _ s => s.ld (k := 4) rfl rfl)) rfl rfl rfl ?_
            refine at_v (ov_int rfl rfl rfl rfl) rfl rfl rfl ?_
            refine at_v (ov_move rfl rfl) rfl rfl rfl ?_
            refine at_reval 43 (.bool false) rfl (congrArg Value.bool (decide_eq_false (by omega))) ?_
            refine at_unwanted (j := 3) rfl rfl rfl rfl ?_
            refine at_unwanted (j := 3) rfl rfl rfl rfl ?_
            refine at_unwanted (j := 3) rfl rfl rfl rfl ?_
            refine at_unwanted (j := 3) rfl rfl rfl rfl ?_
            refine at_unwanted (j := 3) rfl rfl rfl rfl ?_
            refine at_unwanted (j := 3) rfl rfl rfl rfl ?_
            refine at_v (ov_pick_f rfl rfl rfl) rfl rfl rfl ?_
            refine at_nil ?_
            refine at_normal ?_
            refine hK17 _ _ ?_
            refine at_cond_false rfl ?_
            refine at_skip ?_
            refine at_normal ?_
            refine hK16 _ _ ?_
            refine at_seq_k (fun K18 hK18 => ?_)
            refine at_seq_k (fun K19 hK19 => ?_)
            refine at_region ?_
            refine at_v (ov_fieldAddr (k := 0) (r := 0) rfl rfl rfl rfl) rfl rfl rfl ?_
            refine at_v (ov_load rfl rfl rfl (fun _ s => s.ld (k := 4) rfl rfl)) rfl rfl rfl ?_
            refine at_v (ov_int rfl rfl rfl rfl) rfl rfl rfl ?_
            refine at_v (ov_move rfl rfl) rfl rfl rfl ?_
            refine at_reval 54 (.bool false) rfl (congrArg Value.bool (decide_eq_false (by omega))) ?_
            refine at_unwanted (j := 3) rfl rfl rfl rfl ?_
            refine at_unwanted (j := 3) rfl rfl rfl rfl ?_
            refine at_v (ov_pick_f rfl rfl rfl) rfl rfl rfl ?_
            refine at_nil ?_
            refine at_normal ?_
            refine hK19 _ _ ?_
            refine at_cond_false rfl ?_
            refine at_skip ?_
            refine at_normal ?_
            refine hK18 _ _ ?_
            refine at_seq_k (fun K20 hK20 => ?_)
            refine at_region ?_
            refine at_v (ov_move rfl rfl) rfl rfl rfl ?_
            refine at_v (ov_nilCheck rfl rfl) rfl rfl rfl ?_
            refine at_v (ov_fieldAddr (k := 0) (r := 0) rfl rfl rfl rfl) rfl rfl rfl ?_
            refine at_t (ot_call (ks := [2]) rfl rfl rfl Try.call11 rfl (T11 _ _ _) rfl) rfl rfl rfl ?_
            rintro v0 _ ⟨m0, hp0, rfl⟩
            obtain ⟨rfl, rfl⟩ := hp0
            simp only [List.cons_append, List.nil_append]
            refine at_v (ov_move rfl rfl) rfl rfl rfl ?_
            refine at_v (ov_extract rfl rfl rfl) rfl rfl rfl ?_
            refine at_v (ov_extract rfl rfl rfl) rfl rfl rfl ?_
            refine at_t (ot_allocA rfl Try.zeroValue32) rfl rfl rfl ?_
            rintro _ _ ⟨g5, rfl, rfl⟩
            refine at_t0 (ot_store (k := 0) rfl rfl rfl rfl rfl rfl rfl) rfl rfl ?_
            rintro _ _ ⟨rfl, rfl⟩
            simp only [setAt, splice, spliceL, Value.cells]
            refine at_v (ov_assign rfl rfl) rfl rfl rfl ?_
            refine at_nil ?_
            refine at_normal ?_
            refine hK20 _ _ ?_
            refine at_seq_k (fun K21 hK21 => ?_)
            refine at_draw _ [] 1000 [(2, 0), (2, 1), (1, 2), (1, 3), (1, 4), (2, 5), (2, 6), (2, 7), (1, 8), (2, 9), (1, 10), (1, 11), (1, 12), (2, 13), (2, 14), (2, 15), (2, 16), (2, 17), (2, 18), (2, 20), (1, 21), (0, 19), (1, 22), (2, 23), (2, 24), (2, 25), (1, 26), (1, 27), (2, 28)] (by kernel_rfl) (by kernel_rfl) (fun _ s => (s.pulls (ks := [0, 1, 1, 2]) rfl).left) ?_
            refine aq_p (ov_move rfl rfl) rfl rfl rfl ?_
            refine aq_p (ov_move rfl rfl) rfl rfl rfl ?_
            refine aq_v (ov_len_slice rfl Try.underlying29 rfl) rfl rfl rfl ?_
            refine aq_v (ov_int rfl rfl rfl rfl) rfl rfl rfl ?_
            refine aq_v (ov_boolne rfl Try.underlying4 rfl rfl) rfl rfl rfl ?_
            refine aq_p (ov_move rfl rfl) rfl rfl rfl ?_
            refine at_reval 72 (.bool false) rfl (congrArg Value.bool (by simp [h, hc, hid, hie, hi2, hi1]; done)) ?_
            refine aq_wanted (j := 5) rfl ?_
            refine aq_p (ov_move rfl rfl) rfl rfl rfl ?_
            refine aq_wanted (j := 5) rfl ?_
            refine aq_p (ov_move rfl rfl) rfl rfl rfl ?_
            refine at_reval 74 (.bool false) rfl (congrArg Value.bool (by simp [h, hc, hid, hie, hi2, hi1]; done)) ?_
            refine aq_unwanted (j := 7) rfl rfl rfl rfl rfl ?_
            refine aq_unwanted (j := 7) rfl rfl rfl rfl rfl ?_
            refine aq_unwanted (j := 7) rfl rfl rfl rfl rfl ?_
            refine aq_unwanted (j := 7) rfl rfl rfl rfl rfl ?_
            refine aq_unwanted (j := 7) rfl rfl rfl rfl rfl ?_
            refine aq_wanted (j := 5) rfl ?_
            refine aq_p (ov_pick_f rfl rfl rfl) rfl rfl rfl ?_
            refine aq_p (ov_pick_f rfl rfl rfl) rfl rfl rfl ?_
            refine aq_p (ov_move rfl rfl) rfl rfl rfl ?_
            refine aq_wanted (j := 15) rfl ?_
            refine aq_p (ov_move rfl rfl) rfl rfl rfl ?_
            refine aq_wanted (j := 15) rfl ?_
            refine aq_p (ov_nilCheck rfl rfl) rfl rfl rfl ?_
            refine aq_wanted (j := 15) rfl ?_
            refine aq_p (ov_fieldAddr (k := 0) (r := 0) rfl rfl rfl rfl) rfl rfl rfl ?_
            refine aq_wanted (j := 15) rfl ?_
            refine aq_p (ov_move rfl rfl) rfl rfl rfl ?_
            refine aq_wanted (j := 15) rfl ?_
            refine aq_v (ov_len_slice rfl Try.underlying29 rfl) rfl rfl rfl ?_
            refine aq_wanted (j := 15) rfl ?_
            refine aq_t (ot_call (ks := [1]) rfl rfl rfl Try.call12 rfl (T12 _ _ _) rfl) rfl rfl rfl ?_
            rintro v0 _ ⟨m0, hp0, rfl⟩
            obtain ⟨rfl, rfl⟩ := hp0
            simp only [List.cons_append, List.nil_append]
            refine ⟨fun _ s => (s.pulls (ks := [1, 1, 1, 2]) rfl).left, ?_⟩
            refine aq_wanted (j := 15) rfl ?_
            refine aq_v (ov_int rfl rfl rfl rfl) rfl rfl rfl ?_
            refine aq_p (ov_pick_f rfl rfl rfl) rfl rfl rfl ?_
            refine aq_p (ov_move rfl rfl) rfl rfl rfl ?_
            refine at_reval 91 (.bool false) rfl (congrArg Value.bool (by simp [h, hc, hid, hie, hi2, hi1]; done)) ?_
            refine aq_wanted (j := 24) rfl ?_
            refine aq_p (ov_move rfl rfl) rfl rfl rfl ?_
            refine aq_wanted (j := 24) rfl ?_
            refine aq_v (ov_len_slice rfl Try.underlying29 rfl) rfl rfl rfl ?_
            refine aq_wanted (j := 24) rfl ?_
            refine aq_v (ov_int rfl rfl rfl rfl) rfl rfl rfl ?_
            refine aq_p (ov_pick_f rfl rfl rfl) rfl rfl rfl ?_
            refine aq_nil ?_
            refine at_normal ?_
            refine hK21 _ _ ?_
            refine at_cond_false rfl ?_
            refine at_skip ?_
            refine at_inb_normal ?_
            refine at_normal ?_
            refine hK11 _ _ ?_
            refine at_region ?_
            refine at_v ((ov_int rfl rfl rfl rfl).eq (congrArg (Value.int .i64) (inK_i64 (by omega) (by omega)))) rfl rfl rfl ?_
            refine at_v (ov_move rfl rfl) rfl rfl rfl ?_
            refine at_nil ?_
            refine at_normal ?_
            refine at_roundF (k + 1, A0, c0) hlt (by simp only []; omega) ⟨rfl, look_eq rfl (by rw [runS_succ l k hlt, hst]; simp only []; rw [hi2]), trivial⟩ rfl ?_
            simp only [setAt]
            rw [runS_succ l k hlt, hst]
            simp only []
            rw [hi2]
            exact fun _ s => s.finEq (ks := [4, 0, 4]) (js := [0, 0, 0, 0]) rfl rfl rfl
          | cons q r =>
            have hi1 : (doS s v l[k]).some_ = true := by simp [SM.some_, hi2]
            have hi3 : (doS s v l[k]).head = q := by simp [SM.head, hi2]
            have hgq : (q :: r)[0]? = some q := rfl
            have h8 : (q :: r).length ≤ 8 := by rw [← hi2]; exact hle
            refine at_skip ?_
            refine at_normal ?_
            refine hK10 _ _ ?_
            refine at_seq_k (fun K11 hK11 => ?_)
            refine at_block ?_
            refine at_seq_k (fun K12 hK12 => ?_)
            refine at_region ?_
            refine at_v (ov_indexRd (fun _ s => hr.up s) rfl Try.underlying22 rfl rfl rfl hget) rfl rfl rfl ?_
            refine at_v (ov_loadRdS (vs := [_, _, _, _, _, _, _, _, _, _]) (fun _ s => hr.up s) rfl rfl rfl hget rfl rfl) rfl rfl rfl ?_
            refine at_t (ot_allocA rfl Try.zeroValue36) rfl rfl rfl ?_
            rintro _ _ ⟨g2, rfl, rfl⟩
            refine at_t0 (ot_store (k := 0) rfl rfl rfl rfl rfl rfl rfl) rfl rfl ?_
            rintro _ _ ⟨rfl, rfl⟩
            simp only [setAt, splice, spliceL, Value.cells]
            refine at_nil ?_
            refine at_normal ?_
            refine hK12 _ _ ?_
            refine at_seq_k (fun K13 hK13 => ?_)
            refine at_region ?_
            refine at_v (ov_move rfl rfl) rfl rfl rfl ?_
            refine at_v (ov_move rfl rfl) rfl rfl rfl ?_
            refine at_v (ov_loadS (cs := [_, _, _, _, _, _, _, _, _, _]) rfl rfl rfl rfl (fun _ s => s.lds (k := 0) rfl ⟨rfl, rfl, rfl, rfl, rfl, rfl, rfl, rfl, rfl, rfl, trivial⟩)) rfl rfl rfl ?_
            refine at_t (ot_call (ks := [2, 1]) rfl rfl rfl Try.call10 rfl (T10 _ _ _ _ _ _ (by first | assumption | omega | decide | (simp; done) | (simp at *; omega))) rfl) rfl rfl rfl ?_
            rintro v0 _ ⟨m0, hp0, rfl⟩
            obtain ⟨rfl, rfl⟩ := hp0
            simp only [List.cons_append, List.nil_append]
            refine at_t (ot_allocA rfl Try.zeroValue39) rfl rfl rfl ?_
            rintro _ _ ⟨g3, rfl, rfl⟩
            refine at_t0 (ot_store (k := 0) rfl rfl rfl rfl rfl rfl rfl) rfl rfl ?_
            rintro _ _ ⟨rfl, rfl⟩
            simp only [setAt, splice, spliceL, Value.cells]
            refine at_nil ?_
            refine at_normal ?_
            refine hK13 _ _ ?_
            refine at_seq_k (fun K14 hK14 => ?_)
            refine at_seq_k (fun K15 hK15 => ?_)
            refine at_region ?_
            refine at_v (ov_fieldAddr (k := 0) (r := 0) rfl rfl rfl rfl) rfl rfl rfl ?_
            refine at_v (ov_load rfl rfl rfl (fun _ s => s.ld (k := 3) rfl rfl)) rfl rfl rfl ?_
            refine at_v (ov_int rfl rfl rfl rfl) rfl rfl rfl ?_
            refine at_v (ov_move rfl rfl) rfl rfl rfl ?_
            refine at_reval 30 (.bool true) rfl (congrArg Value.bool (decide_eq_true (by omega))) ?_
            refine at_wanted (j := 3) rfl ?_
            refine at_v (ov_fieldAddr (k := 1) (r := 1) rfl rfl rfl rfl) rfl rfl rfl ?_
            refine at_wanted (j := 3) rfl ?_
            refine at_v (ov_load rfl rfl rfl (fun _ s => s.ld (k := 0) rfl rfl)) rfl rfl rfl ?_
            refine at_wanted (j := 3) rfl ?_
            refine at_v (ov_int rfl rfl rfl rfl) rfl rfl rfl ?_
            refine at_v (ov_pick_t rfl rfl rfl) rfl rfl rfl ?_
            refine at_nil ?_
            refine at_normal ?_
            refine hK15 _ _ ?_
            refine at_cond_true (congrArg (fun b => some (Value.bool b)) (show _ = true from decide_eq_true (by omega))) ?_
            refine at_region ?_
            refine at_v (ov_move rfl rfl) rfl rfl rfl ?_
            refine at_v (ov_fieldAddr (k := 3) (r := 3) rfl rfl rfl rfl) rfl rfl rfl ?_
            refine at_v (ov_loadS (cs := [_, _, _]) rfl rfl rfl rfl (fun _ s => s.lds (k := 3) rfl ⟨rfl, rfl, rfl, trivial⟩)) rfl rfl rfl ?_
            refine at_t (ot_buildSlice (cs := [_, _, _]) rfl Try.underlying29 rfl rfl rfl rfl rfl rfl) rfl rfl rfl ?_
            rintro _ _ ⟨g4, rfl, rfl⟩
            refine at_t (ot_append (k := 5) (size := 3) (bytes := 32) (ys := [l[k].q]) (fun _ s => s.rdPt (k := 0) rfl rfl (by simp [rqE])) rfl Try.underlying29 (ti := Try.t32) rfl rfl rfl rfl rfl (by decide) rfl rfl rfl (by simp [rqE, Value.oneCell']) (by simp; omega) (by decide)) rfl rfl rfl ?_
            rintro _ _ ⟨A0, c0, rfl, rfl⟩
            simp only [setAt]
            rw [← hce2, hi2]
            refine at_v (ov_assign rfl rfl) rfl rfl rfl ?_
            refine at_nil ?_
            refine at_normal ?_
            refine hK14 _ _ ?_
            refine at_seq_k (fun K16 hK16 => ?_)
            refine at_seq_k (fun K17 hK17 => ?_)
            refine at_region ?_
            refine at_v (ov_fieldAddr (k := 0) (r := 0) rfl rfl rfl rfl) rfl rfl rfl ?_
            refine at_v (ov_load rfl rfl rfl (fun _ s => s.ld (k := 4) rfl rfl)) rfl rfl rfl ?_
            refine at_v (ov_int rfl rfl rfl rfl) rfl rfl rfl ?_
            refine at_v (ov_move rfl rfl) rfl rfl rfl ?_
            refine at_reval 43 (.bool false) rfl (congrArg Value.bool (decide_eq_false (by omega))) ?_
            refine at_unwanted (j := 3) rfl rfl rfl rfl ?_
            refine at_unwanted (j := 3) rfl rfl rfl rfl ?_
            refine at_unwanted (j := 3) rfl rfl rfl rfl ?_
            refine at_unwanted (j := 3) rfl rfl rfl rfl ?_
            refine at_unwanted (j := 3) rfl rfl rfl rfl ?_
            refine at_unwanted (j := 3) rfl rfl rfl rfl ?_
            refine at_v (ov_pick_f rfl rfl rfl) rfl rfl rfl ?_
            refine at_nil ?_
            refine at_normal ?_
            refine hK17 _ _ ?_
            refine at_cond_false rfl ?_
            refine at_skip ?_
            refine at_normal ?_
            refine hK16 _ _ ?_
            refine at_seq_k (fun K18 hK18 => ?_)
            refine at_seq_k (fun K19 hK19 => ?_)
            refine at_region ?_
            refine at_v (ov_fieldAddr (k := 0) (r := 0) rfl rfl rfl rfl) rfl rfl rfl ?_
            refine at_v (ov_load rfl rfl rfl (fun _ s => s.ld (k := 4) rfl rfl)) rfl rfl rfl ?_
            refine at_v (ov_int rfl rfl rfl rfl) rfl rfl rfl ?_
            refine at_v (ov_move rfl rfl) rfl rfl rfl ?_
            refine at_reval 54 (.bool false) rfl (congrArg Value.bool (decide_eq_false (by omega))) ?_
            refine at_unwanted (j := 3) rfl rfl rfl rfl ?_
            refine at_unwanted (j := 3) rfl rfl rfl rfl ?_
            refine at_v (ov_pick_f rfl rfl rfl) rfl rfl rfl ?_
            refine at_nil ?_
            refine at_normal ?_
            refine hK19 _ _ ?_
            refine at_cond_false rfl ?_
            refine at_skip ?_
            refine at_normal ?_
            refine hK18 _ _ ?_
            refine at_seq_k (fun K20 hK20 => ?_)
            refine at_region ?_
            refine at_v (ov_move rfl rfl) rfl rfl rfl ?_
            refine at_v (ov_nilCheck rfl rfl) rfl rfl rfl ?_
            refine at_v (ov_fieldAddr (k := 0) (r := 0) rfl rfl rfl rfl) rfl rfl rfl ?_
            refine at_t (ot_call (ks := [2]) rfl rfl rfl Try.call11 rfl (T11 _ _ _) rfl) rfl rfl rfl ?_
            rintro v0 _ ⟨m0, hp0, rfl⟩
            obtain ⟨rfl, rfl⟩ := hp0
            simp only [List.cons_append, List.nil_append]
            refine at_v (ov_move rfl rfl) rfl rfl rfl ?_
            refine at_v (ov_extract rfl rfl rfl) rfl rfl rfl ?_
            refine at_v (ov_extract rfl rfl rfl) rfl rfl rfl ?_
            refine at_t (ot_allocA rfl Try.zeroValue32) rfl rfl rfl ?_
            rintro _ _ ⟨g5, rfl, rfl⟩
            refine at_t0 (ot_store (k := 0) rfl rfl rfl rfl rfl rfl rfl) rfl rfl ?_
            rintro _ _ ⟨rfl, rfl⟩
            simp only [setAt, splice, spliceL, Value.cells]
            refine at_v (ov_assign rfl rfl) rfl rfl rfl ?_
            refine at_nil ?_
            refine at_normal ?_
            refine hK20 _ _ ?_
            refine at_seq_k (fun K21 hK21 => ?_)
            refine at_draw _ [] 1000 [(2, 0), (2, 1), (1, 2), (1, 3), (1, 4), (2, 5), (2, 6), (2, 7), (1, 8), (2, 9), (1, 10), (1, 11), (1, 12), (2, 13), (2, 14), (2, 15), (2, 16), (2, 17), (2, 18), (2, 20), (1, 21), (0, 19), (1, 22), (2, 23), (2, 24), (2, 25), (1, 26), (1, 27), (2, 28)] (by kernel_rfl) (by kernel_rfl) (fun _ s => (s.pulls (ks := [0, 0, 0, 0, 0, 0, 0]) rfl).left) ?_
            refine aq_p (ov_move rfl rfl) rfl rfl rfl ?_
            refine aq_p (ov_move rfl rfl) rfl rfl rfl ?_
            refine aq_v (ov_len_slice rfl Try.underlying29 rfl) rfl rfl rfl ?_
            refine aq_v (ov_int rfl rfl rfl rfl) rfl rfl rfl ?_
            refine aq_v (ov_boolne rfl Try.underlying4 rfl rfl) rfl rfl rfl ?_
            refine aq_p (ov_move rfl rfl) rfl rfl rfl ?_
            refine at_reval 72 (.bool false) rfl (congrArg Value.bool (by simp [h, hc, hid, hie, hi2, hi1, hi3]; done)) ?_
            refine aq_wanted (j := 5) rfl ?_
            refine aq_p (ov_move rfl rfl) rfl rfl rfl ?_
            refine aq_wanted (j := 5) rfl ?_
            refine aq_p (ov_move rfl rfl) rfl rfl rfl ?_
            refine at_reval 74 (.bool true) rfl (congrArg Value.bool (by simp [h, hc, hid, hie, hi2, hi1, hi3]; done)) ?_
            refine aq_wanted (j := 7) rfl ?_
            refine aq_v (ov_loadS (cs := [_, _, _]) rfl rfl rfl rfl (fun _ s => s.lds (k := 0) rfl ⟨rfl, rfl, rfl, trivial⟩)) rfl rfl rfl ?_
            refine aq_wanted (j := 7) rfl ?_
            refine aq_p (ov_move rfl rfl) rfl rfl rfl ?_
            refine aq_wanted (j := 7) rfl ?_
            refine aq_v (ov_indexRd (fun _ s => s.rd (k := 6) rfl) rfl Try.underlying29 rfl rfl rfl hgq) rfl rfl rfl ?_
            refine aq_wanted (j := 7) rfl ?_
            refine aq_v (ov_loadRdS (vs := [_, _, _]) (fun _ s => s.rd (k := 6) rfl) rfl rfl rfl hgq rfl rfl) rfl rfl rfl ?_
            refine aq_wanted (j := 7) rfl ?_
            refine aq_v (ov_neS rfl (by kernel_rfl) rfl rfl rfl rfl) rfl rfl rfl ?_
            refine aq_wanted (j := 5) rfl ?_
            refine aq_p (ov_pick_t rfl rfl rfl) rfl rfl rfl ?_
            refine aq_p (ov_pick_f rfl rfl rfl) rfl rfl rfl ?_
            refine aq_p (ov_move rfl rfl) rfl rfl rfl ?_
            refine at_reval 82 (.bool false) rfl (congrArg Value.bool (by simp [h, hc, hid, hie, hi2, hi1, hi3]; done)) ?_
            refine aq_wanted (j := 15) rfl ?_
            refine aq_p (ov_move rfl rfl) rfl rfl rfl ?_
            refine aq_wanted (j := 15) rfl ?_
            refine aq_p (ov_nilCheck rfl rfl) rfl rfl rfl ?_
            refine aq_wanted (j := 15) rfl ?_
            refine aq_p (ov_fieldAddr (k := 0) (r := 0) rfl rfl rfl rfl) rfl rfl rfl ?_
            refine aq_wanted (j := 15) rfl ?_
            refine aq_p (ov_move rfl rfl) rfl rfl rfl ?_
            refine aq_wanted (j := 15) rfl ?_
            refine aq_v (ov_len_slice rfl Try.underlying29 rfl) rfl rfl rfl ?_
            refine aq_wanted (j := 15) rfl ?_
            refine aq_t (ot_call (ks := [1]) rfl rfl rfl Try.call12 rfl (T12 _ _ _) rfl) rfl rfl rfl ?_
            rintro v0 _ ⟨m0, hp0, rfl⟩
            obtain ⟨rfl, rfl⟩ := hp0
            simp only [List.cons_append, List.nil_append]
            refine ⟨fun _ s => (s.pulls (ks := [1, 0, 0, 0, 0, 0, 0]) rfl).left, ?_⟩
            refine aq_wanted (j := 15) rfl ?_
            refine aq_v (ov_int rfl rfl rfl rfl) rfl rfl rfl ?_
            refine aq_p (ov_pick_f rfl rfl rfl) rfl rfl rfl ?_
            refine aq_p (ov_move rfl rfl) rfl rfl rfl ?_
            refine at_reval 91 (.bool false) rfl (congrArg Value.bool (by simp [h, hc, hid, hie, hi2, hi1, hi3]; done)) ?_
            refine aq_wanted (j := 24) rfl ?_
            refine aq_p (ov_move rfl rfl) rfl rfl rfl ?_
            refine aq_wanted (j := 24) rfl ?_
            refine aq_v (ov_len_slice rfl Try.underlying29 rfl) rfl rfl rfl ?_
            refine aq_wanted (j := 24) rfl ?_
            refine aq_v (ov_int rfl rfl rfl rfl) rfl rfl rfl ?_
            refine aq_p (ov_pick_f rfl rfl rfl) rfl rfl rfl ?_
            refine aq_nil ?_
            refine at_normal ?_
            refine hK21 _ _ ?_
            refine at_cond_false (congrArg (fun b => some (Value.bool b)) (show _ = false from decide_eq_false (by omega))) ?_
            refine at_skip ?_
            refine at_inb_normal ?_
            refine at_normal ?_
            refine hK11 _ _ ?_
            refine at_region ?_
            refine at_v ((ov_int rfl rfl rfl rfl).eq (congrArg (Value.int .i64) (inK_i64 (by omega) (by omega)))) rfl rfl rfl ?_
            refine at_v (ov_move rfl rfl) rfl rfl rfl ?_
            refine at_nil ?_
            refine at_normal ?_
            refine at_roundF (k + 1, A0, c0) hlt (by simp only []; omega) ⟨rfl, look_eq rfl (by rw [runS_succ l k hlt, hst]; simp only []; rw [hi2]), trivial⟩ rfl ?_
            simp only [setAt]
            rw [runS_succ l k hlt, hst]
            simp only []
            rw [hi2]
            exact fun _ s => s.finEq (ks := [4, 0, 4]) (js := [0, 0, 0, 0]) rfl rfl rfl
        · have hlt8 : s.reqs.length ≥ 8 := by
            apply Decidable.byContradiction
            intro h
            simp [doE, hid, SM.pushE, h] at hie
          have hce2 : s.reqs = (doS s v l[k]).reqs := by rw [hce, came, if_pos hid, if_pos hlt8]
          cases hi2 : (doS s v l[k]).reqs with
          | nil =>
            have hi1 : (doS s v l[k]).some_ = false := by simp [SM.some_, hi2]
            rw [hce2, hi2]
            refine at_skip ?_
            refine at_normal ?_
            refine hK10 _ _ ?_
            refine at_seq_k (fun K11 hK11 => ?_)
            refine at_block ?_
            refine at_seq_k (fun K12 hK12 => ?_)
            refine at_region ?_
            refine at_v (ov_indexRd (fun _ s => hr.up s) rfl Try.underlying22 rfl rfl rfl hget) rfl rfl rfl ?_
            refine at_v (ov_loadRdS (vs := [_, _, _, _, _, _, _, _, _, _]) (fun _ s => hr.up s) rfl rfl rfl hget rfl rfl) rfl rfl rfl ?_
            refine at_t (ot_allocA rfl Try.zeroValue36) rfl rfl rfl ?_
            rintro _ _ ⟨g2, rfl, rfl⟩
            refine at_t0 (ot_store (k := 0) rfl rfl rfl rfl rfl rfl rfl) rfl rfl ?_
            rintro _ _ ⟨rfl, rfl⟩
            simp only [setAt, splice, spliceL, Value.cells]
            refine at_nil ?_
            refine at_normal ?_
            refine hK12 _ _ ?_
            refine at_seq_k (fun K13 hK13 => ?_)
            refine at_region ?_
            refine at_v (ov_move rfl rfl) rfl rfl rfl ?_
            refine at_v (ov_move rfl rfl) rfl rfl rfl ?_
            refine at_v (ov_loadS (cs := [_, _, _, _, _, _, _, _, _, _]) rfl rfl rfl rfl (fun _ s => s.lds (k := 0) rfl ⟨rfl, rfl, rfl, rfl, rfl, rfl, rfl, rfl, rfl, rfl, trivial⟩)) rfl rfl rfl ?_
            refine at_t (ot_call (ks := [2, 1]) rfl rfl rfl Try.call10 rfl (T10 _ _ _ _ _ _ (by first | assumption | omega | decide | (simp; done) | (simp at *; omega))) rfl) rfl rfl rfl ?_
            rintro v0 _ ⟨m0, hp0, rfl⟩
            obtain ⟨rfl, rfl⟩ := hp0
            simp only [List.cons_append, List.nil_append]
            refine at_t (ot_allocA rfl Try.zeroValue39) rfl rfl rfl ?_
            rintro _ _ ⟨g3, rfl, rfl⟩
            refine at_t0 (ot_store (k := 0) rfl rfl rfl rfl rfl rfl rfl) rfl rfl ?_
            rintro _ _ ⟨rfl, rfl⟩
            simp only [setAt, splice, spliceL, Value.cells]
            refine at_nil ?_
            refine at_normal ?_
            refine hK13 _ _ ?_
            refine at_seq_k (fun K14 hK14 => ?_)
            refine at_seq_k (fun K15 hK15 => ?_)
            refine at_region ?_
            refine at_v (ov_fieldAddr (k := 0) (r := 0) rfl rfl rfl rfl) rfl rfl rfl ?_
            refine at_v (ov_load rfl rfl rfl (fun _ s => s.ld (k := 3) rfl rfl)) rfl rfl rfl ?_
            refine at_v (ov_int rfl rfl rfl rfl) rfl rfl rfl ?_
            refine at_v (ov_move rfl rfl) rfl rfl rfl ?_
            refine at_reval 30 (.bool true) rfl (congrArg Value.bool (decide_eq_true (by omega))) ?_
            refine at_wanted (j := 3) rfl ?_
            refine at_v (ov_fieldAddr (k := 1) (r := 1) rfl rfl rfl rfl) rfl rfl rfl ?_
            refine at_wanted (j := 3) rfl ?_
            refine at_v (ov_load rfl rfl rfl (fun _ s => s.ld (k := 0) rfl rfl)) rfl rfl rfl ?_
            refine at_wanted (j := 3) rfl ?_
            refine at_v (ov_int rfl rfl rfl rfl) rfl rfl rfl ?_
            refine at_v (ov_pick_t rfl rfl rfl) rfl rfl rfl ?_
            refine at_nil ?_
            refine at_normal ?_
            refine hK15 _ _ ?_
            refine at_cond_false (congrArg (fun b => some (Value.bool b)) (show _ = false from decide_eq_false (by omega))) ?_
            refine at_skip ?_
            refine at_normal ?_
            refine hK14 _ _ ?_
            refine at_seq_k (fun K16 hK16 => ?_)
            refine at_seq_k (fun K17 hK17 => ?_)
            refine at_region ?_
            refine at_v (ov_fieldAddr (k := 0) (r := 0) rfl rfl rfl rfl) rfl rfl rfl ?_
            refine at_v (ov_load rfl rfl rfl (fun _ s => s.ld (k := 3) rfl rfl)) rfl rfl rfl ?_
            refine at_v (ov_int rfl rfl rfl rfl) rfl rfl rfl ?_
            refine at_v (ov_move rfl rfl) rfl rfl rfl ?_
            refine at_reval 43 (.bool false) rfl (congrArg Value.bool (decide_eq_false (by omega))) ?_
            refine at_unwanted (j := 3) rfl rfl rfl rfl ?_
            refine at_unwanted (j := 3) rfl rfl rfl rfl ?_
            refine at_unwanted (j := 3) rfl rfl rfl rfl ?_
            refine at_unwanted (j := 3) rfl rfl rfl rfl ?_
            refine at_unwanted (j := 3) rfl rfl rfl rfl ?_
            refine at_unwanted (j := 3) rfl rfl rfl rfl ?_
            refine at_v (ov_pick_f rfl rfl rfl) rfl rfl rfl ?_
            refine at_nil ?_
            refine at_normal ?_
            refine hK17 _ _ ?_
            refine at_cond_false rfl ?_
            refine at_skip ?_
            refine at_normal ?_
            refine hK16 _ _ ?_
            refine at_seq_k (fun K18 hK18 => ?_)
            refine at_seq_k (fun K19 hK19 => ?_)
            refine at_region ?_
            refine at_v (ov_fieldAddr (k := 0) (r := 0) rfl rfl rfl rfl) rfl rfl rfl ?_
            refine at_v (ov_load rfl rfl rfl (fun _ s => s.ld (k := 3) rfl rfl)) rfl rfl rfl ?_
            refine at_v (ov_int rfl rfl rfl rfl) rfl rfl rfl ?_
            refine at_v (ov_move rfl rfl) rfl rfl rfl ?_
            refine at_reval 54 (.bool false) rfl (congrArg Value.bool (decide_eq_false (by omega))) ?_
            refine at_unwanted (j := 3) rfl rfl rfl rfl ?_
            refine at_unwanted (j := 3) rfl rfl rfl rfl ?_
            refine at_v (ov_pick_f rfl rfl rfl) rfl rfl rfl ?_
            refine at_nil ?_
            refine at_normal ?_
            refine hK19 _ _ ?_
            refine at_cond_false rfl ?_
            refine at_skip ?_
            refine at_normal ?_
            refine hK18 _ _ ?_
            refine at_seq_k (fun K20 hK20 => ?_)
            refine at_region ?_
            refine at_v (ov_move rfl rfl) rfl rfl rfl ?_
            refine at_v (ov_nilCheck rfl rfl) rfl rfl rfl ?_
            refine at_v (ov_fieldAddr (k := 0) (r := 0) rfl rfl rfl rfl) rfl rfl rfl ?_
            refine at_t (ot_call (ks := [1]) rfl rfl rfl Try.call11 rfl (T11 _ _ _) rfl) rfl rfl rfl ?_
            rintro v0 _ ⟨m0, hp0, rfl⟩
            obtain ⟨rfl, rfl⟩ := hp0
            simp only [List.cons_append, List.nil_append]
            refine at_v (ov_move rfl rfl) rfl rfl rfl ?_
            refine at_v (ov_extract rfl rfl rfl) rfl rfl rfl ?_
            refine at_v (ov_extract rfl rfl rfl) rfl rfl rfl ?_
            refine at_t (ot_allocA rfl Try.zeroValue32) rfl rfl rfl ?_
            rintro _ _ ⟨g4, rfl, rfl⟩
            refine at_t0 (ot_store (k := 0) rfl rfl rfl rfl rfl rfl rfl) rfl rfl ?_
            rintro _ _ ⟨rfl, rfl⟩
            simp only [setAt, splice, spliceL, Value.cells]
            refine at_v (ov_assign rfl rfl) rfl rfl rfl ?_
            refine at_nil ?_
            refine at_normal ?_
            refine hK20 _ _ ?_
            refine at_seq_k (fun K21 hK21 => ?_)
            refine at_draw _ [] 1000 [(2, 0), (2, 1), (1, 2), (1, 3), (1, 4), (2, 5), (2, 6), (2, 7), (1, 8), (2, 9), (1, 10), (1, 11), (1, 12), (2, 13), (2, 14), (2, 15), (2, 16), (2, 17), (2, 18), (2, 20), (1, 21), (0, 19), (1, 22), (2, 23), (2, 24), (2, 25), (1, 26), (1, 27), (2, 28)] (by kernel_rfl) (by kernel_rfl) (fun _ s => (s.pulls (ks := [0, 1, 2]) rfl).left) ?_
            refine aq_p (ov_move rfl rfl) rfl rfl rfl ?_
            refine aq_p (ov_move rfl rfl) rfl rfl rfl ?_
            refine aq_v (ov_len_slice rfl Try.underlying29 rfl) rfl rfl rfl ?_
            refine aq_v (ov_int rfl rfl rfl rfl) rfl rfl rfl ?_
            refine aq_v (ov_boolne rfl Try.underlying4 rfl rfl) rfl rfl rfl ?_
            refine aq_p (ov_move rfl rfl) rfl rfl rfl ?_
            refine at_reval 72 (.bool false) rfl (congrArg Value.bool (by simp [h, hc, hid, hie, hi2, hi1]; done)) ?_
            refine aq_wanted (j := 5) rfl ?_
            refine aq_p (ov_move rfl rfl) rfl rfl rfl ?_
            refine aq_wanted (j := 5) rfl ?_
            refine aq_p (ov_move rfl rfl) rfl rfl rfl ?_
            refine at_reval 74 (.bool false) rfl (congrArg Value.bool (by simp [h, hc, hid, hie, hi2, hi1]; done)) ?_
            refine aq_unwanted (j := 7) rfl rfl rfl rfl rfl ?_
            refine aq_unwanted (j := 7) rfl rfl rfl rfl rfl ?_
            refine aq_unwanted (j := 7) rfl rfl rfl rfl rfl ?_
            refine aq_unwanted (j := 7) rfl rfl rfl rfl rfl ?_
            refine aq_unwanted (j := 7) rfl rfl rfl rfl rfl ?_
            refine aq_wanted (j := 5) rfl ?_
            refine aq_p (ov_pick_f rfl rfl rfl) rfl rfl rfl ?_
            refine aq_p (ov_pick_f rfl rfl rfl) rfl rfl rfl ?_
            refine aq_p (ov_move rfl rfl) rfl rfl rfl ?_
            refine aq_wanted (j := 15) rfl ?_
            refine aq_p (ov_move rfl rfl) rfl rfl rfl ?_
            refine aq_wanted (j := 15) rfl ?_
            refine aq_p (ov_nilCheck rfl rfl) rfl rfl rfl ?_
            refine aq_wanted (j := 15) rfl ?_
            refine aq_p (ov_fieldAddr (k := 0) (r := 0) rfl rfl rfl rfl) rfl rfl rfl ?_
            refine aq_wanted (j := 15) rfl ?_
            refine aq_p (ov_move rfl rfl) rfl rfl rfl ?_
            refine aq_wanted (j := 15) rfl ?_
            refine aq_v (ov_len_slice rfl Try.underlying29 rfl) rfl rfl rfl ?_
            refine aq_wanted (j := 15) rfl ?_
            refine aq_t (ot_call (ks := [1]) rfl rfl rfl Try.call12 rfl (T12 _ _ _) rfl) rfl rfl rfl ?_
            rintro v0 _ ⟨m0, hp0, rfl⟩
            obtain ⟨rfl, rfl⟩ := hp0
            simp only [List.cons_append, List.nil_append]
            refine ⟨fun _ s => (s.pulls (ks := [1, 1, 2]) rfl).left, ?_⟩
            refine aq_wanted (j := 15) rfl ?_
            refine aq_v (ov_int rfl rfl rfl rfl) rfl rfl rfl ?_
            refine aq_p (ov_pick_f rfl rfl rfl) rfl rfl rfl ?_
            refine aq_p (ov_move rfl rfl) rfl rfl rfl ?_
            refine at_reval 91 (.bool false) rfl (congrArg Value.bool (by simp [h, hc, hid, hie, hi2, hi1]; done)) ?_
            refine aq_wanted (j := 24) rfl ?_
            refine aq_p (ov_move rfl rfl) rfl rfl rfl ?_
            refine aq_wanted (j := 24) rfl ?_
            refine aq_v (ov_len_slice rfl Try.underlying29 rfl) rfl rfl rfl ?_
            refine aq_wanted (j := 24) rfl ?_
            refine aq_v (ov_int rfl rfl rfl rfl) rfl rfl rfl ?_
            refine aq_p (ov_pick_f rfl rfl rfl) rfl rfl rfl ?_
            refine aq_nil ?_
            refine at_normal ?_
            refine hK21 _ _ ?_
            refine at_cond_false rfl ?_
            refine at_skip ?_
            refine at_inb_normal ?_
            refine at_normal ?_
            refine hK11 _ _ ?_
            refine at_region ?_
            refine at_v ((ov_int rfl rfl rfl rfl).eq (congrArg (Value.int .i64) (inK_i64 (by omega) (by omega)))) rfl rfl rfl ?_
            refine at_v (ov_move rfl rfl) rfl rfl rfl ?_
            refine at_nil ?_
            refine at_normal ?_
            refine at_roundF (k + 1, A1, c1) hlt (by simp only []; omega) ⟨rfl, look_eq rfl (by rw [runS_succ l k hlt, hst]; simp only []; rw [hi2]), trivial⟩ rfl ?_
            simp only [setAt]
            rw [runS_succ l k hlt, hst]
            simp only []
            rw [hi2]
            exact fun _ s => s.finEq (ks := [3, 0, 3]) (js := [0, 0, 0]) rfl rfl rfl
          | cons q r =>
            have hi1 : (doS s v l[k]).some_ = true := by simp [SM.some_, hi2]
            have hi3 : (doS s v l[k]).head = q := by simp [SM.head, hi2]
            have hgq : (q :: r)[0]? = some q := rfl
            have h8 : (q :: r).length ≤ 8 := by rw [← hi2]; exact hle
            rw [hce2, hi2]
            refine at_skip ?_
            refine at_normal ?_
            refine hK10 _ _ ?_
            refine at_seq_k (fun K11 hK11 => ?_)
            refine at_block ?_
            refine at_seq_k (fun K12 hK12 => ?_)
            refine at_region ?_
            refine at_v (ov_indexRd (fun _ s => hr.up s) rfl Try.underlying22 rfl rfl rfl hget) rfl rfl rfl ?_
            refine at_v (ov_loadRdS (vs := [_, _, _, _, _, _, _, _, _, _]) (fun _ s => hr.up s) rfl rfl rfl hget rfl rfl) rfl rfl rfl ?_
            refine at_t (ot_allocA rfl Try.zeroValue36) rfl rfl rfl ?_
            rintro _ _ ⟨g2, rfl, rfl⟩
            refine at_t0 (ot_store (k := 0) rfl rfl rfl rfl rfl rfl rfl) rfl rfl ?_
            rintro _ _ ⟨rfl, rfl⟩
            simp only [setAt, splice, spliceL, Value.cells]
            refine at_nil ?_
            refine at_normal ?_
            refine hK12 _ _ ?_
            refine at_seq_k (fun K13 hK13 => ?_)
            refine at_region ?_
            refine at_v (ov_move rfl rfl) rfl rfl rfl ?_
            refine at_v (ov_move rfl rfl) rfl rfl rfl ?_
            refine at_v (ov_loadS (cs := [_, _, _, _, _, _, _, _, _, _]) rfl rfl rfl rfl (fun _ s => s.lds (k := 0) rfl ⟨rfl, rfl, rfl, rfl, rfl, rfl, rfl, rfl, rfl, rfl, trivial⟩)) rfl rfl rfl ?_
            refine at_t (ot_call (ks := [2, 1]) rfl rfl rfl Try.call10 rfl (T10 _ _ _ _ _ _ (by first | assumption | omega | decide | (simp; done) | (simp at *; omega))) rfl) rfl rfl rfl ?_
            rintro v0 _ ⟨m0, hp0, rfl⟩
            obtain ⟨rfl, rfl⟩ := hp0
            simp only [List.cons_append, List.nil_append]
            refine at_t (ot_allocA rfl Try.zeroValue39) rfl rfl rfl ?_
            rintro _ _ ⟨g3, rfl, rfl⟩
            refine at_t0 (ot_store (k := 0) rfl rfl rfl rfl rfl rfl rfl) rfl rfl ?_
            rintro _ _ ⟨rfl, rfl⟩
            simp only [setAt, splice, spliceL, Value.cells]
            refine at_nil ?_
            refine at_normal ?_
            refine hK13 _ _ ?_
            refine at_seq_k (fun K14 hK14 => ?_)
            refine at_seq_k (fun K15 hK15 => ?_)
            refine at_region ?_
            refine at_v (ov_fieldAddr (k := 0) (r := 0) rfl rfl rfl rfl) rfl rfl rfl ?_
            refine at_v (ov_load rfl rfl rfl (fun _ s => s.ld (k := 3) rfl rfl)) rfl rfl rfl ?_
            refine at_v (ov_int rfl rfl rfl rfl) rfl rfl rfl ?_
            refine at_v (ov_move rfl rfl) rfl rfl rfl ?_
            refine at_reval 30 (.bool true) rfl (congrArg Value.bool (decide_eq_true (by omega))) ?_
            refine at_wanted (j := 3) rfl ?_
            refine at_v (ov_fieldAddr (k := 1) (r := 1) rfl rfl rfl rfl) rfl rfl rfl ?_
            refine at_wanted (j := 3) rfl ?_
            refine at_v (ov_load rfl rfl rfl (fun _ s => s.ld (k := 0) rfl rfl)) rfl rfl rfl ?_
            refine at_wanted (j := 3) rfl ?_
            refine at_v (ov_int rfl rfl rfl rfl) rfl rfl rfl ?_
            refine at_v (ov_pick_t rfl rfl rfl) rfl rfl rfl ?_
            refine at_nil ?_
            refine at_normal ?_
            refine hK15 _ _ ?_
            refine at_cond_false (congrArg (fun b => some (Value.bool b)) (show _ = false from decide_eq_false (by omega))) ?_
            refine at_skip ?_
            refine at_normal ?_
            refine hK14 _ _ ?_
            refine at_seq_k (fun K16 hK16 => ?_)
            refine at_seq_k (fun K17 hK17 => ?_)
            refine at_region ?_
            refine at_v (ov_fieldAddr (k := 0) (r := 0) rfl rfl rfl rfl) rfl rfl rfl ?_
            refine at_v (ov_load rfl rfl rfl (fun _ s => s.ld (k := 3) rfl rfl)) rfl rfl rfl ?_
            refine at_v (ov_int rfl rfl rfl rfl) rfl rfl rfl ?_
            refine at_v (ov_move rfl rfl) rfl rfl rfl ?_
            refine at_reval 43 (.bool false) rfl (congrArg Value.bool (decide_eq_false (by omega))) ?_
            refine at_unwanted (j := 3) rfl rfl rfl rfl ?_
            refine at_unwanted (j := 3) rfl rfl rfl rfl ?_
            refine at_unwanted (j := 3) rfl rfl rfl rfl ?_
            refine at_unwanted (j := 3) rfl rfl rfl rfl ?_
            refine at_unwanted (j := 3) rfl rfl rfl rfl ?_
            refine at_unwanted (j := 3) rfl rfl rfl rfl ?_
            refine at_v (ov_pick_f rfl rfl rfl) rfl rfl rfl ?_
            refine at_nil ?_
            refine at_normal ?_
            refine hK17 _ _ ?_
            refine at_cond_false rfl ?_
            refine at_skip ?_
            refine at_normal ?_
            refine hK16 _ _ ?_
            refine at_seq_k (fun K18 hK18 => ?_)
            refine at_seq_k (fun K19 hK19 => ?_)
            refine at_region ?_
            refine at_v (ov_fieldAddr (k := 0) (r := 0) rfl rfl rfl rfl) rfl rfl rfl ?_
            refine at_v (ov_load rfl rfl rfl (fun _ s => s.ld (k := 3) rfl rfl)) rfl rfl rfl ?_
            refine at_v (ov_int rfl rfl rfl rfl) rfl rfl rfl ?_
            refine at_v (ov_move rfl rfl) rfl rfl rfl ?_
            refine at_reval 54 (.bool false) rfl (congrArg Value.bool (decide_eq_false (by omega))) ?_
            refine at_unwanted (j := 3) rfl rfl rfl rfl ?_
            refine at_unwanted (j := 3) rfl rfl rfl rfl ?_
            refine at_v (ov_pick_f rfl rfl rfl) rfl rfl rfl ?_
            refine at_nil ?_
            refine at_normal ?_
            refine hK19 _ _ ?_
            refine at_cond_false rfl ?_
            refine at_skip ?_
            refine at_normal ?_
            refine hK18 _ _ ?_
            refine at_seq_k (fun K20 hK20 => ?_)
            refine at_region ?_
            refine at_v (ov_move rfl rfl) rfl rfl rfl ?_
            refine at_v (ov_nilCheck rfl rfl) rfl rfl rfl ?_
            refine at_v (ov_fieldAddr (k := 0) (r := 0) rfl rfl rfl rfl) rfl rfl rfl ?_
            refine at_t (ot_call (ks := [1]) rfl rfl rfl Try.call11 rfl (T11 _ _ _) rfl) rfl rfl rfl ?_
            rintro v0 _ ⟨m0, hp0, rfl⟩
            obtain ⟨rfl, rfl⟩ := hp0
            simp only [List.cons_append, List.nil_append]
            refine at_v (ov_move rfl rfl) rfl rfl rfl ?_
            refine at_v (ov_extract rfl rfl rfl) rfl rfl rfl ?_
            refine at_v (ov_extract rfl rfl rfl) rfl rfl rfl ?_
            refine at_t (ot_allocA rfl Try.zeroValue32) rfl rfl rfl ?_
            rintro _ _ ⟨g4, rfl, rfl⟩
            refine at_t0 (ot_store (k := 0) rfl rfl rfl rfl rfl rfl rfl) rfl rfl ?_
            rintro _ _ ⟨rfl, rfl⟩
            simp only [setAt, splice, spliceL, Value.cells]
            refine at_v (ov_assign rfl rfl) rfl rfl rfl ?_
            refine at_nil ?_
            refine at_normal ?_
            refine hK20 _ _ ?_
            refine at_seq_k (fun K21 hK21 => ?_)
            refine at_draw _ [] 1000 [(2, 0), (2, 1), (1, 2), (1, 3), (1, 4), (2, 5), (2, 6), (2, 7), (1, 8), (2, 9), (1, 10), (1, 11), (1, 12), (2, 13), (2, 14), (2, 15), (2, 16), (2, 17), (2, 18), (2, 20), (1, 21), (0, 19), (1, 22), (2, 23), (2, 24), (2, 25), (1, 26), (1, 27), (2, 28)] (by kernel_rfl) (by kernel_rfl) (fun _ s => (s.pulls (ks := [0, 0, 0, 0, 0, 0]) rfl).left) ?_
            refine aq_p (ov_move rfl rfl) rfl rfl rfl ?_
            refine aq_p (ov_move rfl rfl) rfl rfl rfl ?_
            refine aq_v (ov_len_slice rfl Try.underlying29 rfl) rfl rfl rfl ?_
            refine aq_v (ov_int rfl rfl rfl rfl) rfl rfl rfl ?_
            refine aq_v (ov_boolne rfl Try.underlying4 rfl rfl) rfl rfl rfl ?_
            refine aq_p (ov_move rfl rfl) rfl rfl rfl ?_
            refine at_reval 72 (.bool false) rfl (congrArg Value.bool (by simp [h, hc, hid, hie, hi2, hi1, hi3]; done)) ?_
            refine aq_wanted (j := 5) rfl ?_
            refine aq_p (ov_move rfl rfl) rfl rfl rfl ?_
            refine aq_wanted (j := 5) rfl ?_
            refine aq_p (ov_move rfl rfl) rfl rfl rfl ?_
            refine at_reval 74 (.bool true) rfl (congrArg Value.bool (by simp [h, hc, hid, hie, hi2, hi1, hi3]; done)) ?_
            refine aq_wanted (j := 7) rfl ?_
            refine aq_v (ov_loadS (cs := [_, _, _]) rfl rfl rfl rfl (fun _ s => s.lds (k := 0) rfl ⟨rfl, rfl, rfl, trivial⟩)) rfl rfl rfl ?_
            refine aq_wanted (j := 7) rfl ?_
            refine aq_p (ov_move rfl rfl) rfl rfl rfl ?_
            refine aq_wanted (j := 7) rfl ?_
            refine aq_v (ov_indexRd (fun _ s => s.rd (k := 5) rfl) rfl Try.underlying29 rfl rfl rfl hgq) rfl rfl rfl ?_
            refine aq_wanted (j := 7) rfl ?_
            refine aq_v (ov_loadRdS (vs := [_, _, _]) (fun _ s => s.rd (k := 5) rfl) rfl rfl rfl hgq rfl rfl) rfl rfl rfl ?_
            refine aq_wanted (j := 7) rfl ?_
            refine aq_v (ov_neS rfl (by kernel_rfl) rfl rfl rfl rfl) rfl rfl rfl ?_
            refine aq_wanted (j := 5) rfl ?_
            refine aq_p (ov_pick_t rfl rfl rfl) rfl rfl rfl ?_
            refine aq_p (ov_pick_f rfl rfl rfl) rfl rfl rfl ?_
            refine aq_p (ov_move rfl rfl) rfl rfl rfl ?_
            refine at_reval 82 (.bool false) rfl (congrArg Value.bool (by simp [h, hc, hid, hie, hi2, hi1, hi3]; done)) ?_
            refine aq_wanted (j := 15) rfl ?_
            refine aq_p (ov_move rfl rfl) rfl rfl rfl ?_
            refine aq_wanted (j := 15) rfl ?_
            refine aq_p (ov_nilCheck rfl rfl) rfl rfl rfl ?_
            refine aq_wanted (j := 15) rfl ?_
            refine aq_p (ov_fieldAddr (k := 0) (r := 0) rfl rfl rfl rfl) rfl rfl rfl ?_
            refine aq_wanted (j := 15) rfl ?_
            refine aq_p (ov_move rfl rfl) rfl rfl rfl ?_
            refine aq_wanted (j := 15) rfl ?_
            refine aq_v (ov_len_slice rfl Try.underlying29 rfl) rfl rfl rfl ?_
            refine aq_wanted (j := 15) rfl ?_
            refine aq_t (ot_call (ks := [1]) rfl rfl rfl Try.call12 rfl (T12 _ _ _) rfl) rfl rfl rfl ?_
            rintro v0 _ ⟨m0, hp0, rfl⟩
            obtain ⟨rfl, rfl⟩ := hp0
            simp only [List.cons_append, List.nil_append]
            refine ⟨fun _ s => (s.pulls (ks := [1, 0, 0, 0, 0, 0]) rfl).left, ?_⟩
            refine aq_wanted (j := 15) rfl ?_
            refine aq_v (ov_int rfl rfl rfl rfl) rfl rfl rfl ?_
            refine aq_p (ov_pick_f rfl rfl rfl) rfl rfl rfl ?_
            refine aq_p (ov_move rfl rfl) rfl rfl rfl ?_
            refine at_reval 91 (.bool false) rfl (congrArg Value.bool (by simp [h, hc, hid, hie, hi2, hi1, hi3]; done)) ?_
            refine aq_wanted (j := 24) rfl ?_
            refine aq_p (ov_move rfl rfl) rfl rfl rfl ?_
            refine aq_wanted (j := 24) rfl ?_
            refine aq_v (ov_len_slice rfl Try.underlying29 rfl) rfl rfl rfl ?_
            refine aq_wanted (j := 24) rfl ?_
            refine aq_v (ov_int rfl rfl rfl rfl) rfl rfl rfl ?_
            refine aq_p (ov_pick_f rfl rfl rfl) rfl rfl rfl ?_
            refine aq_nil ?_
            refine at_normal ?_
            refine hK21 _ _ ?_
            refine at_cond_false (congrArg (fun b => some (Value.bool b)) (show _ = false from decide_eq_false (by omega))) ?_
            refine at_skip ?_
            refine at_inb_normal ?_
            refine at_normal ?_
            refine hK11 _ _ ?_
            refine at_region ?_
            refine at_v ((ov_int rfl rfl rfl rfl).eq (congrArg (Value.int .i64) (inK_i64 (by omega) (by omega)))) rfl rfl rfl ?_
            refine at_v (ov_move rfl rfl) rfl rfl rfl ?_
            refine at_nil ?_
            refine at_normal ?_
            refine at_roundF (k + 1, A1, c1) hlt (by simp only []; omega) ⟨rfl, look_eq rfl (by rw [runS_succ l k hlt, hst]; simp only []; rw [hi2]), trivial⟩ rfl ?_
            simp only [setAt]
            rw [runS_succ l k hlt, hst]
            simp only []
            rw [hi2]
            exact fun _ s => s.finEq (ks := [3, 0, 3]) (js := [0, 0, 0]) rfl rfl rfl
      · by_cases hid1 : l[k].d = 1
        · have hdb : doB s v l[k] = s.some_ := by simp [doB, hid1]
          cases hsr : s.reqs with
          | nil =>
            have hib : doB s v l[k] = false := by rw [hdb]; simp [SM.some_, hsr]
            clear hdb
            have hi2 : (doS s v l[k]).reqs = [] := by rw [hce, came, if_neg hid, if_pos hid1, hsr]; rfl
            have hi1 : (doS s v l[k]).some_ = false := by simp [SM.some_, hi2]
            refine at_skip ?_
            refine at_normal ?_
            refine hK10 _ _ ?_
            refine at_seq_k (fun K11 hK11 => ?_)
            refine at_block ?_
            refine at_seq_k (fun K12 hK12 => ?_)
            refine at_region ?_
            refine at_v (ov_indexRd (fun _ s => hr.up s) rfl Try.underlying22 rfl rfl rfl hget) rfl rfl rfl ?_
            refine at_v (ov_loadRdS (vs := [_, _, _, _, _, _, _, _, _, _]) (fun _ s => hr.up s) rfl rfl rfl hget rfl rfl) rfl rfl rfl ?_
            refine at_t (ot_allocA rfl Try.zeroValue36) rfl rfl rfl ?_
            rintro _ _ ⟨g2, rfl, rfl⟩
            refine at_t0 (ot_store (k := 0) rfl rfl rfl rfl rfl rfl rfl) rfl rfl ?_
            rintro _ _ ⟨rfl, rfl⟩
            simp only [setAt, splice, spliceL, Value.cells]
            refine at_nil ?_
            refine at_normal ?_
            refine hK12 _ _ ?_
            refine at_seq_k (fun K13 hK13 => ?_)
            refine at_region ?_
            refine at_v (ov_move rfl rfl) rfl rfl rfl ?_
            refine at_v (ov_move rfl rfl) rfl rfl rfl ?_
            refine at_v (ov_loadS (cs := [_, _, _, _, _, _, _, _, _, _]) rfl rfl rfl rfl (fun _ s => s.lds (k := 0) rfl ⟨rfl, rfl, rfl, rfl, rfl, rfl, rfl, rfl, rfl, rfl, trivial⟩)) rfl rfl rfl ?_
            refine at_t (ot_call (ks := [2, 1]) rfl rfl rfl Try.call10 rfl (T10 _ _ _ _ _ _ (by first | assumption | omega | decide | (simp; done) | (simp at *; omega))) rfl) rfl rfl rfl ?_
            rintro v0 _ ⟨m0, hp0, rfl⟩
            obtain ⟨rfl, rfl⟩ := hp0
            simp only [List.cons_append, List.nil_append]
            refine at_t (ot_allocA rfl Try.zeroValue39) rfl rfl rfl ?_
            rintro _ _ ⟨g3, rfl, rfl⟩
            refine at_t0 (ot_store (k := 0) rfl rfl rfl rfl rfl rfl rfl) rfl rfl ?_
            rintro _ _ ⟨rfl, rfl⟩
            simp only [setAt, splice, spliceL, Value.cells]
            refine at_nil ?_
            refine at_normal ?_
            refine hK13 _ _ ?_
            refine at_seq_k (fun K14 hK14 => ?_)
            refine at_seq_k (fun K15 hK15 => ?_)
            refine at_region ?_
            refine at_v (ov_fieldAddr (k := 0) (r := 0) rfl rfl rfl rfl) rfl rfl rfl ?_
            refine at_v (ov_load rfl rfl rfl (fun _ s => s.ld (k := 3) rfl rfl)) rfl rfl rfl ?_
            refine at_v (ov_int rfl rfl rfl rfl) rfl rfl rfl ?_
            refine at_v (ov_move rfl rfl) rfl rfl rfl ?_
            refine at_reval 30 (.bool false) rfl (congrArg Value.bool (decide_eq_false (by omega))) ?_
            refine at_unwanted (j := 3) rfl rfl rfl rfl ?_
            refine at_unwanted (j := 3) rfl rfl rfl rfl ?_
            refine at_unwanted (j := 3) rfl rfl rfl rfl ?_
            refine at_v (ov_pick_f rfl rfl rfl) rfl rfl rfl ?_
            refine at_nil ?_
            refine at_normal ?_
            refine hK15 _ _ ?_
            refine at_cond_false rfl ?_
            refine at_skip ?_
            refine at_normal ?_
            refine hK14 _ _ ?_
            refine at_seq_k (fun K16 hK16 => ?_)
            refine at_seq_k (fun K17 hK17 => ?_)
            refine at_region ?_
            refine at_v (ov_fieldAddr (k := 0) (r := 0) rfl rfl rfl rfl) rfl rfl rfl ?_
            refine at_v (ov_load rfl rfl rfl (fun _ s => s.ld (k := 3) rfl rfl)) rfl rfl rfl ?_
            refine at_v (ov_int rfl rfl rfl rfl) rfl rfl rfl ?_
            refine at_v (ov_move rfl rfl) rfl rfl rfl ?_
            refine at_reval 43 (.bool true) rfl (congrArg Value.bool (decide_eq_true (by omega))) ?_
            refine at_wanted (j := 3) rfl ?_
            refine at_v (ov_fieldAddr (k := 0) (r := 0) rfl rfl rfl rfl) rfl rfl rfl ?_
            refine at_wanted (j := 3) rfl ?_
            refine at_v (ov_load rfl rfl rfl (fun _ s => s.ld (k := 0) rfl rfl)) rfl rfl rfl ?_
            refine at_wanted (j := 3) rfl ?_
            refine at_v (ov_move rfl rfl) rfl rfl rfl ?_
            refine at_wanted (j := 3) rfl ?_
            refine at_v (ov_len_slice rfl Try.underlying29 rfl) rfl rfl rfl ?_
            refine at_wanted (j := 3) rfl ?_
            refine at_v (ov_int rfl rfl rfl rfl) rfl rfl rfl ?_
            refine at_wanted (j := 3) rfl ?_
            refine at_v (ov_boolne rfl Try.underlying4 rfl rfl) rfl rfl rfl ?_
            refine at_v (ov_pick_t rfl rfl rfl) rfl rfl rfl ?_
            refine at_nil ?_
            refine at_normal ?_
            refine hK17 _ _ ?_
            refine at_cond_false (congrArg (fun b => some (Value.bool b)) (show _ = false from by simp [h, hc, hid, hid1, hib, hi2, hi1]; done)) ?_
            refine at_skip ?_
            refine at_normal ?_
            refine hK16 _ _ ?_
            refine at_seq_k (fun K18 hK18 => ?_)
            refine at_seq_k (fun K19 hK19 => ?_)
            refine at_region ?_
            refine at_v (ov_fieldAddr (k := 0) (r := 0) rfl rfl rfl rfl) rfl rfl rfl ?_
            refine at_v (ov_load rfl rfl rfl (fun _ s => s.ld (k := 3) rfl rfl)) rfl rfl rfl ?_
            refine at_v (ov_int rfl rfl rfl rfl) rfl rfl rfl ?_
            refine at_v (ov_move rfl rfl) rfl rfl rfl ?_
            refine at_reval 54 (.bool true) rfl (congrArg Value.bool (decide_eq_true (by omega))) ?_
            refine at_wanted (j := 3) rfl ?_
            refine at_v (ov_fieldAddr (k := 0) (r := 0) rfl rfl rfl rfl) rfl rfl rfl ?_
            refine at_wanted (j := 3) rfl ?_
            refine at_v (ov_load rfl rfl rfl (fun _ s => s.ld (k := 0) rfl rfl)) rfl rfl rfl ?_
            refine at_v (ov_pick_t rfl rfl rfl) rfl rfl rfl ?_
            refine at_nil ?_
            refine at_normal ?_
            refine hK19 _ _ ?_
            refine at_cond_false (congrArg (fun b => some (Value.bool b)) (show _ = false from by simp [h, hc, hid, hid1, hib, hi2, hi1]; done)) ?_
            refine at_skip ?_
            refine at_normal ?_
            refine hK18 _ _ ?_
            refine at_seq_k (fun K20 hK20 => ?_)
            refine at_region ?_
            refine at_v (ov_move rfl rfl) rfl rfl rfl ?_
            refine at_v (ov_nilCheck rfl rfl) rfl rfl rfl ?_
            refine at_v (ov_fieldAddr (k := 0) (r := 0) rfl rfl rfl rfl) rfl rfl rfl ?_
            refine at_t (ot_call (ks := [1]) rfl rfl rfl Try.call11 rfl (T11 _ _ _) rfl) rfl rfl rfl ?_
            rintro v0 _ ⟨m0, hp0, rfl⟩
            obtain ⟨rfl, rfl⟩ := hp0
            simp only [List.cons_append, List.nil_append]
            refine at_v (ov_move rfl rfl) rfl rfl rfl ?_
            refine at_v (ov_extract rfl rfl rfl) rfl rfl rfl ?_
            refine at_v (ov_extract rfl rfl rfl) rfl rfl rfl ?_
            refine at_t (ot_allocA rfl Try.zeroValue32) rfl rfl rfl ?_
            rintro _ _ ⟨g4, rfl, rfl⟩
            refine at_t0 (ot_store (k := 0) rfl rfl rfl rfl rfl rfl rfl) rfl rfl ?_
            rintro _ _ ⟨rfl, rfl⟩
            simp only [setAt, splice, spliceL, Value.cells]
            refine at_v (ov_assign rfl rfl) rfl rfl rfl ?_
            refine at_nil ?_
            refine at_normal ?_
            refine hK20 _ _ ?_
            refine at_seq_k (fun K21 hK21 => ?_)
            refine at_draw _ [] 1000 [(2, 0), (2, 1), (1, 2), (1, 3), (1, 4), (2, 5), (2, 6), (2, 7), (1, 8), (2, 9), (1, 10), (1, 11), (1, 12), (2, 13), (2, 14), (2, 15), (2, 16), (2, 17), (2, 18), (2, 20), (1, 21), (0, 19), (1, 22), (2, 23), (2, 24), (2, 25), (1, 26), (1, 27), (2, 28)] (by kernel_rfl) (by kernel_rfl) (fun _ s => (s.pulls (ks := [0, 1, 2]) rfl).left) ?_
            refine aq_p (ov_move rfl rfl) rfl rfl rfl ?_
            refine aq_p (ov_move rfl rfl) rfl rfl rfl ?_
            refine aq_v (ov_len_slice rfl Try.underlying29 rfl) rfl rfl rfl ?_
            refine aq_v (ov_int rfl rfl rfl rfl) rfl rfl rfl ?_
            refine aq_v (ov_boolne rfl Try.underlying4 rfl rfl) rfl rfl rfl ?_
            refine aq_p (ov_move rfl rfl) rfl rfl rfl ?_
            refine at_reval 72 (.bool false) rfl (congrArg Value.bool (by simp [h, hc, hid, hid1, hib, hi2, hi1]; done)) ?_
            refine aq_wanted (j := 5) rfl ?_
            refine aq_p (ov_move rfl rfl) rfl rfl rfl ?_
            refine aq_wanted (j := 5) rfl ?_
            refine aq_p (ov_move rfl rfl) rfl rfl rfl ?_
            refine at_reval 74 (.bool false) rfl (congrArg Value.bool (by simp [h, hc, hid, hid1, hib, hi2, hi1]; done)) ?_
            refine aq_unwanted (j := 7) rfl rfl rfl rfl rfl ?_
            refine aq_unwanted (j := 7) rfl rfl rfl rfl rfl ?_
            refine aq_unwanted (j := 7) rfl rfl rfl rfl rfl ?_
            refine aq_unwanted (j := 7) rfl rfl rfl rfl rfl ?_
            refine aq_unwanted (j := 7) rfl rfl rfl rfl rfl ?_
            refine aq_wanted (j := 5) rfl ?_
            refine aq_p (ov_pick_f rfl rfl rfl) rfl rfl rfl ?_
            refine aq_p (ov_pick_f rfl rfl rfl) rfl rfl rfl ?_
            refine aq_p (ov_move rfl rfl) rfl rfl rfl ?_
            refine aq_wanted (j := 15) rfl ?_
            refine aq_p (ov_move rfl rfl) rfl rfl rfl ?_
            refine aq_wanted (j := 15) rfl ?_
            refine aq_p (ov_nilCheck rfl rfl) rfl rfl rfl ?_
            refine aq_wanted (j := 15) rfl ?_
            refine aq_p (ov_fieldAddr (k := 0) (r := 0) rfl rfl rfl rfl) rfl rfl rfl ?_
            refine aq_wanted (j := 15) rfl ?_
            refine aq_p (ov_move rfl rfl) rfl rfl rfl ?_
            refine aq_wanted (j := 15) rfl ?_
            refine aq_v (ov_len_slice rfl Try.underlying29 rfl) rfl rfl rfl ?_
            refine aq_wanted (j := 15) rfl ?_
            refine aq_t (ot_call (ks := [1]) rfl rfl rfl Try.call12 rfl (T12 _ _ _) rfl) rfl rfl rfl ?_
            rintro v0 _ ⟨m0, hp0, rfl⟩
            obtain ⟨rfl, rfl⟩ := hp0
            simp only [List.cons_append, List.nil_append]
            refine ⟨fun _ s => (s.pulls (ks := [1, 1, 2]) rfl).left, ?_⟩
            refine aq_wanted (j := 15) rfl ?_
            refine aq_v (ov_int rfl rfl rfl rfl) rfl rfl rfl ?_
            refine aq_p (ov_pick_f rfl rfl rfl) rfl rfl rfl ?_
            refine aq_p (ov_move rfl rfl) rfl rfl rfl ?_
            refine at_reval 91 (.bool false) rfl (congrArg Value.bool (by simp [h, hc, hid, hid1, hib, hi2, hi1]; done)) ?_
            refine aq_wanted (j := 24) rfl ?_
            refine aq_p (ov_move rfl rfl) rfl rfl rfl ?_
            refine aq_wanted (j := 24) rfl ?_
            refine aq_v (ov_len_slice rfl Try.underlying29 rfl) rfl rfl rfl ?_
            refine aq_wanted (j := 24) rfl ?_
            refine aq_v (ov_int rfl rfl rfl rfl) rfl rfl rfl ?_
            refine aq_p (ov_pick_f rfl rfl rfl) rfl rfl rfl ?_
            refine aq_nil ?_
            refine at_normal ?_
            refine hK21 _ _ ?_
            refine at_cond_false rfl ?_
            refine at_skip ?_
            refine at_inb_normal ?_
            refine at_normal ?_
            refine hK11 _ _ ?_
            refine at_region ?_
            refine at_v ((ov_int rfl rfl rfl rfl).eq (congrArg (Value.int .i64) (inK_i64 (by omega) (by omega)))) rfl rfl rfl ?_
            refine at_v (ov_move rfl rfl) rfl rfl rfl ?_
            refine at_nil ?_
            refine at_normal ?_
            refine at_roundF (k + 1, A1, c1) hlt (by simp only []; omega) ⟨rfl, look_eq rfl (by rw [runS_succ l k hlt, hst]; simp only []; rw [hi2]), trivial⟩ rfl ?_
            simp only [setAt]
            rw [runS_succ l k hlt, hst]
            simp only []
            rw [hi2]
            exact fun _ s => s.finEq (ks := [3, 0, 3]) (js := [0, 0, 0]) rfl rfl rfl
          | cons q0 r0 =>
            have hib : doB s v l[k] = true := by rw [hdb]; simp [SM.some_, hsr]
            clear hdb
            cases r0 with
            | nil =>
              have hi2 : (doS s v l[k]).reqs = [] := by rw [hce, came, if_neg hid, if_pos hid1, hsr]; rfl
              have hi1 : (doS s v l[k]).some_ = false := by simp [SM.some_, hi2]
              refine at_skip ?_
              refine at_normal ?_
              refine hK10 _ _ ?_
              refine at_seq_k (fun K11 hK11 => ?_)
              refine at_block ?_
              refine at_seq_k (fun K12 hK12 => ?_)
              refine at_region ?_
              refine at_v (ov_indexRd (fun _ s => hr.up s) rfl Try.underlying22 rfl rfl rfl hget) rfl rfl rfl ?_
              refine at_v (ov_loadRdS (vs := [_, _, _, _, _, _, _, _, _, _]) (fun _ s => hr.up s) rfl rfl rfl hget rfl rfl) rfl rfl rfl ?_
              refine at_t (ot_allocA rfl Try.zeroValue36) rfl rfl rfl ?_
              rintro _ _ ⟨g2, rfl, rfl⟩
              refine at_t0 (ot_store (k := 0) rfl rfl rfl rfl rfl rfl rfl) rfl rfl ?_
              rintro _ _ ⟨rfl, rfl⟩
              simp only [setAt, splice, spliceL, Value.cells]
              refine at_nil ?_
              refine at_normal ?_
              refine hK12 _ _ ?_
              refine at_seq_k (fun K13 hK13 => ?_)
              refine at_region ?_
              refine at_v (ov_move rfl rfl) rfl rfl rfl ?_
              refine at_v (ov_move rfl rfl) rfl rfl rfl ?_
              refine at_v (ov_loadS (cs := [_, _, _, _, _, _, _, _, _, _]) rfl rfl rfl rfl (fun _ s => s.lds (k := 0) rfl ⟨rfl, rfl, rfl, rfl, rfl, rfl, rfl, rfl, rfl, rfl, trivial⟩)) rfl rfl rfl ?_
              refine at_t (ot_call (ks := [2, 1]) rfl rfl rfl Try.call10 rfl (T10 _ _ _ _ _ _ (by first | assumption | omega | decide | (simp; done) | (simp at *; omega))) rfl) rfl rfl rfl ?_
              rintro v0 _ ⟨m0, hp0, rfl⟩
              obtain ⟨rfl, rfl⟩ := hp0
              simp only [List.cons_append, List.nil_append]
              refine at_t (ot_allocA rfl Try.zeroValue39) rfl rfl rfl ?_
              rintro _ _ ⟨g3, rfl, rfl⟩
              refine at_t0 (ot_store (k := 0) rfl rfl rfl rfl rfl rfl rfl) rfl rfl ?_
              rintro _ _ ⟨rfl, rfl⟩
              simp only [setAt, splice, spliceL, Value.cells]
              refine at_nil ?_
              refine at_normal ?_
              refine hK13 _ _ ?_
              refine at_seq_k (fun K14 hK14 => ?_)
              refine at_seq_k (fun K15 hK15 => ?_)
              refine at_region ?_
              refine at_v (ov_fieldAddr (k := 0) (r := 0) rfl rfl rfl rfl) rfl rfl rfl ?_
              refine at_v (ov_load rfl rfl rfl (fun _ s => s.ld (k := 3) rfl rfl)) rfl rfl rfl ?_
              refine at_v (ov_int rfl rfl rfl rfl) rfl rfl rfl ?_
              refine at_v (ov_move rfl rfl) rfl rfl rfl ?_
              refine at_reval 30 (.bool false) rfl (congrArg Value.bool (decide_eq_false (by omega))) ?_
              refine at_unwanted (j := 3) rfl rfl rfl rfl ?_
              refine at_unwanted (j := 3) rfl rfl rfl rfl ?_
              refine at_unwanted (j := 3) rfl rfl rfl rfl ?_
              refine at_v (ov_pick_f rfl rfl rfl) rfl rfl rfl ?_
              refine at_nil ?_
              refine at_normal ?_
              refine hK15 _ _ ?_
              refine at_cond_false rfl ?_
              refine at_skip ?_
              refine at_normal ?_
              refine hK14 _ _ ?_
              refine at_seq_k (fun K16 hK16 => ?_)
              refine at_seq_k (fun K17 hK17 => ?_)
              refine at_region ?_
              refine at_v (ov_fieldAddr (k := 0) (r := 0) rfl rfl rfl rfl) rfl rfl rfl ?_
              refine at_v (ov_load rfl rfl rfl (fun _ s => s.ld (k := 3) rfl rfl)) rfl rfl rfl ?_
              refine at_v (ov_int rfl rfl rfl rfl) rfl rfl rfl ?_
              refine at_v (ov_move rfl rfl) rfl rfl rfl ?_
              refine at_reval 43 (.bool true) rfl (congrArg Value.bool (decide_eq_true (by omega))) ?_
              refine at_wanted (j := 3) rfl ?_
              refine at_v (ov_fieldAddr (k := 0) (r := 0) rfl rfl rfl rfl) rfl rfl rfl ?_
              refine at_wanted (j := 3) rfl ?_
              refine at_v (ov_load rfl rfl rfl (fun _ s => s.ld (k := 0) rfl rfl)) rfl rfl rfl ?_
              refine at_wanted (j := 3) rfl ?_
              refine at_v (ov_move rfl rfl) rfl rfl rfl ?_
              refine at_wanted (j := 3) rfl ?_
              refine at_v (ov_len_slice rfl Try.underlying29 rfl) rfl rfl rfl ?_
              refine at_wanted (j := 3) rfl ?_
              refine at_v (ov_int rfl rfl rfl rfl) rfl rfl rfl ?_
              refine at_wanted (j := 3) rfl ?_
              refine at_v (ov_boolne rfl Try.underlying4 rfl rfl) rfl rfl rfl ?_
              refine at_v (ov_pick_t rfl rfl rfl) rfl rfl rfl ?_
              refine at_nil ?_
              refine at_normal ?_
              refine hK17 _ _ ?_
              refine at_cond_false (congrArg (fun b => some (Value.bool b)) (show _ = false from by simp [h, hc, hid, hid1, hib, hi2, hi1]; done)) ?_
              refine at_skip ?_
              refine at_normal ?_
              refine hK16 _ _ ?_
              refine at_seq_k (fun K18 hK18 => ?_)
              refine at_seq_k (fun K19 hK19 => ?_)
              refine at_region ?_
              refine at_v (ov_fieldAddr (k := 0) (r := 0) rfl rfl rfl rfl) rfl rfl rfl ?_
              refine at_v (ov_load rfl rfl rfl (fun _ s => s.ld (k := 3) rfl rfl)) rfl rfl rfl ?_
              refine at_v (ov_int rfl rfl rfl rfl) rfl rfl rfl ?_
              refine at_v (ov_move rfl rfl) rfl rfl rfl ?_
              refine at_reval 54 (.bool true) rfl (congrArg Value.bool (decide_eq_true (by omega))) ?_
              refine at_wanted (j := 3) rfl ?_
              refine at_v (ov_fieldAddr (k := 0) (r := 0) rfl rfl rfl rfl) rfl rfl rfl ?_
              refine at_wanted (j := 3) rfl ?_
              refine at_v (ov_load rfl rfl rfl (fun _ s => s.ld (k := 0) rfl rfl)) rfl rfl rfl ?_
              refine at_v (ov_pick_t rfl rfl rfl) rfl rfl rfl ?_
              refine at_nil ?_
              refine at_normal ?_
              refine hK19 _ _ ?_
              refine at_cond_true (congrArg (fun b => some (Value.bool b)) (show _ = true from by simp [h, hc, hid, hid1, hib, hi2, hi1]; done)) ?_
              refine at_region ?_
              refine at_v (ov_move rfl rfl) rfl rfl rfl ?_
              refine at_rowLen (xs := q0 :: []) (enc := rqE) 4 rfl fun hc1 hc2 => ?_
              refine at_v (ov_sliceFrom (size := 3) (k := 1) (xs := q0 :: []) rfl Try.underlying29 rfl rfl rfl (by simp) hc1) rfl rfl rfl ?_
              refine at_rowDrop 1 4 rfl (by simp) ?_
              simp only [setAt, List.drop_succ_cons, List.drop_zero]
              refine at_v (ov_assign rfl rfl) rfl rfl rfl ?_
              refine at_nil ?_
              refine at_normal ?_
              refine hK18 _ _ ?_
              refine at_seq_k (fun K20 hK20 => ?_)
              refine at_region ?_
              refine at_v (ov_move rfl rfl) rfl rfl rfl ?_
              refine at_v (ov_nilCheck rfl rfl) rfl rfl rfl ?_
              refine at_v (ov_fieldAddr (k := 0) (r := 0) rfl rfl rfl rfl) rfl rfl rfl ?_
              refine at_t (ot_call (ks := [1]) rfl rfl rfl Try.call11 rfl (T11 _ _ _) rfl) rfl rfl rfl ?_
              rintro v0 _ ⟨m0, hp0, rfl⟩
              obtain ⟨rfl, rfl⟩ := hp0
              simp only [List.cons_append, List.nil_append]
              refine at_v (ov_move rfl rfl) rfl rfl rfl ?_
              refine at_v (ov_extract rfl rfl rfl) rfl rfl rfl ?_
              refine at_v (ov_extract rfl rfl rfl) rfl rfl rfl ?_
              refine at_t (ot_allocA rfl Try.zeroValue32) rfl rfl rfl ?_
              rintro _ _ ⟨g4, rfl, rfl⟩
              refine at_t0 (ot_store (k := 0) rfl rfl rfl rfl rfl rfl rfl) rfl rfl ?_
              rintro _ _ ⟨rfl, rfl⟩
              simp only [setAt, splice, spliceL, Value.cells]
              refine at_v (ov_assign rfl rfl) rfl rfl rfl ?_
              refine at_nil ?_
              refine at_normal ?_
              refine hK20 _ _ ?_
              refine at_seq_k (fun K21 hK21 => ?_)
              refine at_draw _ [] 1000 [(2, 0), (2, 1), (1, 2), (1, 3), (1, 4), (2, 5), (2, 6), (2, 7), (1, 8), (2, 9), (1, 10), (1, 11), (1, 12), (2, 13), (2, 14), (2, 15), (2, 16), (2, 17), (2, 18), (2, 20), (1, 21), (0, 19), (1, 22), (2, 23), (2, 24), (2, 25), (1, 26), (1, 27), (2, 28)] (by kernel_rfl) (by kernel_rfl) (fun _ s => (s.pulls (ks := [0, 1, 2]) rfl).left) ?_
              refine aq_p (ov_move rfl rfl) rfl rfl rfl ?_
              refine aq_p (ov_move rfl rfl) rfl rfl rfl ?_
              refine aq_v (ov_len_slice rfl Try.underlying29 rfl) rfl rfl rfl ?_
              refine aq_v (ov_int rfl rfl rfl rfl) rfl rfl rfl ?_
              refine aq_v (ov_boolne rfl Try.underlying4 rfl rfl) rfl rfl rfl ?_
              refine aq_p (ov_move rfl rfl) rfl rfl rfl ?_
              refine at_reval 72 (.bool false) rfl (congrArg Value.bool (by simp [h, hc, hid, hid1, hib, hi2, hi1]; done)) ?_
              refine aq_wanted (j := 5) rfl ?_
              refine aq_p (ov_move rfl rfl) rfl rfl rfl ?_
              refine aq_wanted (j := 5) rfl ?_
              refine aq_p (ov_move rfl rfl) rfl rfl rfl ?_
              refine at_reval 74 (.bool false) rfl (congrArg Value.bool (by simp [h, hc, hid, hid1, hib, hi2, hi1]; done)) ?_
              refine aq_unwanted (j := 7) rfl rfl rfl rfl rfl ?_
              refine aq_unwanted (j := 7) rfl rfl rfl rfl rfl ?_
              refine aq_unwanted (j := 7) rfl rfl rfl rfl rfl ?_
              refine aq_unwanted (j := 7) rfl rfl rfl rfl rfl ?_
              refine aq_unwanted (j := 7) rfl rfl rfl rfl rfl ?_
              refine aq_wanted (j := 5) rfl ?_
              refine aq_p (ov_pick_f rfl rfl rfl) rfl rfl rfl ?_
              refine aq_p (ov_pick_f rfl rfl rfl) rfl rfl rfl ?_
              refine aq_p (ov_move rfl rfl) rfl rfl rfl ?_
              refine aq_wanted (j := 15) rfl ?_
              refine aq_p (ov_move rfl rfl) rfl rfl rfl ?_
              refine aq_wanted (j := 15) rfl ?_
              refine aq_p (ov_nilCheck rfl rfl) rfl rfl rfl ?_
              refine aq_wanted (j := 15) rfl ?_
              refine aq_p (ov_fieldAddr (k := 0) (r := 0) rfl rfl rfl rfl) rfl rfl rfl ?_
              refine aq_wanted (j := 15) rfl ?_
              refine aq_p (ov_move rfl rfl) rfl rfl rfl ?_
              refine aq_wanted (j := 15) rfl ?_
              refine aq_v (ov_len_slice rfl Try.underlying29 rfl) rfl rfl rfl ?_
              refine aq_wanted (j := 15) rfl ?_
              refine aq_t (ot_call (ks := [1]) rfl rfl rfl Try.call12 rfl (T12 _ _ _) rfl) rfl rfl rfl ?_
              rintro v0 _ ⟨m0, hp0, rfl⟩
              obtain ⟨rfl, rfl⟩ := hp0
              simp only [List.cons_append, List.nil_append]
              refine ⟨fun _ s => (s.pulls (ks := [1, 1, 2]) rfl).left, ?_⟩
              refine aq_wanted (j := 15) rfl ?_
              refine aq_v (ov_int rfl rfl rfl rfl) rfl rfl rfl ?_
              refine aq_p (ov_pick_f rfl rfl rfl) rfl rfl rfl ?_
              refine aq_p (ov_move rfl rfl) rfl rfl rfl ?_
              refine at_reval 91 (.bool false) rfl (congrArg Value.bool (by simp [h, hc, hid, hid1, hib, hi2, hi1]; done)) ?_
              refine aq_wanted (j := 24) rfl ?_
              refine aq_p (ov_move rfl rfl) rfl rfl rfl ?_
              refine aq_wanted (j := 24) rfl ?_
              refine aq_v (ov_len_slice rfl Try.underlying29 rfl) rfl rfl rfl ?_
              refine aq_wanted (j := 24) rfl ?_
              refine aq_v (ov_int rfl rfl rfl rfl) rfl rfl rfl ?_
              refine aq_p (ov_pick_f rfl rfl rfl) rfl rfl rfl ?_
              refine aq_nil ?_
              refine at_normal ?_
              refine hK21 _ _ ?_
              refine at_cond_false rfl ?_
              refine at_skip ?_
              refine at_inb_normal ?_
              refine at_normal ?_
              refine hK11 _ _ ?_
              refine at_region ?_
              refine at_v ((ov_int rfl rfl rfl rfl).eq (congrArg (Value.int .i64) (inK_i64 (by omega) (by omega)))) rfl rfl rfl ?_
              refine at_v (ov_move rfl rfl) rfl rfl rfl ?_
              refine at_nil ?_
              refine at_normal ?_
              refine at_roundF (k + 1, _, _) hlt (by simp only []; omega) ⟨rfl, look_eq rfl (by rw [runS_succ l k hlt, hst]; simp only []; rw [hi2]), trivial⟩ rfl ?_
              simp only [setAt]
              rw [runS_succ l k hlt, hst]
              simp only []
              rw [hi2]
              exact fun _ s => s.finEq (ks := [3, 0, 3]) (js := [0, 0, 0]) rfl rfl rfl
            | cons q r =>
              have hi2 : (doS s v l[k]).reqs = q :: r := by rw [hce, came, if_neg hid, if_pos hid1, hsr]; rfl
              have hi1 : (doS s v l[k]).some_ = true := by simp [SM.some_, hi2]
              have hi3 : (doS s v l[k]).head = q := by simp [SM.head, hi2]
              have hgq : (q :: r)[0]? = some q := rfl
              have h8 : (q :: r).length ≤ 8 := by rw [← hi2]; exact hle
              have hi5 : decide (((q0 :: q :: r).length : Int) > 0) = true := decide_eq_true (by simp only [List.length_cons]; omega)
              refine at_skip ?_
              refine at_normal ?_
              refine hK10 _ _ ?_
              refine at_seq_k (fun K11 hK11 => ?_)
              refine at_block ?_
              refine at_seq_k (fun K12 hK12 => ?_)
              refine at_region ?_
              refine at_v (ov_indexRd (fun _ s => hr.up s) rfl Try.underlying22 rfl rfl rfl hget) rfl rfl rfl ?_
              refine at_v (ov_loadRdS (vs := [_, _, _, _, _, _, _, _, _, _]) (fun _ s => hr.up s) rfl rfl rfl hget rfl rfl) rfl rfl rfl ?_
              refine at_t (ot_allocA rfl Try.zeroValue36) rfl rfl rfl ?_
              rintro _ _ ⟨g2, rfl, rfl⟩
              refine at_t0 (ot_store (k := 0) rfl rfl rfl rfl rfl rfl rfl) rfl rfl ?_
              rintro _ _ ⟨rfl, rfl⟩
              simp only [setAt, splice, spliceL, Value.cells]
              refine at_nil ?_
              refine at_normal ?_
              refine hK12 _ _ ?_
              refine at_seq_k (fun K13 hK13 => ?_)
              refine at_region ?_
              refine at_v (ov_move rfl rfl) rfl rfl rfl ?_
              refine at_v (ov_move rfl rfl) rfl rfl rfl ?_
              refine at_v (ov_loadS (cs := [_, _, _, _, _, _, _, _, _, _]) rfl rfl rfl rfl (fun _ s => s.lds (k := 0) rfl ⟨rfl, rfl, rfl, rfl, rfl, rfl, rfl, rfl, rfl, rfl, trivial⟩)) rfl rfl rfl ?_
              refine at_t (ot_call (ks := [2, 1]) rfl rfl rfl Try.call10 rfl (T10 _ _ _ _ _ _ (by first | assumption | omega | decide | (simp; done) | (simp at *; omega))) rfl) rfl rfl rfl ?_
              rintro v0 _ ⟨m0, hp0, rfl⟩
              obtain ⟨rfl, rfl⟩ := hp0
              simp only [List.cons_append, List.nil_append]
              refine at_t (ot_allocA rfl Try.zeroValue39) rfl rfl rfl ?_
              rintro _ _ ⟨g3, rfl, rfl⟩
              refine at_t0 (ot_store (k := 0) rfl rfl rfl rfl rfl rfl rfl) rfl rfl ?_
              rintro _ _ ⟨rfl, rfl⟩
              simp only [setAt, splice, spliceL, Value.cells]
              refine at_nil ?_
              refine at_normal ?_
              refine hK13 _ _ ?_
              refine at_seq_k (fun K14 hK14 => ?_)
              refine at_seq_k (fun K15 hK15 => ?_)
              refine at_region ?_
              refine at_v (ov_fieldAddr (k := 0) (r := 0) rfl rfl rfl rfl) rfl rfl rfl ?_
              refine at_v (ov_load rfl rfl rfl (fun _ s => s.ld (k := 3) rfl rfl)) rfl rfl rfl ?_
              refine at_v (ov_int rfl rfl rfl rfl) rfl rfl rfl ?_
              refine at_v (ov_move rfl rfl) rfl rfl rfl ?_
              refine at_reval 30 (.bool false) rfl (congrArg Value.bool (decide_eq_false (by omega))) ?_
              refine at_unwanted (j := 3) rfl rfl rfl rfl ?_
              refine at_unwanted (j := 3) rfl rfl rfl rfl ?_
              refine at_unwanted (j := 3) rfl rfl rfl rfl ?_
              refine at_v (ov_pick_f rfl rfl rfl) rfl rfl rfl ?_
              refine at_nil ?_
              refine at_normal ?_
              refine hK15 _ _ ?_
              refine at_cond_false rfl ?_
              refine at_skip ?_
              refine at_normal ?_
              refine hK14 _ _ ?_
              refine at_seq_k (fun K16 hK16 => ?_)
              refine at_seq_k (fun K17 hK17 => ?_)
              refine at_region ?_
              refine at_v (ov_fieldAddr (k := 0) (r := 0) rfl rfl rfl rfl) rfl rfl rfl ?_
              refine at_v (ov_load rfl rfl rfl (fun _ s => s.ld (k := 3) rfl rfl)) rfl rfl rfl ?_
              refine at_v (ov_int rfl rfl rfl rfl) rfl rfl rfl ?_
              refine at_v (ov_move rfl rfl) rfl rfl rfl ?_
              refine at_reval 43 (.bool true) rfl (congrArg Value.bool (decide_eq_true (by omega))) ?_
              refine at_wanted (j := 3) rfl ?_
              refine at_v (ov_fieldAddr (k := 0) (r := 0) rfl rfl rfl rfl) rfl rfl rfl ?_
              refine at_wanted (j := 3) rfl ?_
              refine at_v (ov_load rfl rfl rfl (fun _ s => s.ld (k := 0) rfl rfl)) rfl rfl rfl ?_
              refine at_wanted (j := 3) rfl ?_
              refine at_v (ov_move rfl rfl) rfl rfl rfl ?_
              refine at_wanted (j := 3) rfl ?_
              refine at_v (ov_len_slice rfl Try.underlying29 rfl) rfl rfl rfl ?_
              refine at_wanted (j := 3) rfl ?_
              refine at_v (ov_int rfl rfl rfl rfl) rfl rfl rfl ?_
              refine at_wanted (j := 3) rfl ?_
              refine at_v (ov_boolne rfl Try.underlying4 rfl rfl) rfl rfl rfl ?_
              refine at_v (ov_pick_t rfl rfl rfl) rfl rfl rfl ?_
              refine at_nil ?_
              refine at_normal ?_
              refine hK17 _ _ ?_
              refine at_cond_false (congrArg (fun b => some (Value.bool b)) (show _ = false from by rw [hib, hi5]; rfl)) ?_
              refine at_skip ?_
              refine at_normal ?_
              refine hK16 _ _ ?_
              refine at_seq_k (fun K18 hK18 => ?_)
              refine at_seq_k (fun K19 hK19 => ?_)
              refine at_region ?_
              refine at_v (ov_fieldAddr (k := 0) (r := 0) rfl rfl rfl rfl) rfl rfl rfl ?_
              refine at_v (ov_load rfl rfl rfl (fun _ s => s.ld (k := 3) rfl rfl)) rfl rfl rfl ?_
              refine at_v (ov_int rfl rfl rfl rfl) rfl rfl rfl ?_
              refine at_v (ov_move rfl rfl) rfl rfl rfl ?_
              refine at_reval 54 (.bool true) rfl (congrArg Value.bool (decide_eq_true (by omega))) ?_
              refine at_wanted (j := 3) rfl ?_
              refine at_v (ov_fieldAddr (k := 0) (r := 0) rfl rfl rfl rfl) rfl rfl rfl ?_
              refine at_wanted (j := 3) rfl ?_
              refine at_v (ov_load rfl rfl rfl (fun _ s => s.ld (k := 0) rfl rfl)) rfl rfl rfl ?_
              refine at_v (ov_pick_t rfl rfl rfl) rfl rfl rfl ?_
              refine at_nil ?_
              refine at_normal ?_
              refine hK19 _ _ ?_
              refine at_cond_true (congrArg (fun b => some (Value.bool b)) (show _ = true from by simp [h, hc, hid, hid1, hib, hi2, hi1, hi3, hi5]; done)) ?_
              refine at_region ?_
              refine at_v (ov_move rfl rfl) rfl rfl rfl ?_
              refine at_rowLen (xs := q0 :: q :: r) (enc := rqE) 4 rfl fun hc1 hc2 => ?_
              refine at_v (ov_sliceFrom (size := 3) (k := 1) (xs := q0 :: q :: r) rfl Try.underlying29 rfl rfl rfl (by simp) hc1) rfl rfl rfl ?_
              refine at_rowDrop 1 4 rfl (by simp) ?_
              simp only [setAt, List.drop_succ_cons, List.drop_zero]
              refine at_v (ov_assign rfl rfl) rfl rfl rfl ?_
              refine at_nil ?_
              refine at_normal ?_
              refine hK18 _ _ ?_
              refine at_seq_k (fun K20 hK20 => ?_)
              refine at_region ?_
              refine at_v (ov_move rfl rfl) rfl rfl rfl ?_
              refine at_v (ov_nilCheck rfl rfl) rfl rfl rfl ?_
              refine at_v (ov_fieldAddr (k := 0) (r := 0) rfl rfl rfl rfl) rfl rfl rfl ?_
              refine at_t (ot_call (ks := [1]) rfl rfl rfl Try.call11 rfl (T11 _ _ _) rfl) rfl rfl rfl ?_
              rintro v0 _ ⟨m0, hp0, rfl⟩
              obtain ⟨rfl, rfl⟩ := hp0
              simp only [List.cons_append, List.nil_append]
              refine at_v (ov_move rfl rfl) rfl rfl rfl ?_
              refine at_v (ov_extract rfl rfl rfl) rfl rfl rfl ?_
              refine at_v (ov_extract rfl rfl rfl) rfl rfl rfl ?_
              refine at_t (ot_allocA rfl Try.zeroValue32) rfl rfl rfl ?_
              rintro _ _ ⟨g4, rfl, rfl⟩
              refine at_t0 (ot_store (k := 0) rfl rfl rfl rfl rfl rfl rfl) rfl rfl ?_
              rintro _ _ ⟨rfl, rfl⟩
              simp only [setAt, splice, spliceL, Value.cells]
              refine at_v (ov_assign rfl rfl) rfl rfl rfl ?_
              refine at_nil ?_
              refine at_normal ?_
              refine hK20 _ _ ?_
              refine at_seq_k (fun K21 hK21 => ?_)
              refine at_draw _ [] 1000 [(2, 0), (2, 1), (1, 2), (1, 3), (1, 4), (2, 5), (2, 6), (2, 7), (1, 8), (2, 9), (1, 10), (1, 11), (1, 12), (2, 13), (2, 14), (2, 15), (2, 16), (2, 17), (2, 18), (2, 20), (1, 21), (0, 19), (1, 22), (2, 23), (2, 24), (2, 25), (1, 26), (1, 27), (2, 28)] (by kernel_rfl) (by kernel_rfl) (fun _ s => (s.pulls (ks := [0, 0, 0, 0, 0, 0]) rfl).left) ?_
              refine aq_p (ov_move rfl rfl) rfl rfl rfl ?_
              refine aq_p (ov_move rfl rfl) rfl rfl rfl ?_
              refine aq_v (ov_len_slice rfl Try.underlying29 rfl) rfl rfl rfl ?_
              refine aq_v (ov_int rfl rfl rfl rfl) rfl rfl rfl ?_
              refine aq_v (ov_boolne rfl Try.underlying4 rfl rfl) rfl rfl rfl ?_
              refine aq_p (ov_move rfl rfl) rfl rfl rfl ?_
              refine at_reval 72 (.bool false) rfl (congrArg Value.bool (by simp [h, hc, hid, hid1, hib, hi2, hi1, hi3, hi5]; done)) ?_
              refine aq_wanted (j := 5) rfl ?_
              refine aq_p (ov_move rfl rfl) rfl rfl rfl ?_
              refine aq_wanted (j := 5) rfl ?_
              refine aq_p (ov_move rfl rfl) rfl rfl rfl ?_
              refine at_reval 74 (.bool true) rfl (congrArg Value.bool (by simp [h, hc, hid, hid1, hib, hi2, hi1, hi3, hi5]; done)) ?_
              refine aq_wanted (j := 7) rfl ?_
              refine aq_v (ov_loadS (cs := [_, _, _]) rfl rfl rfl rfl (fun _ s => s.lds (k := 0) rfl ⟨rfl, rfl, rfl, trivial⟩)) rfl rfl rfl ?_
              refine aq_wanted (j := 7) rfl ?_
              refine aq_p (ov_move rfl rfl) rfl rfl rfl ?_
              refine aq_wanted (j := 7) rfl ?_
              refine aq_v (ov_indexRd (fun _ s => s.rd (k := 5) rfl) rfl Try.underlying29 rfl rfl rfl hgq) rfl rfl rfl ?_
              refine aq_wanted (j := 7) rfl ?_
              refine aq_v (ov_loadRdS (vs := [_, _, _]) (fun _ s => s.rd (k := 5) rfl) rfl rfl rfl hgq rfl rfl) rfl rfl rfl ?_
              refine aq_wanted (j := 7) rfl ?_
              refine aq_v (ov_neS rfl (by kernel_rfl) rfl rfl rfl rfl) rfl rfl rfl ?_
              refine aq_wanted (j := 5) rfl ?_
              refine aq_p (ov_pick_t rfl rfl rfl) rfl rfl rfl ?_
              refine aq_p (ov_pick_f rfl rfl rfl) rfl rfl rfl ?_
              refine aq_p (ov_move rfl rfl) rfl rfl rfl ?_
              refine at_reval 82 (.bool false) rfl (congrArg Value.bool (by simp [h, hc, hid, hid1, hib, hi2, hi1, hi3, hi5]; done)) ?_
              refine aq_wanted (j := 15) rfl ?_
              refine aq_p (ov_move rfl rfl) rfl rfl rfl ?_
              refine aq_wanted (j := 15) rfl ?_
              refine aq_p (ov_nilCheck rfl rfl) rfl rfl rfl ?_
              refine aq_wanted (j := 15) rfl ?_
              refine aq_p (ov_fieldAddr (k := 0) (r := 0) rfl rfl rfl rfl) rfl rfl rfl ?_
              refine aq_wanted (j := 15) rfl ?_
              refine aq_p (ov_move rfl rfl) rfl rfl rfl ?_
              refine aq_wanted (j := 15) rfl ?_
              refine aq_v (ov_len_slice rfl Try.underlying29 rfl) rfl rfl rfl ?_
              refine aq_wanted (j := 15) rfl ?_
              refine aq_t (ot_call (ks := [1]) rfl rfl rfl Try.call12 rfl (T12 _ _ _) rfl) rfl rfl rfl ?_
              rintro v0 _ ⟨m0, hp0, rfl⟩
              obtain ⟨rfl, rfl⟩ := hp0
              simp only [List.cons_append, List.nil_append]
              refine ⟨fun _ s => (s.pulls (ks := [1, 0, 0, 0, 0, 0]) rfl).left, ?_⟩
              refine aq_wanted (j := 15) rfl ?_
              refine aq_v (ov_int rfl rfl rfl rfl) rfl rfl rfl ?_
              refine aq_p (ov_pick_f rfl rfl rfl) rfl rfl rfl ?_
              refine aq_p (ov_move rfl rfl) rfl rfl rfl ?_
              refine at_reval 91 (.bool false) rfl (congrArg Value.bool (by simp [h, hc, hid, hid1, hib, hi2, hi1, hi3, hi5]; done)) ?_
              refine aq_wanted (j := 24) rfl ?_
              refine aq_p (ov_move rfl rfl) rfl rfl rfl ?_
              refine aq_wanted (j := 24) rfl ?_
              refine aq_v (ov_len_slice rfl Try.underlying29 rfl) rfl rfl rfl ?_
              refine aq_wanted (j := 24) rfl ?_
              refine aq_v (ov_int rfl rfl rfl rfl) rfl rfl rfl ?_
              refine aq_p (ov_pick_f rfl rfl rfl) rfl rfl rfl ?_
              refine aq_nil ?_
              refine at_normal ?_
              refine hK21 _ _ ?_
              refine at_cond_false (congrArg (fun b => some (Value.bool b)) (show _ = false from decide_eq_false (by omega))) ?_
              refine at_skip ?_
              refine at_inb_normal ?_
              refine at_normal ?_
              refine hK11 _ _ ?_
              refine at_region ?_
              refine at_v ((ov_int rfl rfl rfl rfl).eq (congrArg (Value.int .i64) (inK_i64 (by omega) (by omega)))) rfl rfl rfl ?_
              refine at_v (ov_move rfl rfl) rfl rfl rfl ?_
              refine at_nil ?_
              refine at_normal ?_
              refine at_roundF (k + 1, _, _) hlt (by simp only []; omega) ⟨rfl, look_eq rfl (by rw [runS_succ l k hlt, hst]; simp only []; rw [hi2]), trivial⟩ rfl ?_
              simp only [setAt]
              rw [runS_succ l k hlt, hst]
              simp only []
              rw [hi2]
              exact fun _ s => s.finEq (ks := [3, 0, 3]) (js := [0, 0, 0]) rfl rfl rfl
        · have hce2 : s.reqs = (doS s v l[k]).reqs := by rw [hce, came, if_neg hid, if_neg hid1]
          cases hi2 : (doS s v l[k]).reqs with
          | nil =>
            have hi1 : (doS s v l[k]).some_ = false := by simp [SM.some_, hi2]
            rw [hce2, hi2]
            refine at_skip ?_
            refine at_normal ?_
            refine hK10 _ _ ?_
            refine at_seq_k (fun K11 hK11 => ?_)
            refine at_block ?_
            refine at_seq_k (fun K12 hK12 => ?_)
            refine at_region ?_
            refine at_v (ov_indexRd (fun _ s => hr.up s) rfl Try.underlying22 rfl rfl rfl hget) rfl rfl rfl ?_
            refine at_v (ov_loadRdS (vs := [_, _, _, _, _, _, _, _, _, _]) (fun _ s => hr.up s) rfl rfl rfl hget rfl rfl) rfl rfl rfl ?_
            refine at_t (ot_allocA rfl Try.zeroValue36) rfl rfl rfl ?_
            rintro _ _ ⟨g2, rfl, rfl⟩
            refine at_t0 (ot_store (k := 0) rfl rfl rfl rfl rfl rfl rfl) rfl rfl ?_
            rintro _ _ ⟨rfl, rfl⟩
            simp only [setAt, splice, spliceL, Value.cells]
            refine at_nil ?_
            refine at_normal ?_
            refine hK12 _ _ ?_
            refine at_seq_k (fun K13 hK13 => ?_)
            refine at_region ?_
            refine at_v (ov_move rfl rfl) rfl rfl rfl ?_
            refine at_v (ov_move rfl rfl) rfl rfl rfl ?_
            refine at_v (ov_loadS (cs := [_, _, _, _, _, _, _, _, _, _]) rfl rfl rfl rfl (fun _ s => s.lds (k := 0) rfl ⟨rfl, rfl, rfl, rfl, rfl, rfl, rfl, rfl, rfl, rfl, trivial⟩)) rfl rfl rfl ?_
            refine at_t (ot_call (ks := [2, 1]) rfl rfl rfl Try.call10 rfl (T10 _ _ _ _ _ _ (by first | assumption | omega | decide | (simp; done) | (simp at *; omega))) rfl) rfl rfl rfl ?_
            rintro v0 _ ⟨m0, hp0, rfl⟩
            obtain ⟨rfl, rfl⟩ := hp0
            simp only [List.cons_append, List.nil_append]
            refine at_t (ot_allocA rfl Try.zeroValue39) rfl rfl rfl ?_
            rintro _ _ ⟨g3, rfl, rfl⟩
            refine at_t0 (ot_store (k := 0) rfl rfl rfl rfl rfl rfl rfl) rfl rfl ?_
            rintro _ _ ⟨rfl, rfl⟩
            simp only [setAt, splice, spliceL, Value.cells]
            refine at_nil ?_
            refine at_normal ?_
            refine hK13 _ _ ?_
            refine at_seq_k (fun K14 hK14 => ?_)
            refine at_seq_k (fun K15 hK15 => ?_)
            refine at_region ?_
            refine at_v (ov_fieldAddr (k := 0) (r := 0) rfl rfl rfl rfl) rfl rfl rfl ?_
            refine at_v (ov_load rfl rfl rfl (fun _ s => s.ld (k := 3) rfl rfl)) rfl rfl rfl ?_
            refine at_v (ov_int rfl rfl rfl rfl) rfl rfl rfl ?_
            refine at_v (ov_move rfl rfl) rfl rfl rfl ?_
            refine at_reval 30 (.bool false) rfl (congrArg Value.bool (decide_eq_false (by omega))) ?_
            refine at_unwanted (j := 3) rfl rfl rfl rfl ?_
            refine at_unwanted (j := 3) rfl rfl rfl rfl ?_
            refine at_unwanted (j := 3) rfl rfl rfl rfl ?_
            refine at_v (ov_pick_f rfl rfl rfl) rfl rfl rfl ?_
            refine at_nil ?_
            refine at_normal ?_
            refine hK15 _ _ ?_
            refine at_cond_false rfl ?_
            refine at_skip ?_
            refine at_normal ?_
            refine hK14 _ _ ?_
            refine at_seq_k (fun K16 hK16 => ?_)
            refine at_seq_k (fun K17 hK17 => ?_)
            refine at_region ?_
            refine at_v (ov_fieldAddr (k := 0) (r := 0) rfl rfl rfl rfl) rfl rfl rfl ?_
            refine at_v (ov_load rfl rfl rfl (fun _ s => s.ld (k := 3) rfl rfl)) rfl rfl rfl ?_
            refine at_v (ov_int rfl rfl rfl rfl) rfl rfl rfl ?_
            refine at_v (ov_move rfl rfl) rfl rfl rfl ?_
            refine at_reval 43 (.bool false) rfl (congrArg Value.bool (decide_eq_false (by omega))) ?_
            refine at_unwanted (j := 3) rfl rfl rfl rfl ?_
            refine at_unwanted (j := 3) rfl rfl rfl rfl ?_
            refine at_unwanted (j := 3) rfl rfl rfl rfl ?_
            refine at_unwanted (j := 3) rfl rfl rfl rfl ?_
            refine at_unwanted (j := 3) rfl rfl rfl rfl ?_
            refine at_unwanted (j := 3) rfl rfl rfl rfl ?_
            refine at_v (ov_pick_f rfl rfl rfl) rfl rfl rfl ?_
            refine at_nil ?_
            refine at_normal ?_
            refine hK17 _ _ ?_
            refine at_cond_false rfl ?_
            refine at_skip ?_
            refine at_normal ?_
            refine hK16 _ _ ?_
            refine at_seq_k (fun K18 hK18 => ?_)
            refine at_seq_k (fun K19 hK19 => ?_)
            refine at_region ?_
            refine at_v (ov_fieldAddr (k := 0) (r := 0) rfl rfl rfl rfl) rfl rfl rfl ?_
            refine at_v (ov_load rfl rfl rfl (fun _ s => s.ld (k := 3) rfl rfl)) rfl rfl rfl ?_
            refine at_v (ov_int rfl rfl rfl rfl) rfl rfl rfl ?_
            refine at_v (ov_move rfl rfl) rfl rfl rfl ?_
            refine at_reval 54 (.bool false) rfl (congrArg Value.bool (decide_eq_false (by omega))) ?_
            refine at_unwanted (j := 3) rfl rfl rfl rfl ?_
            refine at_unwanted (j := 3) rfl rfl rfl rfl ?_
            refine at_v (ov_pick_f rfl rfl rfl) rfl rfl rfl ?_
            refine at_nil ?_
            refine at_normal ?_
            refine hK19 _ _ ?_
            refine at_cond_false rfl ?_
            refine at_skip ?_
            refine at_normal ?_
            refine hK18 _ _ ?_
            refine at_seq_k (fun K20 hK20 => ?_)
            refine at_region ?_
            refine at_v (ov_move rfl rfl) rfl rfl rfl ?_
            refine at_v (ov_nilCheck rfl rfl) rfl rfl rfl ?_
            refine at_v (ov_fieldAddr (k := 0) (r := 0) rfl rfl rfl rfl) rfl rfl rfl ?_
            refine at_t (ot_call (ks := [1]) rfl rfl rfl Try.call11 rfl (T11 _ _ _) rfl) rfl rfl rfl ?_
            rintro v0 _ ⟨m0, hp0, rfl⟩
            obtain ⟨rfl, rfl⟩ := hp0
            simp only [List.cons_append, List.nil_append]
            refine at_v (ov_move rfl rfl) rfl rfl rfl ?_
            refine at_v (ov_extract rfl rfl rfl) rfl rfl rfl ?_
            refine at_v (ov_extract rfl rfl rfl) rfl rfl rfl ?_
            refine at_t (ot_allocA rfl Try.zeroValue32) rfl rfl rfl ?_
            rintro _ _ ⟨g4, rfl, rfl⟩
            refine at_t0 (ot_store (k := 0) rfl rfl rfl rfl rfl rfl rfl) rfl rfl ?_
            rintro _ _ ⟨rfl, rfl⟩
            simp only [setAt, splice, spliceL, Value.cells]
            refine at_v (ov_assign rfl rfl) rfl rfl rfl ?_
            refine at_nil ?_
            refine at_normal ?_
            refine hK20 _ _ ?_
            refine at_seq_k (fun K21 hK21 => ?_)
            refine at_draw _ [] 1000 [(2, 0), (2, 1), (1, 2), (1, 3), (1, 4), (2, 5), (2, 6), (2, 7), (1, 8), (2, 9), (1, 10), (1, 11), (1, 12), (2, 13), (2, 14), (2, 15), (2, 16), (2, 17), (2, 18), (2, 20), (1, 21), (0, 19), (1, 22), (2, 23), (2, 24), (2, 25), (1, 26), (1, 27), (2, 28)] (by kernel_rfl) (by kernel_rfl) (fun _ s => (s.pulls (ks := [0, 1, 2]) rfl).left) ?_
            refine aq_p (ov_move rfl rfl) rfl rfl rfl ?_
            refine aq_p (ov_move rfl rfl) rfl rfl rfl ?_
            refine aq_v (ov_len_slice rfl Try.underlying29 rfl) rfl rfl rfl ?_
            refine aq_v (ov_int rfl rfl rfl rfl) rfl rfl rfl ?_
            refine aq_v (ov_boolne rfl Try.underlying4 rfl rfl) rfl rfl rfl ?_
            refine aq_p (ov_move rfl rfl) rfl rfl rfl ?_
            refine at_reval 72 (.bool false) rfl (congrArg Value.bool (by simp [h, hc, hid, hid1, hi2, hi1]; done)) ?_
            refine aq_wanted (j := 5) rfl ?_
            refine aq_p (ov_move rfl rfl) rfl rfl rfl ?_
            refine aq_wanted (j := 5) rfl ?_
            refine aq_p (ov_move rfl rfl) rfl rfl rfl ?_
            refine at_reval 74 (.bool false) rfl (congrArg Value.bool (by simp [h, hc, hid, hid1, hi2, hi1]; done)) ?_
            refine aq_unwanted (j := 7) rfl rfl rfl rfl rfl ?_
            refine aq_unwanted (j := 7) rfl rfl rfl rfl rfl ?_
            refine aq_unwanted (j := 7) rfl rfl rfl rfl rfl ?_
            refine aq_unwanted (j := 7) rfl rfl rfl rfl rfl ?_
            refine aq_unwanted (j := 7) rfl rfl rfl rfl rfl ?_
            refine aq_wanted (j := 5) rfl ?_
            refine aq_p (ov_pick_f rfl rfl rfl) rfl rfl rfl ?_
            refine aq_p (ov_pick_f rfl rfl rfl) rfl rfl rfl ?_
            refine aq_p (ov_move rfl rfl) rfl rfl rfl ?_
            refine aq_wanted (j := 15) rfl ?_
            refine aq_p (ov_move rfl rfl) rfl rfl rfl ?_
            refine aq_wanted (j := 15) rfl ?_
            refine aq_p (ov_nilCheck rfl rfl) rfl rfl rfl ?_
            refine aq_wanted (j := 15) rfl ?_
            refine aq_p (ov_fieldAddr (k := 0) (r := 0) rfl rfl rfl rfl) rfl rfl rfl ?_
            refine aq_wanted (j := 15) rfl ?_
            refine aq_p (ov_move rfl rfl) rfl rfl rfl ?_
            refine aq_wanted (j := 15) rfl ?_
            refine aq_v (ov_len_slice rfl Try.underlying29 rfl) rfl rfl rfl ?_
            refine aq_wanted (j := 15) rfl ?_
            refine aq_t (ot_call (ks := [1]) rfl rfl rfl Try.call12 rfl (T12 _ _ _) rfl) rfl rfl rfl ?_
            rintro v0 _ ⟨m0, hp0, rfl⟩
            obtain ⟨rfl, rfl⟩ := hp0
            simp only [List.cons_append, List.nil_append]
            refine ⟨fun _ s => (s.pulls (ks := [1, 1, 2]) rfl).left, ?_⟩
            refine aq_wanted (j := 15) rfl ?_
            refine aq_v (ov_int rfl rfl rfl rfl) rfl rfl rfl ?_
            refine aq_p (ov_pick_f rfl rfl rfl) rfl rfl rfl ?_
            refine aq_p (ov_move rfl rfl) rfl rfl rfl ?_
            refine at_reval 91 (.bool false) rfl (congrArg Value.bool (by simp [h, hc, hid, hid1, hi2, hi1]; done)) ?_
            refine aq_wanted (j := 24) rfl ?_
            refine aq_p (ov_move rfl rfl) rfl rfl rfl ?_
            refine aq_wanted (j := 24) rfl ?_
            refine aq_v (ov_len_slice rfl Try.underlying29 rfl) rfl rfl rfl ?_
            refine aq_wanted (j := 24) rfl ?_
            refine aq_v (ov_int rfl rfl rfl rfl) rfl rfl rfl ?_
            refine aq_p (ov_pick_f rfl rfl rfl) rfl rfl rfl ?_
            refine aq_nil ?_
            refine at_normal ?_
            refine hK21 _ _ ?_
            refine at_cond_false rfl ?_
            refine at_skip ?_
            refine at_inb_normal ?_
            refine at_normal ?_
            refine hK11 _ _ ?_
            refine at_region ?_
            refine at_v ((ov_int rfl rfl rfl rfl).eq (congrArg (Value.int .i64) (inK_i64 (by omega) (by omega)))) rfl rfl rfl ?_
            refine at_v (ov_move rfl rfl) rfl rfl rfl ?_
            refine at_nil ?_
            refine at_normal ?_
            refine at_roundF (k + 1, A1, c1) hlt (by simp only []; omega) ⟨rfl, look_eq rfl (by rw [runS_succ l k hlt, hst]; simp only []; rw [hi2]), trivial⟩ rfl ?_
            simp only [setAt]
            rw [runS_succ l k hlt, hst]
            simp only []
            rw [hi2]
            exact fun _ s => s.finEq (ks := [3, 0, 3]) (js := [0, 0, 0]) rfl rfl rfl
          | cons q r =>
            have hi1 : (doS s v l[k]).some_ = true := by simp [SM.some_, hi2]
            have hi3 : (doS s v l[k]).head = q := by simp [SM.head, hi2]
            have hgq : (q :: r)[0]? = some q := rfl
            have h8 : (q :: r).length ≤ 8 := by rw [← hi2]; exact hle
            rw [hce2, hi2]
            refine at_skip ?_
            refine at_normal ?_
            refine hK10 _ _ ?_
            refine at_seq_k (fun K11 hK11 => ?_)
            refine at_block ?_
            refine at_seq_k (fun K12 hK12 => ?_)
            refine at_region ?_
            refine at_v (ov_indexRd (fun _ s => hr.up s) rfl Try.underlying22 rfl rfl rfl hget) rfl rfl rfl ?_
            refine at_v (ov_loadRdS (vs := [_, _, _, _, _, _, _, _, _, _]) (fun _ s => hr.up s) rfl rfl rfl hget rfl rfl) rfl rfl rfl ?_
            refine at_t (ot_allocA rfl Try.zeroValue36) rfl rfl rfl ?_
            rintro _ _ ⟨g2, rfl, rfl⟩
            refine at_t0 (ot_store (k := 0) rfl rfl rfl rfl rfl rfl rfl) rfl rfl ?_
            rintro _ _ ⟨rfl, rfl⟩
            simp only [setAt, splice, spliceL, Value.cells]
            refine at_nil ?_
            refine at_normal ?_
            refine hK12 _ _ ?_
            refine at_seq_k (fun K13 hK13 => ?_)
            refine at_region ?_
            refine at_v (ov_move rfl rfl) rfl rfl rfl ?_
            refine at_v (ov_move rfl rfl) rfl rfl rfl ?_
            refine at_v (ov_loadS (cs := [_, _, _, _, _, _, _, _, _, _]) rfl rfl rfl rfl (fun _ s => s.lds (k := 0) rfl ⟨rfl, rfl, rfl, rfl, rfl, rfl, rfl, rfl, rfl, rfl, trivial⟩)) rfl rfl rfl ?_
            refine at_t (ot_call (ks := [2, 1]) rfl rfl rfl Try.call10 rfl (T10 _ _ _ _ _ _ (by first | assumption | omega | decide | (simp; done) | (simp at *; omega))) rfl) rfl rfl rfl ?_
            rintro v0 _ ⟨m0, hp0, rfl⟩
            obtain ⟨rfl, rfl⟩ := hp0
            simp only [List.cons_append, List.nil_append]
            refine at_t (ot_allocA rfl Try.zeroValue39) rfl rfl rfl ?_
            rintro _ _ ⟨g3, rfl, rfl⟩
            refine at_t0 (ot_store (k := 0) rfl rfl rfl rfl rfl rfl rfl) rfl rfl ?_
            rintro _ _ ⟨rfl, rfl⟩
            simp only [setAt, splice, spliceL, Value.cells]
            refine at_nil ?_
            refine at_normal ?_
            refine hK13 _ _ ?_
            refine at_seq_k (fun K14 hK14 => ?_)
            refine at_seq_k (fun K15 hK15 => ?_)
            refine at_region ?_
            refine at_v (ov_fieldAddr (k := 0) (r := 0) rfl rfl rfl rfl) rfl rfl rfl ?_
            refine at_v (ov_load rfl rfl rfl (fun _ s => s.ld (k := 3) rfl rfl)) rfl rfl rfl ?_
            refine at_v (ov_int rfl rfl rfl rfl) rfl rfl rfl ?_
            refine at_v (ov_move rfl rfl) rfl rfl rfl ?_
            refine at_reval 30 (.bool false) rfl (congrArg Value.bool (decide_eq_false (by omega))) ?_
            refine at_unwanted (j := 3) rfl rfl rfl rfl ?_
            refine at_unwanted (j := 3) rfl rfl rfl rfl ?_
            refine at_unwanted (j := 3) rfl rfl rfl rfl ?_
            refine at_v (ov_pick_f rfl rfl rfl) rfl rfl rfl ?_
            refine at_nil ?_
            refine at_normal ?_
            refine hK15 _ _ ?_
            refine at_cond_false rfl ?_
            refine at_skip ?_
            refine at_normal ?_
            refine hK14 _ _ ?_
            refine at_seq_k (fun K16 hK16 => ?_)
            refine at_seq_k (fun K17 hK17 => ?_)
            refine at_region ?_
            refine at_v (ov_fieldAddr (k := 0) (r := 0) rfl rfl rfl rfl) rfl rfl rfl ?_
            refine at_v (ov_load rfl rfl rfl (fun _ s => s.ld (k := 3) rfl rfl)) rfl rfl rfl ?_
            refine at_v (ov_int rfl rfl rfl rfl) rfl rfl rfl ?_
            refine at_v (ov_move rfl rfl) rfl rfl rfl ?_
            refine at_reval 43 (.bool false) rfl (congrArg Value.bool (decide_eq_false (by omega))) ?_
            refine at_unwanted (j := 3) rfl rfl rfl rfl ?_
            refine at_unwanted (j := 3) rfl rfl rfl rfl ?_
            refine at_unwanted (j := 3) rfl rfl rfl rfl ?_
            refine at_unwanted (j := 3) rfl rfl rfl rfl ?_
            refine at_unwanted (j := 3) rfl rfl rfl rfl ?_
            refine at_unwanted (j := 3) rfl rfl rfl rfl ?_
            refine at_v (ov_pick_f rfl rfl rfl) rfl rfl rfl ?_
            refine at_nil ?_
            refine at_normal ?_
            refine hK17 _ _ ?_
            refine at_cond_false rfl ?_
            refine at_skip ?_
            refine at_normal ?_
            refine hK16 _ _ ?_
            refine at_seq_k (fun K18 hK18 => ?_)
            refine at_seq_k (fun K19 hK19 => ?_)
            refine at_region ?_
            refine at_v (ov_fieldAddr (k := 0) (r := 0) rfl rfl rfl rfl) rfl rfl rfl ?_
            refine at_v (ov_load rfl rfl rfl (fun _ s => s.ld (k := 3) rfl rfl)) rfl rfl rfl ?_
            refine at_v (ov_int rfl rfl rfl rfl) rfl rfl rfl ?_
            refine at_v (ov_move rfl rfl) rfl rfl rfl ?_
            refine at_reval 54 (.bool false) rfl (congrArg Value.bool (decide_eq_false (by omega))) ?_
            refine at_unwanted (j := 3) rfl rfl rfl rfl ?_
            refine at_unwanted (j := 3) rfl rfl rfl rfl ?_
            refine at_v (ov_pick_f rfl rfl rfl) rfl rfl rfl ?_
            refine at_nil ?_
            refine at_normal ?_
            refine hK19 _ _ ?_
            refine at_cond_false rfl ?_
            refine at_skip ?_
            refine at_normal ?_
            refine hK18 _ _ ?_
            refine at_seq_k (fun K20 hK20 => ?_)
            refine at_region ?_
            refine at_v (ov_move rfl rfl) rfl rfl rfl ?_
            refine at_v (ov_nilCheck rfl rfl) rfl rfl rfl ?_
            refine at_v (ov_fieldAddr (k := 0) (r := 0) rfl rfl rfl rfl) rfl rfl rfl ?_
            refine at_t (ot_call (ks := [1]) rfl rfl rfl Try.call11 rfl (T11 _ _ _) rfl) rfl rfl rfl ?_
            rintro v0 _ ⟨m0, hp0, rfl⟩
            obtain ⟨rfl, rfl⟩ := hp0
            simp only [List.cons_append, List.nil_append]
            refine at_v (ov_move rfl rfl) rfl rfl rfl ?_
            refine at_v (ov_extract rfl rfl rfl) rfl rfl rfl ?_
            refine at_v (ov_extract rfl rfl rfl) rfl rfl rfl ?_
            refine at_t (ot_allocA rfl Try.zeroValue32) rfl rfl rfl ?_
            rintro _ _ ⟨g4, rfl, rfl⟩
            refine at_t0 (ot_store (k := 0) rfl rfl rfl rfl rfl rfl rfl) rfl rfl ?_
            rintro _ _ ⟨rfl, rfl⟩
            simp only [setAt, splice, spliceL, Value.cells]
            refine at_v (ov_assign rfl rfl) rfl rfl rfl ?_
            refine at_nil ?_
            refine at_normal ?_
            refine hK20 _ _ ?_
            refine at_seq_k (fun K21 hK21 => ?_)
            refine at_draw _ [] 1000 [(2, 0), (2, 1), (1, 2), (1, 3), (1, 4), (2, 5), (2, 6), (2, 7), (1, 8), (2, 9), (1, 10), (1, 11), (1, 12), (2, 13), (2, 14), (2, 15), (2, 16), (2, 17), (2, 18), (2, 20), (1, 21), (0, 19), (1, 22), (2, 23), (2, 24), (2, 25), (1, 26), (1, 27), (2, 28)] (by kernel_rfl) (by kernel_rfl) (fun _ s => (s.pulls (ks := [0, 0, 0, 0, 0, 0]) rfl).left) ?_
            refine aq_p (ov_move rfl rfl) rfl rfl rfl ?_
            refine aq_p (ov_move rfl rfl) rfl rfl rfl ?_
            refine aq_v (ov_len_slice rfl Try.underlying29 rfl) rfl rfl rfl ?_
            refine aq_v (ov_int rfl rfl rfl rfl) rfl rfl rfl ?_
            refine aq_v (ov_boolne rfl Try.underlying4 rfl rfl) rfl rfl rfl ?_
            refine aq_p (ov_move rfl rfl) rfl rfl rfl ?_
            refine at_reval 72 (.bool false) rfl (congrArg Value.bool (by simp [h, hc, hid, hid1, hi2, hi1, hi3]; done)) ?_
            refine aq_wanted (j := 5) rfl ?_
            refine aq_p (ov_move rfl rfl) rfl rfl rfl ?_
            refine aq_wanted (j := 5) rfl ?_
            refine aq_p (ov_move rfl rfl) rfl rfl rfl ?_
            refine at_reval 74 (.bool true) rfl (congrArg Value.bool (by simp [h, hc, hid, hid1, hi2, hi1, hi3]; done)) ?_
            refine aq_wanted (j := 7) rfl ?_
            refine aq_v (ov_loadS (cs := [_, _, _]) rfl rfl rfl rfl (fun _ s => s.lds (k := 0) rfl ⟨rfl, rfl, rfl, trivial⟩)) rfl rfl rfl ?_
            refine aq_wanted (j := 7) rfl ?_
            refine aq_p (ov_move rfl rfl) rfl rfl rfl ?_
            refine aq_wanted (j := 7) rfl ?_
            refine aq_v (ov_indexRd (fun _ s => s.rd (k := 5) rfl) rfl Try.underlying29 rfl rfl rfl hgq) rfl rfl rfl ?_
            refine aq_wanted (j := 7) rfl ?_
            refine aq_v (ov_loadRdS (vs := [_, _, _]) (fun _ s => s.rd (k := 5) rfl) rfl rfl rfl hgq rfl rfl) rfl rfl rfl ?_
            refine aq_wanted (j := 7) rfl ?_
            refine aq_v (ov_neS rfl (by kernel_rfl) rfl rfl rfl rfl) rfl rfl rfl ?_
            refine aq_wanted (j := 5) rfl ?_
            refine aq_p (ov_pick_t rfl rfl rfl) rfl rfl rfl ?_
            refine aq_p (ov_pick_f rfl rfl rfl) rfl rfl rfl ?_
            refine aq_p (ov_move rfl rfl) rfl rfl rfl ?_
            refine at_reval 82 (.bool false) rfl (congrArg Value.bool (by simp [h, hc, hid, hid1, hi2, hi1, hi3]; done)) ?_
            refine aq_wanted (j := 15) rfl ?_
            refine aq_p (ov_move rfl rfl) rfl rfl rfl ?_
            refine aq_wanted (j := 15) rfl ?_
            refine aq_p (ov_nilCheck rfl rfl) rfl rfl rfl ?_
            refine aq_wanted (j := 15) rfl ?_
            refine aq_p (ov_fieldAddr (k := 0) (r := 0) rfl rfl rfl rfl) rfl rfl rfl ?_
            refine aq_wanted (j := 15) rfl ?_
            refine aq_p (ov_move rfl rfl) rfl rfl rfl ?_
            refine aq_wanted (j := 15) rfl ?_
            refine aq_v (ov_len_slice rfl Try.underlying29 rfl) rfl rfl rfl ?_
            refine aq_wanted (j := 15) rfl ?_
            refine aq_t (ot_call (ks := [1]) rfl rfl rfl Try.call12 rfl (T12 _ _ _) rfl) rfl rfl rfl ?_
            rintro v0 _ ⟨m0, hp0, rfl⟩
            obtain ⟨rfl, rfl⟩ := hp0
            simp only [List.cons_append, List.nil_append]
            refine ⟨fun _ s => (s.pulls (ks := [1, 0, 0, 0, 0, 0]) rfl).left, ?_⟩
            refine aq_wanted (j := 15) rfl ?_
            refine aq_v (ov_int rfl rfl rfl rfl) rfl rfl rfl ?_
            refine aq_p (ov_pick_f rfl rfl rfl) rfl rfl rfl ?_
            refine aq_p (ov_move rfl rfl) rfl rfl rfl ?_
            refine at_reval 91 (.bool false) rfl (congrArg Value.bool (by simp [h, hc, hid, hid1, hi2, hi1, hi3]; done)) ?_
            refine aq_wanted (j := 24) rfl ?_
            refine aq_p (ov_move rfl rfl) rfl rfl rfl ?_
            refine aq_wanted (j := 24) rfl ?_
            refine aq_v (ov_len_slice rfl Try.underlying29 rfl) rfl rfl rfl ?_
            refine aq_wanted (j := 24) rfl ?_
            refine aq_v (ov_int rfl rfl rfl rfl) rfl rfl rfl ?_
            refine aq_p (ov_pick_f rfl rfl rfl) rfl rfl rfl ?_
            refine aq_nil ?_
            refine at_normal ?_
            refine hK21 _ _ ?_
            refine at_cond_false (congrArg (fun b => some (Value.bool b)) (show _ = false from decide_eq_false (by omega))) ?_
            refine at_skip ?_
            refine at_inb_normal ?_
            refine at_normal ?_
            refine hK11 _ _ ?_
            refine at_region ?_
            refine at_v ((ov_int rfl rfl rfl rfl).eq (congrArg (Value.int .i64) (inK_i64 (by omega) (by omega)))) rfl rfl rfl ?_
            refine at_v (ov_move rfl rfl) rfl rfl rfl ?_
            refine at_nil ?_
            refine at_normal ?_
            refine at_roundF (k + 1, A1, c1) hlt (by simp only []; omega) ⟨rfl, look_eq rfl (by rw [runS_succ l k hlt, hst]; simp only []; rw [hi2]), trivial⟩ rfl ?_
            simp only [setAt]
            rw [runS_succ l k hlt, hst]
            simp only []
            rw [hi2]
            exact fun _ s => s.finEq (ks := [3, 0, 3]) (js := [0, 0, 0]) rfl rfl rfl
    · refine at_exit ?_
      refine at_then_exit ?_
      refine at_then_exit ?_
      refine at_exit_eq ?_
      refine at_normal ?_
      refine hK7 _ _ ?_
      refine at_seq_k (fun K11 hK11 => ?_)
      refine at_region ?_
      refine at_v (ov_assign rfl rfl) rfl rfl rfl ?_
      refine at_nil ?_
      refine at_normal ?_
      refine hK11 _ _ ?_
      refine at_ret ?_
      refine at_end ?_
      refine at_fin (rsV rfl (res_tmp rfl)) ?_
      refine ⟨_, ⟨rfl, rfl⟩, ?_⟩
      exact fun _ s => s.finEq (ks := []) (js := [0, 0, 0]) rfl rfl rfl
end Go.Proofs.Ytmhoimnochigjaa
