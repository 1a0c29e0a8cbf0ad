/- The reference's pool, walked, further. -/
import Derived.Test.YtlkcccihkfggmaaGreatProg
import Derived.Test.YtlkcccihkfggmaaGreatRefPool
import Derived.Test.YtlkcccihkfggmaaGreatSLBr
import Derived.KernelRfl
set_option linter.unusedSimpArgs false
set_option linter.unusedVariables false
set_option maxRecDepth 100000
set_option maxHeartbeats 4000000
namespace Go.Proofs.YtlkcccihkfggmaaGreat
open Go Go.Proofs.YtlkcccihkfggmaaGreat.SL Go.RowKit
theorem rl_snoc {ps : List PX} (q : PX) {h : PH} (s : star [RL ps, ConnR q.1 q.2.2.1] h) : RL (ps ++ [q]) h := by
  unfold RL
  rw [List.map_append]
  obtain ⟨a, b, ha, hb, d, la, lb⟩ := s
  exact star_append.2 ⟨a, b, ha, hb, d, la, lb⟩
theorem cwf_new (e : Int) : CWf (⟨e, 0, 0, 0, false, false⟩ : CM) := ⟨Int.le_refl _, fun h => absurd rfl h, fun h => by cases h⟩
theorem lends_of {c : CM} (hc : CWf c) {s : Int} (hs : 1 ≤ s) (h1 : c.state = 1) : c.lends s = true := by
  have := (st1 hc h1).1
  simp [CM.lends]; omega
theorem lends_no {c : CM} (hc : CWf c) {s : Int} (h1 : ¬ c.state = 1) : c.lends s = false := by
  have := st_no1 hc h1
  simp [CM.lends]; omega
theorem T58 (w0 : World) {g n : Nat} {p : PM} (s e now : Int) (hw : Wf n p) (hs1 : 1 ≤ s) :
    Tri Tryz.prog w0 58 [ptrTo g, .int .i64 s, .int .u64 e, .int .u64 now] [RefA g p.most p.idle p.wm p.last p.L p.cs] fun v m => v = .tuple #[.int .i64 (giveM p.most p.last p.cs s e now).1, .bool (giveM p.most p.last p.cs s e now).2.1] ∧ m = [RefA g p.most p.idle p.wm (giveM p.most p.last p.cs s e now).2.2.1 p.L (giveM p.most p.last p.cs s e now).2.2.2] := by
  have hu := hw.giveU e
  obtain ⟨most, idle, wm, last, L, cs⟩ := p
  refine tri_of Tryz.func58 rfl rfl fun F => ?_
  simp only [Tryz.ntmps58, argEnv, List.cons_append, List.nil_append]
  refine at_ref fun wb A c ps hps => ?_
  have h6 := hw.h6
  simp only at h6
  have hlen : ps.length ≤ 6 := by rw [← hps, List.length_map] at h6; exact h6
  refine at_seq_k (fun K0 hK0 => ?_)
  refine at_region ?_
  refine at_v (ov_assign rfl rfl) rfl rfl rfl ?_
  refine at_v (ov_assign rfl rfl) rfl rfl rfl ?_
  refine at_nil ?_
  refine at_normal ?_
  refine hK0 _ _ _ ?_
  refine at_seq_k (fun K1 hK1 => ?_)
  refine at_seq_k (fun K2 hK2 => ?_)
  refine at_region ?_
  refine at_v (ov_assign rfl rfl) rfl rfl rfl ?_
  refine at_nil ?_
  refine at_normal ?_
  refine hK2 _ _ _ ?_
  refine at_block ?_
  refine at_loopE [13, 14, 15, 16, 17, 18, 19, 22, 23, 24, 25, 26, 27, 28, 29, 30, 31, 32, 33, 34, 35, 36, 37, 38, 39, 40, 41, 42, 43, 44, 45, 46, 47, 48, 49, 50, 51, 52, 53, 54, 55, 56, 57, 20, 21, 10] (fun k => k ≤ ps.length) (fun k => [(10, .int .i64 (k : Nat))]) (fun k l => setAt 3 (RL (psK (giveU e) ps k)) l) (fun k => ps.length - k) 0 (Nat.zero_le _) ⟨rfl, trivial⟩ (fun _ s => by rw [psK_zero]; exact s) ?_
  intro k hk
  simp only [setAt]
  refine at_seq_k (fun K3 hK3 => ?_)
  refine at_seq_k (fun K4 hK4 => ?_)
  refine at_region ?_
  refine at_v (ov_move rfl rfl) rfl rfl rfl ?_
  refine at_v (ov_move rfl rfl) rfl rfl rfl ?_
  refine at_v (ov_nilCheck rfl rfl) rfl rfl rfl ?_
  refine at_v (ov_fieldAddr (k := 3) (r := 3) rfl rfl rfl rfl) rfl rfl rfl ?_
  refine at_v (ov_load rfl rfl rfl (fun _ s => s.ld (k := 0) rfl rfl)) rfl rfl rfl ?_
  refine at_v (ov_len_slice rfl Tryz.underlying50 rfl) rfl rfl rfl ?_
  refine at_v (ov_int rfl rfl rfl rfl) rfl rfl rfl ?_
  refine at_nil ?_
  refine at_normal ?_
  refine hK4 _ _ _ ?_
  refine at_cond rfl (fun hc => ?_) (fun hc => ?_)
  · have hlt : k < ps.length := by simpa using hc
    obtain ⟨q, hq⟩ : ∃ q, ps[k]? = some q := ⟨_, List.getElem?_eq_getElem hlt⟩
    have hcw := hw.con q.2 (psK_cwf (f := giveU e) hps hq)
    refine at_pulls [3] rfl ?_
    refine at_takeR (psK_get hq) ?_
    simp only [List.cons_append, List.nil_append]
    by_cases hi1 : q.2.2.1.state = 1
    · by_cases hi2 : q.2.2.1.e = e
      · have hsame : giveU e q.2 = q.2.2 := if_neg (by simp [hi2])
        refine at_skip ?_
        refine at_normal ?_
        refine hK3 _ _ _ ?_
        refine at_seq_k (fun K5 hK5 => ?_)
        refine at_block ?_
        refine at_seq_k (fun K6 hK6 => ?_)
        refine at_region ?_
        refine at_v (ov_move rfl rfl) rfl rfl rfl ?_
        refine at_v (ov_nilCheck rfl rfl) rfl rfl rfl ?_
        refine at_v (ov_fieldAddr (k := 3) (r := 3) rfl rfl rfl rfl) rfl rfl rfl ?_
        refine at_v (ov_load rfl rfl rfl (fun _ s => s.ld (k := 2) rfl rfl)) rfl rfl rfl ?_
        refine at_v (ov_move rfl rfl) rfl rfl rfl ?_
        refine at_v (ov_indexRd (fun _ s => s.rd (k := 4) rfl) rfl Tryz.underlying50 rfl rfl rfl hq) rfl rfl rfl ?_
        refine at_v (ov_fieldRd0 (k := 1) (fun _ s => s.rd (k := 4) rfl) rfl rfl hq rfl) rfl rfl rfl ?_
        refine at_v (ov_loadRd (fun _ s => s.rd (k := 4) rfl) rfl rfl rfl hq rfl) rfl rfl rfl ?_
        refine at_v (ov_nilCheck rfl rfl) rfl rfl rfl ?_
        refine at_v (ov_fieldAddr (k := 1) (r := 1) rfl rfl rfl rfl) rfl rfl rfl ?_
        refine at_v (ov_load rfl rfl rfl (fun _ s => s.ld (k := 0) rfl rfl)) rfl rfl rfl ?_
        refine at_v (ov_int rfl rfl rfl rfl) rfl rfl rfl ?_
        refine at_v (ov_move rfl rfl) rfl rfl rfl ?_
        refine at_reval 34 (.bool true) rfl (congrArg Value.bool (decide_eq_true (by omega))) ?_
        refine at_wanted (j := 12) rfl ?_
        refine at_v (ov_move rfl rfl) rfl rfl rfl ?_
        refine at_wanted (j := 12) rfl ?_
        refine at_v (ov_nilCheck rfl rfl) rfl rfl rfl ?_
        refine at_wanted (j := 12) rfl ?_
        refine at_v (ov_fieldAddr (k := 3) (r := 3) rfl rfl rfl rfl) rfl rfl rfl ?_
        refine at_wanted (j := 12) rfl ?_
        refine at_v (ov_load rfl rfl rfl (fun _ s => s.ld (k := 2) rfl rfl)) rfl rfl rfl ?_
        refine at_wanted (j := 12) rfl ?_
        refine at_v (ov_move rfl rfl) rfl rfl rfl ?_
        refine at_wanted (j := 12) rfl ?_
        refine at_v (ov_indexRd (fun _ s => s.rd (k := 4) rfl) rfl Tryz.underlying50 rfl rfl rfl hq) rfl rfl rfl ?_
        refine at_wanted (j := 12) rfl ?_
        refine at_v (ov_fieldRd0 (k := 1) (fun _ s => s.rd (k := 4) rfl) rfl rfl hq rfl) rfl rfl rfl ?_
        refine at_wanted (j := 12) rfl ?_
        refine at_v (ov_loadRd (fun _ s => s.rd (k := 4) rfl) rfl rfl rfl hq rfl) rfl rfl rfl ?_
        refine at_wanted (j := 12) rfl ?_
        refine at_v (ov_nilCheck rfl rfl) rfl rfl rfl ?_
        refine at_wanted (j := 12) rfl ?_
        refine at_v (ov_fieldAddr (k := 0) (r := 0) rfl rfl rfl rfl) rfl rfl rfl ?_
        refine at_wanted (j := 12) rfl ?_
        refine at_v (ov_load rfl rfl rfl (fun _ s => s.ld (k := 0) rfl rfl)) rfl rfl rfl ?_
        refine at_wanted (j := 12) rfl ?_
        refine at_v (ov_move rfl rfl) rfl rfl rfl ?_
        refine at_wanted (j := 12) rfl ?_
        refine at_v (ov_int rfl rfl rfl rfl) rfl rfl rfl ?_
        refine at_v (ov_pick_t rfl rfl rfl) rfl rfl rfl ?_
        refine at_nil ?_
        refine at_normal ?_
        refine hK6 _ _ _ ?_
        refine at_cond_false (congrArg (fun b => some (Value.bool b)) (show _ = false from by first | assumption | (rw [Bool.not_eq_false']; exact decide_eq_true (by omega)))) ?_
        refine at_skip ?_
        refine at_inb_normal ?_
        refine at_normal ?_
        refine hK5 _ _ _ ?_
        refine at_region ?_
        refine at_v (ov_move rfl rfl) rfl rfl rfl ?_
        refine at_v ((ov_int rfl rfl rfl rfl).eq (congrArg (Value.int .i64) (inK_i64 (by omega) (by omega)))) rfl rfl rfl ?_
        refine at_v (ov_assign rfl rfl) rfl rfl rfl ?_
        refine at_nil ?_
        refine at_normal ?_
        refine at_fold (A := RL (psK (giveU e) ps k)) [0, 0] rfl (fun h s => rl_back (psK_get hq) s) ?_
        refine at_roundF (k + 1) hlt (by omega) ⟨rfl, trivial⟩ rfl ?_
        rw [psK_same hq hsame]
        exact fun _ s => s.finEq (ks := [1, 1, 1, 0]) (js := []) rfl rfl rfl
      · have hd : turnP (giveU e) q = (q.1, (q.2.1, q.2.2.1.drain, q.2.2.2)) := by unfold turnP; rw [show giveU e q.2 = (q.2.2.1.drain, q.2.2.2) from if_pos ⟨hi1, hi2⟩]
        refine at_skip ?_
        refine at_normal ?_
        refine hK3 _ _ _ ?_
        refine at_seq_k (fun K5 hK5 => ?_)
        refine at_block ?_
        refine at_seq_k (fun K6 hK6 => ?_)
        refine at_region ?_
        refine at_v (ov_move rfl rfl) rfl rfl rfl ?_
        refine at_v (ov_nilCheck rfl rfl) rfl rfl rfl ?_
        refine at_v (ov_fieldAddr (k := 3) (r := 3) rfl rfl rfl rfl) rfl rfl rfl ?_
        refine at_v (ov_load rfl rfl rfl (fun _ s => s.ld (k := 2) rfl rfl)) rfl rfl rfl ?_
        refine at_v (ov_move rfl rfl) rfl rfl rfl ?_
        refine at_v (ov_indexRd (fun _ s => s.rd (k := 4) rfl) rfl Tryz.underlying50 rfl rfl rfl hq) rfl rfl rfl ?_
        refine at_v (ov_fieldRd0 (k := 1) (fun _ s => s.rd (k := 4) rfl) rfl rfl hq rfl) rfl rfl rfl ?_
        refine at_v (ov_loadRd (fun _ s => s.rd (k := 4) rfl) rfl rfl rfl hq rfl) rfl rfl rfl ?_
        refine at_v (ov_nilCheck rfl rfl) rfl rfl rfl ?_
        refine at_v (ov_fieldAddr (k := 1) (r := 1) rfl rfl rfl rfl) rfl rfl rfl ?_
        refine at_v (ov_load rfl rfl rfl (fun _ s => s.ld (k := 0) rfl rfl)) rfl rfl rfl ?_
        refine at_v (ov_int rfl rfl rfl rfl) rfl rfl rfl ?_
        refine at_v (ov_move rfl rfl) rfl rfl rfl ?_
        refine at_reval 34 (.bool true) rfl (congrArg Value.bool (decide_eq_true (by omega))) ?_
        refine at_wanted (j := 12) rfl ?_
        refine at_v (ov_move rfl rfl) rfl rfl rfl ?_
        refine at_wanted (j := 12) rfl ?_
        refine at_v (ov_nilCheck rfl rfl) rfl rfl rfl ?_
        refine at_wanted (j := 12) rfl ?_
        refine at_v (ov_fieldAddr (k := 3) (r := 3) rfl rfl rfl rfl) rfl rfl rfl ?_
        refine at_wanted (j := 12) rfl ?_
        refine at_v (ov_load rfl rfl rfl (fun _ s => s.ld (k := 2) rfl rfl)) rfl rfl rfl ?_
        refine at_wanted (j := 12) rfl ?_
        refine at_v (ov_move rfl rfl) rfl rfl rfl ?_
        refine at_wanted (j := 12) rfl ?_
        refine at_v (ov_indexRd (fun _ s => s.rd (k := 4) rfl) rfl Tryz.underlying50 rfl rfl rfl hq) rfl rfl rfl ?_
        refine at_wanted (j := 12) rfl ?_
        refine at_v (ov_fieldRd0 (k := 1) (fun _ s => s.rd (k := 4) rfl) rfl rfl hq rfl) rfl rfl rfl ?_
        refine at_wanted (j := 12) rfl ?_
        refine at_v (ov_loadRd (fun _ s => s.rd (k := 4) rfl) rfl rfl rfl hq rfl) rfl rfl rfl ?_
        refine at_wanted (j := 12) rfl ?_
        refine at_v (ov_nilCheck rfl rfl) rfl rfl rfl ?_
        refine at_wanted (j := 12) rfl ?_
        refine at_v (ov_fieldAddr (k := 0) (r := 0) rfl rfl rfl rfl) rfl rfl rfl ?_
        refine at_wanted (j := 12) rfl ?_
        refine at_v (ov_load rfl rfl rfl (fun _ s => s.ld (k := 0) rfl rfl)) rfl rfl rfl ?_
        refine at_wanted (j := 12) rfl ?_
        refine at_v (ov_move rfl rfl) rfl rfl rfl ?_
        refine at_wanted (j := 12) rfl ?_
        refine at_v (ov_int rfl rfl rfl rfl) rfl rfl rfl ?_
        refine at_v (ov_pick_t rfl rfl rfl) rfl rfl rfl ?_
        refine at_nil ?_
        refine at_normal ?_
        refine hK6 _ _ _ ?_
        refine at_cond_true (congrArg (fun b => some (Value.bool b)) (show _ = true from by first | assumption | (rw [Bool.not_eq_true']; exact decide_eq_false (by omega)))) ?_
        refine at_region ?_
        refine at_v (ov_move rfl rfl) rfl rfl rfl ?_
        refine at_v (ov_nilCheck rfl rfl) rfl rfl rfl ?_
        refine at_v (ov_fieldAddr (k := 3) (r := 3) rfl rfl rfl rfl) rfl rfl rfl ?_
        refine at_v (ov_load rfl rfl rfl (fun _ s => s.ld (k := 2) rfl rfl)) rfl rfl rfl ?_
        refine at_v (ov_move rfl rfl) rfl rfl rfl ?_
        refine at_v (ov_indexRd (fun _ s => s.rd (k := 4) rfl) rfl Tryz.underlying50 rfl rfl rfl hq) rfl rfl rfl ?_
        refine at_v (ov_fieldRd0 (k := 1) (fun _ s => s.rd (k := 4) rfl) rfl rfl hq rfl) rfl rfl rfl ?_
        refine at_v (ov_loadRd (fun _ s => s.rd (k := 4) rfl) rfl rfl rfl hq rfl) rfl rfl rfl ?_
        refine at_t (ot_call (ks := [0]) rfl rfl rfl Tryz.call68 rfl (T68 _ _ _ (by first | assumption | rfl | omega | decide | (simp; done) | (simp at *; omega))) rfl) rfl rfl rfl ?_
        rintro v0 _ ⟨m0, hp0, rfl⟩
        obtain ⟨rfl, rfl⟩ := hp0
        simp only [List.cons_append, List.nil_append, splice, spliceL]
        refine at_nil ?_
        refine at_inb_normal ?_
        refine at_normal ?_
        refine hK5 _ _ _ ?_
        refine at_region ?_
        refine at_v (ov_move rfl rfl) rfl rfl rfl ?_
        refine at_v ((ov_int rfl rfl rfl rfl).eq (congrArg (Value.int .i64) (inK_i64 (by omega) (by omega)))) rfl rfl rfl ?_
        refine at_v (ov_assign rfl rfl) rfl rfl rfl ?_
        refine at_nil ?_
        refine at_normal ?_
        refine at_fold (A := RL ((psK (giveU e) ps k).set k (q.1, (q.2.1, q.2.2.1.drain, q.2.2.2)))) [0, 0] rfl (fun h s => rl_give (q.1, (q.2.1, q.2.2.1.drain, q.2.2.2)) (psK_get hq) rfl s) ?_
        refine at_roundF (k + 1) hlt (by omega) ⟨rfl, trivial⟩ rfl ?_
        rw [← psK_next hq, hd]
        exact fun _ s => s.finEq (ks := [1, 1, 1, 0]) (js := []) rfl rfl rfl
    · have hsame : giveU e q.2 = q.2.2 := if_neg (by simp [hi1])
      refine at_skip ?_
      refine at_normal ?_
      refine hK3 _ _ _ ?_
      refine at_seq_k (fun K5 hK5 => ?_)
      refine at_block ?_
      refine at_seq_k (fun K6 hK6 => ?_)
      refine at_region ?_
      refine at_v (ov_move rfl rfl) rfl rfl rfl ?_
      refine at_v (ov_nilCheck rfl rfl) rfl rfl rfl ?_
      refine at_v (ov_fieldAddr (k := 3) (r := 3) rfl rfl rfl rfl) rfl rfl rfl ?_
      refine at_v (ov_load rfl rfl rfl (fun _ s => s.ld (k := 2) rfl rfl)) rfl rfl rfl ?_
      refine at_v (ov_move rfl rfl) rfl rfl rfl ?_
      refine at_v (ov_indexRd (fun _ s => s.rd (k := 4) rfl) rfl Tryz.underlying50 rfl rfl rfl hq) rfl rfl rfl ?_
      refine at_v (ov_fieldRd0 (k := 1) (fun _ s => s.rd (k := 4) rfl) rfl rfl hq rfl) rfl rfl rfl ?_
      refine at_v (ov_loadRd (fun _ s => s.rd (k := 4) rfl) rfl rfl rfl hq rfl) rfl rfl rfl ?_
      refine at_v (ov_nilCheck rfl rfl) rfl rfl rfl ?_
      refine at_v (ov_fieldAddr (k := 1) (r := 1) rfl rfl rfl rfl) rfl rfl rfl ?_
      refine at_v (ov_load rfl rfl rfl (fun _ s => s.ld (k := 0) rfl rfl)) rfl rfl rfl ?_
      refine at_v (ov_int rfl rfl rfl rfl) rfl rfl rfl ?_
      refine at_v (ov_move rfl rfl) rfl rfl rfl ?_
      refine at_reval 34 (.bool false) rfl (congrArg Value.bool (decide_eq_false (by omega))) ?_
      refine at_unwanted (j := 12) rfl rfl rfl rfl ?_
      refine at_unwanted (j := 12) rfl rfl rfl rfl ?_
      refine at_unwanted (j := 12) rfl rfl rfl rfl ?_
      refine at_unwanted (j := 12) rfl rfl rfl rfl ?_
      refine at_unwanted (j := 12) rfl rfl rfl rfl ?_
      refine at_unwanted (j := 12) rfl rfl rfl rfl ?_
      refine at_unwanted (j := 12) rfl rfl rfl rfl ?_
      refine at_unwanted (j := 12) rfl rfl rfl rfl ?_
      refine at_unwanted (j := 12) rfl rfl rfl rfl ?_
      refine at_unwanted (j := 12) rfl rfl rfl rfl ?_
      refine at_unwanted (j := 12) rfl rfl rfl rfl ?_
      refine at_unwanted (j := 12) rfl rfl rfl rfl ?_
      refine at_unwanted (j := 12) rfl rfl rfl rfl ?_
      refine at_v (ov_pick_f rfl rfl rfl) rfl rfl rfl ?_
      refine at_nil ?_
      refine at_normal ?_
      refine hK6 _ _ _ ?_
      refine at_cond_false rfl ?_
      refine at_skip ?_
      refine at_inb_normal ?_
      refine at_normal ?_
      refine hK5 _ _ _ ?_
      refine at_region ?_
      refine at_v (ov_move rfl rfl) rfl rfl rfl ?_
      refine at_v ((ov_int rfl rfl rfl rfl).eq (congrArg (Value.int .i64) (inK_i64 (by omega) (by omega)))) rfl rfl rfl ?_
      refine at_v (ov_assign rfl rfl) rfl rfl rfl ?_
      refine at_nil ?_
      refine at_normal ?_
      refine at_fold (A := RL (psK (giveU e) ps k)) [0, 0] rfl (fun h s => rl_back (psK_get hq) s) ?_
      refine at_roundF (k + 1) hlt (by omega) ⟨rfl, trivial⟩ rfl ?_
      rw [psK_same hq hsame]
      exact fun _ s => s.finEq (ks := [1, 1, 1, 0]) (js := []) rfl rfl rfl
  · have hk2 : k = ps.length := by
      have : ¬ k < ps.length := by simpa using hc
      omega
    subst hk2
    rw [← row_psK (f := giveU e) (A := A) (c := c) (ps := ps) (fun x => by unfold giveU; split <;> rfl) ps.length]
    refine at_exit ?_
    refine at_then_exit ?_
    refine at_then_exit ?_
    refine at_exit_eq ?_
    refine at_normal ?_
    refine hK1 _ _ _ ?_
    refine at_seq_k (fun K5 hK5 => ?_)
    refine at_region ?_
    refine at_v (ov_move rfl rfl) rfl rfl rfl ?_
    refine at_fold (A := RefA g most idle wm last L (cs.map fun x => (x.1, giveU e x))) [0, 0, 0, 0] rfl (fun h s => ⟨wb, A, c, psK (giveU e) ps ps.length, by rw [psK_all, hps], by rw [psK_len]; exact s⟩) ?_
    have hl2 : (cs.map fun x : XM => (x.1, giveU e x)).length ≤ 7 := by rw [List.length_map]; omega
    clear hps hlen
    refine at_t (ot_call (ks := [0]) rfl rfl rfl Tryz.call64 rfl (T64 _ (by first | assumption | rfl | omega | decide | (simp; done) | (simp at *; omega))) rfl) rfl rfl rfl ?_
    rintro v0 _ ⟨m0, hp0, rfl⟩
    obtain ⟨rfl, rfl⟩ := hp0
    simp only [List.cons_append, List.nil_append, splice, spliceL]
    refine at_nil ?_
    refine at_normal ?_
    refine hK5 _ _ _ ?_
    refine at_seq_k (fun K6 hK6 => ?_)
    refine at_seq_k (fun K7 hK7 => ?_)
    refine at_region ?_
    refine at_v (ov_assign rfl rfl) rfl rfl rfl ?_
    refine at_nil ?_
    refine at_normal ?_
    refine hK7 _ _ _ ?_
    refine at_block ?_
    obtain ⟨cs1, hcs1⟩ : ∃ cs1, upd cs (giveU e) = cs1 := ⟨_, rfl⟩
    rw [show alive (cs.map fun x : XM => (x.1, giveU e x)) = cs1 from hcs1]
    simp only [hcs1] at hu
    have hcs2 : midL cs (giveU e) cs.length = cs1 := by rw [midL_upd]; exact hcs1
    have h61 := hu.h6
    have hlast := hu.lastr
    simp only at h61 hlast
    refine at_ref fun wb A c ps hps => ?_
    have hlen : ps.length ≤ 6 := by rw [← hps, List.length_map] at h61; exact h61
    have hcl : cs1.length = ps.length := by rw [← hps, List.length_map]
    refine at_loopE [60, 61, 62, 63, 64, 65, 66, 69, 70, 71, 72, 73, 74, 75, 76, 77, 78, 79, 80, 81, 82, 83, 84, 85, 86, 87, 88, 89, 90, 91, 92, 93, 94, 95, 96, 97, 98, 8, 9, 67, 68, 11] (fun k => k ≤ ps.length ∧ (cs1.take k).any (fun x => x.2.1.lends s) = false) (fun k => [(11, .int .i64 (k : Nat))]) (fun k l => l) (fun k => ps.length - k) 0 ⟨Nat.zero_le _, rfl⟩ ⟨rfl, trivial⟩ (fun _ s => s) ?_
    rintro k ⟨hk, hno⟩
    refine at_seq_k (fun K8 hK8 => ?_)
    refine at_seq_k (fun K9 hK9 => ?_)
    refine at_region ?_
    refine at_v (ov_move rfl rfl) rfl rfl rfl ?_
    refine at_v (ov_move rfl rfl) rfl rfl rfl ?_
    refine at_v (ov_nilCheck rfl rfl) rfl rfl rfl ?_
    refine at_v (ov_fieldAddr (k := 3) (r := 3) rfl rfl rfl rfl) rfl rfl rfl ?_
    refine at_v (ov_load rfl rfl rfl (fun _ s => s.ld (k := 0) rfl rfl)) rfl rfl rfl ?_
    refine at_v (ov_len_slice rfl Tryz.underlying50 rfl) rfl rfl rfl ?_
    refine at_v (ov_int rfl rfl rfl rfl) rfl rfl rfl ?_
    refine at_nil ?_
    refine at_normal ?_
    refine hK9 _ _ _ ?_
    refine at_cond rfl (fun hc => ?_) (fun hc => ?_)
    · have hlt : k < ps.length := by simpa using hc
      obtain ⟨q, hq⟩ : ∃ q, ps[k]? = some q := ⟨_, List.getElem?_eq_getElem hlt⟩
      have hx : cs1[k]? = some q.2 := by rw [← hps, List.getElem?_map, hq]; rfl
      have hcw := hu.con q.2 (List.mem_of_getElem? hx)
      refine at_pulls [3] rfl ?_
      refine at_takeR hq ?_
      simp only [List.cons_append, List.nil_append]
      by_cases hi1 : q.2.2.1.state = 1
      · have hl := lends_of hcw hs1 hi1
        have hyes := find_of (p := fun x : XM => x.2.1.lends s) hno hx hl
        have hgm : giveM most last cs s e now = (q.2.1, true, last, cs1.set k (q.2.1, lendU s q.2)) := by unfold giveM; rw [hcs2]; simp only [hyes, hx]; rfl
        obtain ⟨y, hy⟩ : ∃ y : PX, y = (q.1, (q.2.1, q.2.2.1.lend s, q.2.2.2)) := ⟨_, rfl⟩
        have hy1 : y.1 = q.1 := by rw [hy]
        have hy2 : q.2.2.1.lend s = y.2.2.1 := by rw [hy]
        have hy3 : (q.2.1, lendU s q.2) = y.2 := by rw [hy]; rfl
        rw [hy3] at hgm
        refine at_skip ?_
        refine at_normal ?_
        refine hK8 _ _ _ ?_
        refine at_seq_k (fun K10 hK10 => ?_)
        refine at_block ?_
        refine at_seq_k (fun K11 hK11 => ?_)
        refine at_region ?_
        refine at_v (ov_move rfl rfl) rfl rfl rfl ?_
        refine at_v (ov_nilCheck rfl rfl) rfl rfl rfl ?_
        refine at_v (ov_fieldAddr (k := 3) (r := 3) rfl rfl rfl rfl) rfl rfl rfl ?_
        refine at_v (ov_load rfl rfl rfl (fun _ s => s.ld (k := 2) rfl rfl)) rfl rfl rfl ?_
        refine at_v (ov_move rfl rfl) rfl rfl rfl ?_
        refine at_v (ov_indexRd (fun _ s => s.rd (k := 4) rfl) rfl Tryz.underlying50 rfl rfl rfl hq) rfl rfl rfl ?_
        refine at_v (ov_fieldRd0 (k := 1) (fun _ s => s.rd (k := 4) rfl) rfl rfl hq rfl) rfl rfl rfl ?_
        refine at_v (ov_loadRd (fun _ s => s.rd (k := 4) rfl) rfl rfl rfl hq rfl) rfl rfl rfl ?_
        refine at_v (ov_nilCheck rfl rfl) rfl rfl rfl ?_
        refine at_v (ov_fieldAddr (k := 1) (r := 1) rfl rfl rfl rfl) rfl rfl rfl ?_
        refine at_v (ov_load rfl rfl rfl (fun _ s => s.ld (k := 0) rfl rfl)) rfl rfl rfl ?_
        refine at_v (ov_int rfl rfl rfl rfl) rfl rfl rfl ?_
        refine at_nil ?_
        refine at_normal ?_
        refine hK11 _ _ _ ?_
        refine at_cond_true (congrArg (fun b => some (Value.bool b)) (show _ = true from decide_eq_true (by omega))) ?_
        refine at_seq_k (fun K12 hK12 => ?_)
        refine at_region ?_
        refine at_v (ov_move rfl rfl) rfl rfl rfl ?_
        refine at_v (ov_nilCheck rfl rfl) rfl rfl rfl ?_
        refine at_v (ov_fieldAddr (k := 3) (r := 3) rfl rfl rfl rfl) rfl rfl rfl ?_
        refine at_v (ov_load rfl rfl rfl (fun _ s => s.ld (k := 2) rfl rfl)) rfl rfl rfl ?_
        refine at_v (ov_move rfl rfl) rfl rfl rfl ?_
        refine at_v (ov_indexRd (fun _ s => s.rd (k := 4) rfl) rfl Tryz.underlying50 rfl rfl rfl hq) rfl rfl rfl ?_
        refine at_v (ov_fieldRd0 (k := 1) (fun _ s => s.rd (k := 4) rfl) rfl rfl hq rfl) rfl rfl rfl ?_
        refine at_v (ov_loadRd (fun _ s => s.rd (k := 4) rfl) rfl rfl rfl hq rfl) rfl rfl rfl ?_
        refine at_v (ov_move rfl rfl) rfl rfl rfl ?_
        refine at_t (ot_call (ks := [0]) rfl rfl rfl Tryz.call80 rfl (T80 _ _ _ _ (by first | assumption | rfl | omega | decide | (simp; done) | (simp at *; omega))) rfl) rfl rfl rfl ?_
        rintro v0 _ ⟨m0, hp0, rfl⟩
        obtain ⟨rfl, rfl⟩ := hp0
        simp only [List.cons_append, List.nil_append, splice, spliceL]
        refine at_nil ?_
        refine at_normal ?_
        refine hK12 _ _ _ ?_
        refine at_seq_k (fun K13 hK13 => ?_)
        refine at_region ?_
        refine at_v (ov_move rfl rfl) rfl rfl rfl ?_
        refine at_v (ov_nilCheck rfl rfl) rfl rfl rfl ?_
        refine at_v (ov_fieldAddr (k := 3) (r := 3) rfl rfl rfl rfl) rfl rfl rfl ?_
        refine at_v (ov_load rfl rfl rfl (fun _ s => s.ld (k := 2) rfl rfl)) rfl rfl rfl ?_
        refine at_v (ov_move rfl rfl) rfl rfl rfl ?_
        refine at_v (ov_indexRd (fun _ s => s.rd (k := 4) rfl) rfl Tryz.underlying50 rfl rfl rfl hq) rfl rfl rfl ?_
        refine at_v (ov_fieldRd0 (k := 0) (fun _ s => s.rd (k := 4) rfl) rfl rfl hq rfl) rfl rfl rfl ?_
        refine at_v (ov_loadRd0 (fun _ s => s.rd (k := 4) rfl) rfl rfl rfl hq rfl) rfl rfl rfl ?_
        refine at_v (ov_assign rfl rfl) rfl rfl rfl ?_
        refine at_v (ov_assign rfl rfl) rfl rfl rfl ?_
        refine at_nil ?_
        refine at_normal ?_
        refine hK13 _ _ _ ?_
        refine at_ret ?_
        refine at_inb_ret ?_
        refine at_then_ret ?_
        refine at_then_ret ?_
        refine at_inb_ret ?_
        refine at_then_ret ?_
        refine at_end ?_
        rw [hy2]
        refine at_fold (A := RL (ps.set k y)) [0, 0] rfl (fun h s => rl_give y hq hy1 s) ?_
        rw [ref_set (g := 0) (wb := 0) (most := 0) (idle := 0) (wm := 0) (last := 0) (L := []) (A := A) (c := c) y hq hy1 (by rw [hy]) (by rw [hy])]
        have hsl : (ps.set k y).length = ps.length := List.length_set
        refine at_fold (A := RefA g most idle wm last L (cs1.set k y.2)) [1, 1, 1, 0] rfl (fun h s => ⟨wb, A, c, ps.set k y, by rw [List.map_set, hps], by rw [hsl]; exact s⟩) ?_
        refine at_fin (rsL (vs := [_, _]) rfl ⟨res_tmp rfl, res_tmp rfl, trivial⟩ rfl) ?_
        rw [hgm]
        refine ⟨_, ⟨rfl, rfl⟩, ?_⟩
        exact fun _ s => s.finEq (ks := [0]) (js := []) rfl rfl rfl
      · have hl := lends_no hcw (s := s) hi1
        refine at_skip ?_
        refine at_normal ?_
        refine hK8 _ _ _ ?_
        refine at_seq_k (fun K10 hK10 => ?_)
        refine at_block ?_
        refine at_seq_k (fun K11 hK11 => ?_)
        refine at_region ?_
        refine at_v (ov_move rfl rfl) rfl rfl rfl ?_
        refine at_v (ov_nilCheck rfl rfl) rfl rfl rfl ?_
        refine at_v (ov_fieldAddr (k := 3) (r := 3) rfl rfl rfl rfl) rfl rfl rfl ?_
        refine at_v (ov_load rfl rfl rfl (fun _ s => s.ld (k := 2) rfl rfl)) rfl rfl rfl ?_
        refine at_v (ov_move rfl rfl) rfl rfl rfl ?_
        refine at_v (ov_indexRd (fun _ s => s.rd (k := 4) rfl) rfl Tryz.underlying50 rfl rfl rfl hq) rfl rfl rfl ?_
        refine at_v (ov_fieldRd0 (k := 1) (fun _ s => s.rd (k := 4) rfl) rfl rfl hq rfl) rfl rfl rfl ?_
        refine at_v (ov_loadRd (fun _ s => s.rd (k := 4) rfl) rfl rfl rfl hq rfl) rfl rfl rfl ?_
        refine at_v (ov_nilCheck rfl rfl) rfl rfl rfl ?_
        refine at_v (ov_fieldAddr (k := 1) (r := 1) rfl rfl rfl rfl) rfl rfl rfl ?_
        refine at_v (ov_load rfl rfl rfl (fun _ s => s.ld (k := 0) rfl rfl)) rfl rfl rfl ?_
        refine at_v (ov_int rfl rfl rfl rfl) rfl rfl rfl ?_
        refine at_nil ?_
        refine at_normal ?_
        refine hK11 _ _ _ ?_
        refine at_cond_false (congrArg (fun b => some (Value.bool b)) (show _ = false from decide_eq_false (by omega))) ?_
        refine at_skip ?_
        refine at_inb_normal ?_
        refine at_normal ?_
        refine hK10 _ _ _ ?_
        refine at_region ?_
        refine at_v (ov_move rfl rfl) rfl rfl rfl ?_
        refine at_v ((ov_int rfl rfl rfl rfl).eq (congrArg (Value.int .i64) (inK_i64 (by omega) (by omega)))) rfl rfl rfl ?_
        refine at_v (ov_assign rfl rfl) rfl rfl rfl ?_
        refine at_nil ?_
        refine at_normal ?_
        refine at_fold (A := RL ps) [0, 0] rfl (fun h s => rl_back hq s) ?_
        refine at_roundF (k + 1) ⟨hlt, by rw [any_take _ hx, hno, hl]; rfl⟩ (by omega) ⟨rfl, trivial⟩ rfl ?_
        exact fun _ s => s.finEq (ks := [1, 1, 1, 0]) (js := []) rfl rfl rfl
    · have hk2 : k = ps.length := by
        have : ¬ k < ps.length := by simpa using hc
        omega
      subst hk2
      rw [← hcl, List.take_length] at hno
      have hnf := find_no (p := fun x : XM => x.2.1.lends s) hno
      by_cases hi1 : (ps.length : Int) ≥ most
      · have hgm : giveM most last cs s e now = (0, false, last, cs1) := by unfold giveM; rw [hcs2]; simp only [hnf, if_pos (show (cs1.length : Int) ≥ most by rw [hcl]; exact hi1)]
        refine at_exit ?_
        refine at_then_exit ?_
        refine at_then_exit ?_
        refine at_exit_eq ?_
        refine at_normal ?_
        refine hK6 _ _ _ ?_
        refine at_seq_k (fun K10 hK10 => ?_)
        refine at_seq_k (fun K11 hK11 => ?_)
        refine at_draw _ [] 1000 [(2, 0), (2, 1), (2, 2), (1, 3), (1, 4), (2, 5), (2, 6), (2, 7), (1, 8), (2, 9)] (by kernel_rfl) (by kernel_rfl) (fun _ s => (s.pulls (ks := [0]) rfl).left) ?_
        refine aq_p (ov_move rfl rfl) rfl rfl rfl ?_
        refine aq_p (ov_nilCheck rfl rfl) rfl rfl rfl ?_
        refine aq_p (ov_fieldAddr (k := 3) (r := 3) rfl rfl rfl rfl) rfl rfl rfl ?_
        refine aq_v (ov_load rfl rfl rfl (fun _ s => s.ld (k := 0) rfl rfl)) rfl rfl rfl ?_
        refine aq_v (ov_len_slice rfl Tryz.underlying50 rfl) rfl rfl rfl ?_
        refine aq_p (ov_move rfl rfl) rfl rfl rfl ?_
        refine aq_p (ov_nilCheck rfl rfl) rfl rfl rfl ?_
        refine aq_p (ov_fieldAddr (k := 0) (r := 0) rfl rfl rfl rfl) rfl rfl rfl ?_
        refine aq_v (ov_load rfl rfl rfl (fun _ s => s.ld (k := 0) rfl rfl)) rfl rfl rfl ?_
        refine aq_p (ov_int rfl rfl rfl rfl) rfl rfl rfl ?_
        refine aq_nil ?_
        refine at_normal ?_
        refine hK11 _ _ _ ?_
        refine at_cond_true (congrArg (fun b => some (Value.bool b)) (show _ = true from decide_eq_true (by omega))) ?_
        refine at_seq_k (fun K12 hK12 => ?_)
        refine at_region ?_
        refine at_v (ov_assign rfl rfl) rfl rfl rfl ?_
        refine at_v (ov_assign rfl rfl) rfl rfl rfl ?_
        refine at_nil ?_
        refine at_normal ?_
        refine hK12 _ _ _ ?_
        refine at_ret ?_
        refine at_then_ret ?_
        refine at_end ?_
        refine at_fold (A := RefA g most idle wm last L cs1) [0, 0, 0, 0] rfl (fun h s => ⟨wb, A, c, ps, hps, s⟩) ?_
        refine at_fin (rsL (vs := [_, _]) rfl ⟨res_tmp rfl, res_tmp rfl, trivial⟩ rfl) ?_
        rw [hgm]
        refine ⟨_, ⟨rfl, rfl⟩, ?_⟩
        exact fun _ s => s.finEq (ks := [0]) (js := []) rfl rfl rfl
      · have hgm : giveM most last cs s e now = (last + 1, true, last + 1, cs1 ++ [(last + 1, (⟨e, 0, 0, 0, false, false⟩ : CM).lend s, now)]) := by unfold giveM; rw [hcs2]; simp only [hnf, if_neg (show ¬ (cs1.length : Int) ≥ most by rw [hcl]; exact hi1)]
        have hcn := cwf_new e
        refine at_exit ?_
        refine at_then_exit ?_
        refine at_then_exit ?_
        refine at_exit_eq ?_
        refine at_normal ?_
        refine hK6 _ _ _ ?_
        refine at_seq_k (fun K10 hK10 => ?_)
        refine at_seq_k (fun K11 hK11 => ?_)
        refine at_draw _ [] 1000 [(2, 0), (2, 1), (2, 2), (1, 3), (1, 4), (2, 5), (2, 6), (2, 7), (1, 8), (2, 9)] (by kernel_rfl) (by kernel_rfl) (fun _ s => (s.pulls (ks := [0]) rfl).left) ?_
        refine aq_p (ov_move rfl rfl) rfl rfl rfl ?_
        refine aq_p (ov_nilCheck rfl rfl) rfl rfl rfl ?_
        refine aq_p (ov_fieldAddr (k := 3) (r := 3) rfl rfl rfl rfl) rfl rfl rfl ?_
        refine aq_v (ov_load rfl rfl rfl (fun _ s => s.ld (k := 0) rfl rfl)) rfl rfl rfl ?_
        refine aq_v (ov_len_slice rfl Tryz.underlying50 rfl) rfl rfl rfl ?_
        refine aq_p (ov_move rfl rfl) rfl rfl rfl ?_
        refine aq_p (ov_nilCheck rfl rfl) rfl rfl rfl ?_
        refine aq_p (ov_fieldAddr (k := 0) (r := 0) rfl rfl rfl rfl) rfl rfl rfl ?_
        refine aq_v (ov_load rfl rfl rfl (fun _ s => s.ld (k := 0) rfl rfl)) rfl rfl rfl ?_
        refine aq_p (ov_int rfl rfl rfl rfl) rfl rfl rfl ?_
        refine aq_nil ?_
        refine at_normal ?_
        refine hK11 _ _ _ ?_
        refine at_cond_false (congrArg (fun b => some (Value.bool b)) (show _ = false from decide_eq_false (by omega))) ?_
        refine at_skip ?_
        refine at_normal ?_
        refine hK10 _ _ _ ?_
        refine at_seq_k (fun K12 hK12 => ?_)
        refine at_region ?_
        refine at_v (ov_move rfl rfl) rfl rfl rfl ?_
        refine at_v (ov_nilCheck rfl rfl) rfl rfl rfl ?_
        refine at_v (ov_fieldAddr (k := 4) (r := 4) rfl rfl rfl rfl) rfl rfl rfl ?_
        refine at_v (ov_load rfl rfl rfl (fun _ s => s.ld (k := 0) rfl rfl)) rfl rfl rfl ?_
        refine at_v ((ov_int rfl rfl rfl rfl).eq (congrArg (Value.int .i64) (inK_i64 (by omega) (by omega)))) rfl rfl rfl ?_
        refine at_v (ov_nilCheck rfl rfl) rfl rfl rfl ?_
        refine at_v (ov_fieldAddr (k := 4) (r := 4) rfl rfl rfl rfl) rfl rfl rfl ?_
        refine at_t0 (ot_store (k := 0) rfl rfl rfl rfl rfl rfl rfl) rfl rfl ?_
        rintro _ _ ⟨rfl, rfl⟩
        simp only [setAt, splice, spliceL, Value.cells]
        refine at_nil ?_
        refine at_normal ?_
        refine hK12 _ _ _ ?_
        refine at_seq_k (fun K13 hK13 => ?_)
        refine at_region ?_
        refine at_v (ov_move rfl rfl) rfl rfl rfl ?_
        refine at_t (ot_call (ks := []) rfl rfl rfl Tryz.call81 rfl (T81 _ _) rfl) rfl rfl rfl ?_
        rintro v0 _ ⟨m0, hp0, rfl⟩
        obtain ⟨g0, hp0⟩ := hp0
        obtain ⟨rfl, rfl⟩ := hp0
        simp only [List.cons_append, List.nil_append, splice, spliceL]
        refine at_v (ov_assign rfl rfl) rfl rfl rfl ?_
        refine at_nil ?_
        refine at_normal ?_
        refine hK13 _ _ _ ?_
        refine at_seq_k (fun K14 hK14 => ?_)
        refine at_region ?_
        refine at_v (ov_move rfl rfl) rfl rfl rfl ?_
        refine at_v (ov_move rfl rfl) rfl rfl rfl ?_
        refine at_t (ot_call (ks := [0]) rfl rfl rfl Tryz.call80 rfl (T80 _ _ _ _ (by first | assumption | rfl | omega | decide | (simp; done) | (simp at *; omega))) rfl) rfl rfl rfl ?_
        rintro v0 _ ⟨m0, hp0, rfl⟩
        obtain ⟨rfl, rfl⟩ := hp0
        simp only [List.cons_append, List.nil_append, splice, spliceL]
        refine at_nil ?_
        refine at_normal ?_
        refine hK14 _ _ _ ?_
        refine at_seq_k (fun K15 hK15 => ?_)
        obtain ⟨c9, hc9⟩ : ∃ c9, (⟨e, 0, 0, 0, false, false⟩ : CM).lend s = c9 := ⟨_, rfl⟩
        rw [hc9] at hgm ⊢
        refine at_drawTo (f0 := 7) [] 18 [(2, 0), (2, 2), (2, 3), (2, 4), (1, 5), (2, 7), (2, 8), (2, 9), (1, 10), (2, 11), (2, 12), (2, 13)] (by kernel_rfl) (by kernel_rfl) (by kernel_rfl) (fun _ s => (s.pulls (ks := [0, 0]) rfl).left) ?_
        refine aq_p (ov_move rfl rfl) rfl rfl rfl ?_
        refine aq_p (ov_move rfl rfl) rfl rfl rfl ?_
        refine aq_p (ov_nilCheck rfl rfl) rfl rfl rfl ?_
        refine aq_p (ov_fieldAddr (k := 3) (r := 3) rfl rfl rfl rfl) rfl rfl rfl ?_
        refine aq_v (ov_load rfl rfl rfl (fun _ s => s.ld (k := 1) rfl rfl)) rfl rfl rfl ?_
        refine aq_p (ov_move rfl rfl) rfl rfl rfl ?_
        refine aq_p (ov_nilCheck rfl rfl) rfl rfl rfl ?_
        refine aq_p (ov_fieldAddr (k := 4) (r := 4) rfl rfl rfl rfl) rfl rfl rfl ?_
        refine aq_v (ov_load rfl rfl rfl (fun _ s => s.ld (k := 1) rfl rfl)) rfl rfl rfl ?_
        refine aq_p (ov_move rfl rfl) rfl rfl rfl ?_
        refine aq_p (ov_move rfl rfl) rfl rfl rfl ?_
        refine aq_p (ov_build (cs := [_, _, _]) rfl rfl rfl rfl) rfl rfl rfl ?_
        refine aq_nil ?_
        refine at_fork (i := 1) (j := 14) (by kernel_rfl) (by kernel_rfl) (fun _ s => (s.pulls (ks := [0, 0]) rfl).left) rfl rfl ?_ ?_
        · refine aq_t (ot_buildSlice (cs := []) rfl Tryz.underlying50 rfl rfl rfl rfl rfl rfl) rfl rfl rfl ?_
          rintro _ _ ⟨g1, rfl, rfl⟩
          refine ⟨fun _ s => (s.pulls (ks := [1, 1]) rfl).left, ?_⟩
          refine aq_nil ?_
          refine at_rowOf heE 0 (size := 3) (c := 0) [] rfl (by simp) (Nat.le_refl _) (by decide) (by simp) (by simp) ?_
          simp only [setAt]
          refine at_fork (i := 6) (j := 14) (by kernel_rfl) (by kernel_rfl) (fun _ s => (s.pulls (ks := [1, 1]) rfl).left) rfl rfl ?_ ?_
          · refine aq_t (ot_append (k := 0) (size := 3) (bytes := 24) (ys := ps) (fun _ s => s.rd (k := 4) rfl) rfl Tryz.underlying50 (ti := Tryz.t87) rfl rfl rfl rfl rfl (by decide) rfl rfl rfl (by simp [heE, Value.oneCell']) (by simp; omega) (by decide)) rfl rfl rfl ?_
            rintro _ _ ⟨A0, c0, rfl, rfl⟩
            simp only [setAt]
            refine ⟨fun _ s => (s.pulls (ks := [1, 1]) rfl).left, ?_⟩
            rw [List.nil_append]
            refine aq_nil ?_
            refine at_next (f0 := 0) [(0, 14), (0, 15), (2, 16), (2, 17), (3, 18)] (by kernel_rfl) (by kernel_rfl) (fun _ s => (s.pulls (ks := [1, 1]) rfl).left) ?_
            refine aq_t (ot_buildSlice (cs := [_, _, _]) rfl Tryz.underlying50 rfl rfl rfl rfl rfl rfl) rfl rfl rfl ?_
            rintro _ _ ⟨g2, rfl, rfl⟩
            refine ⟨fun _ s => (s.pulls (ks := [2, 2]) rfl).left, ?_⟩
            refine aq_t (ot_append (k := 1) (size := 3) (bytes := 24) (ys := [((g0, (last + 1, c9, now)) : PX)]) (fun _ s => s.rdPt (k := 0) rfl rfl (by simp [heE])) rfl Tryz.underlying50 (ti := Tryz.t87) rfl rfl rfl rfl rfl (by decide) rfl rfl rfl (by simp [heE, Value.oneCell']) (by simp; omega) (by decide)) rfl rfl rfl ?_
            rintro _ _ ⟨A1, c1, rfl, rfl⟩
            simp only [setAt]
            refine ⟨fun _ s => (s.pulls (ks := [2, 2]) rfl).left, ?_⟩
            refine aq_p (ov_nilCheck rfl rfl) rfl rfl rfl ?_
            refine aq_p (ov_fieldAddr (k := 3) (r := 3) rfl rfl rfl rfl) rfl rfl rfl ?_
            refine aq_b0 (ot_store (k := 3) rfl rfl rfl rfl rfl rfl rfl) rfl rfl ?_
            rintro _ _ ⟨rfl, rfl⟩
            simp only [setAt, splice, spliceL, Value.cells]
            refine ⟨fun _ s => (s.pulls (ks := []) rfl).left, ?_⟩
            refine aq_nil ?_
            refine at_leaf (by kernel_rfl) ?_
            refine at_normal ?_
            refine hK15 _ _ _ ?_
            refine at_seq_k (fun K16 hK16 => ?_)
            refine at_region ?_
            refine at_v (ov_move rfl rfl) rfl rfl rfl ?_
            refine at_v (ov_nilCheck rfl rfl) rfl rfl rfl ?_
            refine at_v (ov_fieldAddr (k := 4) (r := 4) rfl rfl rfl rfl) rfl rfl rfl ?_
            refine at_v (ov_load rfl rfl rfl (fun _ s => s.ld (k := 3) rfl rfl)) rfl rfl rfl ?_
            refine at_v (ov_assign rfl rfl) rfl rfl rfl ?_
            refine at_v (ov_assign rfl rfl) rfl rfl rfl ?_
            refine at_nil ?_
            refine at_normal ?_
            refine hK16 _ _ _ ?_
            refine at_ret ?_
            refine at_end ?_
            obtain ⟨y, hy⟩ : ∃ y : PX, ((g0, (last + 1, c9, now)) : PX) = y := ⟨_, rfl⟩
            have hy2 : c9 = y.2.2.1 := by rw [← hy]
            have hy1 : g0 = y.1 := by rw [← hy]
            have hy3 : ((last + 1, c9, now) : XM) = y.2 := by rw [← hy]
            rw [hy3] at hgm
            rw [hy]
            refine at_fold (A := RL (ps ++ [y])) [6, 2] rfl (fun h s => rl_snoc y (by rw [← hy2, ← hy1]; exact s)) ?_
            refine at_fold (A := RefA g most idle wm (last + 1) L (cs1 ++ [y.2])) [3, 3, 2, 0] rfl (fun h s => ⟨wb, A1, c1, ps ++ [y], by rw [List.map_append, hps]; rfl, s⟩) ?_
            refine at_fin (rsL (vs := [_, _]) rfl ⟨res_tmp rfl, res_tmp rfl, trivial⟩ rfl) ?_
            rw [hgm]
            refine ⟨_, ⟨rfl, rfl⟩, ?_⟩
            exact fun _ s => s.finEq (ks := [0]) (js := [0, 0]) rfl rfl rfl
          · refine aq_t (ot_buildSlice (cs := [_, _, _]) rfl Tryz.underlying50 rfl rfl rfl rfl rfl rfl) rfl rfl rfl ?_
            rintro _ _ ⟨g2, rfl, rfl⟩
            refine ⟨fun _ s => (s.pulls (ks := [2, 2]) rfl).left, ?_⟩
            refine aq_nil ?_
            refine at_next (f0 := 0) [(0, 6), (0, 15), (2, 16), (2, 17), (3, 18)] (by kernel_rfl) (by kernel_rfl) (fun _ s => (s.pulls (ks := [2, 2]) rfl).left) ?_
            
            refine aq_t (ot_append (k := 1) (size := 3) (bytes := 24) (ys := ps) (fun _ s => s.rd (k := 5) rfl) rfl Tryz.underlying50 (ti := Tryz.t87) rfl rfl rfl rfl rfl (by decide) rfl rfl rfl (by simp [heE, Value.oneCell']) (by simp; omega) (by decide)) rfl rfl rfl ?_
            rintro _ _ ⟨A0, c0, rfl, rfl⟩
            simp only [setAt]
            refine ⟨fun _ s => (s.pulls (ks := [2, 2]) rfl).left, ?_⟩
            rw [List.nil_append]
            
            refine aq_t (ot_append (k := 1) (size := 3) (bytes := 24) (ys := [((g0, (last + 1, c9, now)) : PX)]) (fun _ s => s.rdPt (k := 0) rfl rfl (by simp [heE])) rfl Tryz.underlying50 (ti := Tryz.t87) rfl rfl rfl rfl rfl (by decide) rfl rfl rfl (by simp [heE, Value.oneCell']) (by simp; omega) (by decide)) rfl rfl rfl ?_
            rintro _ _ ⟨A1, c1, rfl, rfl⟩
            simp only [setAt]
            refine ⟨fun _ s => (s.pulls (ks := [2, 2]) rfl).left, ?_⟩
            refine aq_p (ov_nilCheck rfl rfl) rfl rfl rfl ?_
            refine aq_p (ov_fieldAddr (k := 3) (r := 3) rfl rfl rfl rfl) rfl rfl rfl ?_
            refine aq_b0 (ot_store (k := 3) rfl rfl rfl rfl rfl rfl rfl) rfl rfl ?_
            rintro _ _ ⟨rfl, rfl⟩
            simp only [setAt, splice, spliceL, Value.cells]
            refine ⟨fun _ s => (s.pulls (ks := []) rfl).left, ?_⟩
            refine aq_nil ?_
            refine at_leaf (by kernel_rfl) ?_
            refine at_normal ?_
            refine hK15 _ _ _ ?_
            refine at_seq_k (fun K16 hK16 => ?_)
            refine at_region ?_
            refine at_v (ov_move rfl rfl) rfl rfl rfl ?_
            refine at_v (ov_nilCheck rfl rfl) rfl rfl rfl ?_
            refine at_v (ov_fieldAddr (k := 4) (r := 4) rfl rfl rfl rfl) rfl rfl rfl ?_
            refine at_v (ov_load rfl rfl rfl (fun _ s => s.ld (k := 3) rfl rfl)) rfl rfl rfl ?_
            refine at_v (ov_assign rfl rfl) rfl rfl rfl ?_
            refine at_v (ov_assign rfl rfl) rfl rfl rfl ?_
            refine at_nil ?_
            refine at_normal ?_
            refine hK16 _ _ _ ?_
            refine at_ret ?_
            refine at_end ?_
            obtain ⟨y, hy⟩ : ∃ y : PX, ((g0, (last + 1, c9, now)) : PX) = y := ⟨_, rfl⟩
            have hy2 : c9 = y.2.2.1 := by rw [← hy]
            have hy1 : g0 = y.1 := by rw [← hy]
            have hy3 : ((last + 1, c9, now) : XM) = y.2 := by rw [← hy]
            rw [hy3] at hgm
            rw [hy]
            refine at_fold (A := RL (ps ++ [y])) [6, 2] rfl (fun h s => rl_snoc y (by rw [← hy2, ← hy1]; exact s)) ?_
            refine at_fold (A := RefA g most idle wm (last + 1) L (cs1 ++ [y.2])) [3, 3, 2, 0] rfl (fun h s => ⟨wb, A1, c1, ps ++ [y], by rw [List.map_append, hps]; rfl, s⟩) ?_
            refine at_fin (rsL (vs := [_, _]) rfl ⟨res_tmp rfl, res_tmp rfl, trivial⟩ rfl) ?_
            rw [hgm]
            refine ⟨_, ⟨rfl, rfl⟩, ?_⟩
            exact fun _ s => s.finEq (ks := [0]) (js := [0, 0]) rfl rfl rfl
        · refine aq_t (ot_buildSlice (cs := [_, _, _]) rfl Tryz.underlying50 rfl rfl rfl rfl rfl rfl) rfl rfl rfl ?_
          rintro _ _ ⟨g1, rfl, rfl⟩
          refine ⟨fun _ s => (s.pulls (ks := [1, 1]) rfl).left, ?_⟩
          refine aq_nil ?_
          refine at_next (f0 := 0) [(0, 1), (0, 6), (0, 15), (2, 16), (2, 17), (3, 18)] (by kernel_rfl) (by kernel_rfl) (fun _ s => (s.pulls (ks := [1, 1]) rfl).left) ?_
          refine aq_t (ot_buildSlice (cs := []) rfl Tryz.underlying50 rfl rfl rfl rfl rfl rfl) rfl rfl rfl ?_
          rintro _ _ ⟨g2, rfl, rfl⟩
          refine ⟨fun _ s => (s.pulls (ks := [2, 2]) rfl).left, ?_⟩
          refine at_rowOf heE 0 (size := 3) (c := 0) [] rfl (by simp) (Nat.le_refl _) (by decide) (by simp) (by simp) ?_
          simp only [setAt]
          refine aq_t (ot_append (k := 0) (size := 3) (bytes := 24) (ys := ps) (fun _ s => s.rd (k := 5) rfl) rfl Tryz.underlying50 (ti := Tryz.t87) rfl rfl rfl rfl rfl (by decide) rfl rfl rfl (by simp [heE, Value.oneCell']) (by simp; omega) (by decide)) rfl rfl rfl ?_
          rintro _ _ ⟨A0, c0, rfl, rfl⟩
          simp only [setAt]
          refine ⟨fun _ s => (s.pulls (ks := [2, 2]) rfl).left, ?_⟩
          rw [List.nil_append]
          
          refine aq_t (ot_append (k := 0) (size := 3) (bytes := 24) (ys := [((g0, (last + 1, c9, now)) : PX)]) (fun _ s => s.rdPt (k := 1) rfl rfl (by simp [heE])) rfl Tryz.underlying50 (ti := Tryz.t87) rfl rfl rfl rfl rfl (by decide) rfl rfl rfl (by simp [heE, Value.oneCell']) (by simp; omega) (by decide)) rfl rfl rfl ?_
          rintro _ _ ⟨A1, c1, rfl, rfl⟩
          simp only [setAt]
          refine ⟨fun _ s => (s.pulls (ks := [2, 2]) rfl).left, ?_⟩
          refine aq_p (ov_nilCheck rfl rfl) rfl rfl rfl ?_
          refine aq_p (ov_fieldAddr (k := 3) (r := 3) rfl rfl rfl rfl) rfl rfl rfl ?_
          refine aq_b0 (ot_store (k := 3) rfl rfl rfl rfl rfl rfl rfl) rfl rfl ?_
          rintro _ _ ⟨rfl, rfl⟩
          simp only [setAt, splice, spliceL, Value.cells]
          refine ⟨fun _ s => (s.pulls (ks := []) rfl).left, ?_⟩
          refine aq_nil ?_
          refine at_leaf (by kernel_rfl) ?_
          refine at_normal ?_
          refine hK15 _ _ _ ?_
          refine at_seq_k (fun K16 hK16 => ?_)
          refine at_region ?_
          refine at_v (ov_move rfl rfl) rfl rfl rfl ?_
          refine at_v (ov_nilCheck rfl rfl) rfl rfl rfl ?_
          refine at_v (ov_fieldAddr (k := 4) (r := 4) rfl rfl rfl rfl) rfl rfl rfl ?_
          refine at_v (ov_load rfl rfl rfl (fun _ s => s.ld (k := 3) rfl rfl)) rfl rfl rfl ?_
          refine at_v (ov_assign rfl rfl) rfl rfl rfl ?_
          refine at_v (ov_assign rfl rfl) rfl rfl rfl ?_
          refine at_nil ?_
          refine at_normal ?_
          refine hK16 _ _ _ ?_
          refine at_ret ?_
          refine at_end ?_
          obtain ⟨y, hy⟩ : ∃ y : PX, ((g0, (last + 1, c9, now)) : PX) = y := ⟨_, rfl⟩
          have hy2 : c9 = y.2.2.1 := by rw [← hy]
          have hy1 : g0 = y.1 := by rw [← hy]
          have hy3 : ((last + 1, c9, now) : XM) = y.2 := by rw [← hy]
          rw [hy3] at hgm
          rw [hy]
          refine at_fold (A := RL (ps ++ [y])) [6, 2] rfl (fun h s => rl_snoc y (by rw [← hy2, ← hy1]; exact s)) ?_
          refine at_fold (A := RefA g most idle wm (last + 1) L (cs1 ++ [y.2])) [3, 3, 1, 0] rfl (fun h s => ⟨wb, A1, c1, ps ++ [y], by rw [List.map_append, hps]; rfl, s⟩) ?_
          refine at_fin (rsL (vs := [_, _]) rfl ⟨res_tmp rfl, res_tmp rfl, trivial⟩ rfl) ?_
          rw [hgm]
          refine ⟨_, ⟨rfl, rfl⟩, ?_⟩
          exact fun _ s => s.finEq (ks := [0]) (js := [0, 0]) rfl rfl rfl
