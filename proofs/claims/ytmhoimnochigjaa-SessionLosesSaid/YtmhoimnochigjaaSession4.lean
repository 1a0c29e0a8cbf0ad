/- SessionLoses, walked. -/
import Derived.Test.YtmhoimnochigjaaProg
import Derived.Test.YtmhoimnochigjaaSession2
import Derived.Test.YtmhoimnochigjaaSLRow
import Derived.KernelRfl
set_option linter.unusedSimpArgs false
set_option linter.unusedVariables false
set_option maxRecDepth 100000
set_option maxHeartbeats 4000000
namespace Go.Proofs.Ytmhoimnochigjaa
open Go Go.Proofs.Ytmhoimnochigjaa.SL Go.RowKit
theorem T4 (w0 : World) (A : Option Addr) (c : Nat) (l : List AM) (hr : Rd actE w0 10 A l) (hm : l.length ≤ 9223372036854775807) : Tri Try.prog w0 4 [.slice A l.length c] [] fun v m => v = .bool true ∧ m = [] := by
  refine tri_of Try.func4 rfl rfl fun F => ?_
  simp only [Try.ntmps4, argEnv, List.cons_append, List.nil_append]
  refine at_seq_k (fun K0 hK0 => ?_)
  refine at_region ?_
  refine at_v (ov_assign rfl rfl) rfl rfl rfl ?_
  refine at_nil ?_
  refine at_normal ?_
  refine hK0 _ _ ?_
  refine at_seq_k (fun K1 hK1 => ?_)
  refine at_seq_k (fun K2 hK2 => ?_)
  refine at_region ?_
  refine at_t (ot_call (ks := []) rfl rfl rfl Try.call6 rfl (T6 _) rfl) rfl rfl rfl ?_
  rintro v0 _ ⟨m0, hp0, rfl⟩
  obtain ⟨rfl, rfl⟩ := hp0
  simp only [List.cons_append, List.nil_append]
  refine at_v (ov_not rfl rfl) rfl rfl rfl ?_
  refine at_nil ?_
  refine at_normal ?_
  refine hK2 _ _ ?_
  refine at_cond_false rfl ?_
  refine at_skip ?_
  refine at_normal ?_
  refine hK1 _ _ ?_
  refine at_seq_k (fun K3 hK3 => ?_)
  refine at_seq_k (fun K4 hK4 => ?_)
  refine at_region ?_
  refine at_v (ov_move rfl rfl) rfl rfl rfl ?_
  refine at_t (ot_call (ks := []) rfl rfl rfl Try.call7 rfl (T7 _ _ _ _ (by first | assumption | omega | decide | (simp; done) | (simp at *; omega)) (by first | assumption | omega | decide | (simp; done) | (simp at *; omega))) rfl) rfl rfl rfl ?_
  rintro v0 _ ⟨m0, hp0, rfl⟩
  obtain ⟨b0, hp0⟩ := hp0
  obtain ⟨hq0, hp0⟩ := hp0
  obtain ⟨rfl, rfl⟩ := hp0
  simp only [List.cons_append, List.nil_append]
  refine at_nil ?_
  refine at_normal ?_
  refine hK4 _ _ ?_
  refine at_cond rfl (fun h => ?_) (fun h => ?_)
  · refine at_seq_k (fun K5 hK5 => ?_)
    refine at_region ?_
    refine at_v (ov_assign rfl rfl) rfl rfl rfl ?_
    refine at_nil ?_
    refine at_normal ?_
    refine hK5 _ _ ?_
    refine at_ret ?_
    refine at_then_ret ?_
    refine at_end ?_
    refine at_fin (rsV rfl (res_tmp rfl)) ?_
    refine ⟨_, ⟨rfl, rfl⟩, ?_⟩
    exact fun _ s => s.finEq (ks := []) (js := []) rfl rfl rfl
  · have hl := hq0 h
    refine at_skip ?_
    refine at_normal ?_
    refine hK3 _ _ ?_
    refine at_seq_k (fun K5 hK5 => ?_)
    refine at_region ?_
    refine at_t (ot_call (ks := []) rfl rfl rfl Try.call8 rfl (T8 _) rfl) rfl rfl rfl ?_
    rintro v0 _ ⟨m0, hp0, rfl⟩
    obtain ⟨g0, hp0⟩ := hp0
    obtain ⟨rfl, rfl⟩ := hp0
    simp only [List.cons_append, List.nil_append]
    refine at_t (ot_call (ks := []) rfl rfl rfl Try.call9 rfl (T9 _ _) rfl) rfl rfl rfl ?_
    rintro v0 _ ⟨m0, hp0, rfl⟩
    obtain ⟨g1, hp0⟩ := hp0
    obtain ⟨rfl, rfl⟩ := hp0
    simp only [List.cons_append, List.nil_append]
    refine at_v (ov_assign rfl rfl) rfl rfl rfl ?_
    refine at_v (ov_assign rfl rfl) rfl rfl rfl ?_
    refine at_nil ?_
    refine at_normal ?_
    refine hK5 _ _ ?_
    refine at_seq_k (fun K6 hK6 => ?_)
    refine at_region ?_
    refine at_v (ov_assign rfl rfl) rfl rfl rfl ?_
    refine at_v (ov_assign rfl rfl) rfl rfl rfl ?_
    refine at_nil ?_
    refine at_normal ?_
    refine hK6 _ _ ?_
    refine at_seq_k (fun K7 hK7 => ?_)
    refine at_seq_k (fun K8 hK8 => ?_)
    refine at_region ?_
    refine at_v (ov_move rfl rfl) rfl rfl rfl ?_
    refine at_v (ov_len_slice rfl Try.underlying22 rfl) rfl rfl rfl ?_
    refine at_v (ov_move rfl rfl) rfl rfl rfl ?_
    refine at_nil ?_
    refine at_normal ?_
    refine hK8 _ _ ?_
    refine at_block ?_
    refine at_loopE [22, 23, 24, 8, 26, 27, 25, 28, 29, 30, 9, 10, 11, 31, 32, 33, 34, 2, 35, 36, 37, 38, 12, 39, 40, 42, 41, 43, 44, 45, 46, 6, 47, 48, 49, 50, 52, 51, 53, 54, 55, 56, 58, 57, 59, 60, 61, 62, 63, 5, 65, 64, 66, 67, 68, 69, 71, 70, 81, 82, 83, 84, 80, 85, 86, 87, 89, 88, 90, 91, 92, 94, 93, 95, 96, 97, 72, 73, 74, 75, 76, 77, 78, 79, 98, 21] (fun k => k ≤ l.length) (fun k => [(21, .int .i64 (k : Nat)), (5, .bool (runS (l.take k)).1.lost), (6, .bool (runS (l.take k)).1.aborted)]) (fun k m => setAt 0 (ViewA g1 (runS (l.take k)).2) (setAt 1 (SessA g0 (runS (l.take k)).1) m)) (fun k => l.length - k) 0 (Nat.zero_le _) ⟨rfl, rfl, rfl, trivial⟩ (fun _ s => s) ?_
    intro k hk
    simp only [setAt] at hk ⊢
    have hcl := runS_len l k hk
    generalize hst : runS (l.take k) = st at hcl ⊢
    obtain ⟨s, v⟩ := st
    simp only [] at hcl ⊢
    refine at_seq_k (fun K9 hK9 => ?_)
    refine at_region ?_
    refine at_v (ov_int rfl rfl rfl rfl) rfl rfl rfl ?_
    refine at_nil ?_
    refine at_normal ?_
    refine hK9 _ _ ?_
    refine at_seq_k (fun K10 hK10 => ?_)
    refine at_cond rfl (fun hc => ?_) (fun hc => ?_)
    · have hlt : k < l.length := by simpa using hc
      have hget : l[k]? = some l[k] := List.getElem?_eq_getElem hlt
      have hlen : v.cuts.length ≤ 999999 := by omega
      have hdef : ∀ P : Prop, (l[k].d = 4 → P) → (l[k].d = 5 → P) → (l[k].d = 6 → P) → (l[k].d = 7 → P) → (l[k].d = 8 → P) → (¬ l[k].d = 4 → ¬ l[k].d = 5 → ¬ l[k].d = 6 → ¬ l[k].d = 7 → ¬ l[k].d = 8 → P) → P := by
        intro P h4 h5 h6 h7 h8 h9
        by_cases e4 : l[k].d = 4
        · exact h4 e4
        by_cases e5 : l[k].d = 5
        · exact h5 e5
        by_cases e6 : l[k].d = 6
        · exact h6 e6
        by_cases e7 : l[k].d = 7
        · exact h7 e7
        by_cases e8 : l[k].d = 8
        · exact h8 e8
        exact h9 e4 e5 e6 e7 e8
      refine hdef _ (fun hid => ?_) (fun hid => ?_) (fun hid => ?_) (fun hid => ?_) (fun hid => ?_) (fun hi4 hi5 hi6 hi7 hi8 => ?_)
      · have hib : doB s v l[k] = s.op.isSome := by simp [doB, hid]
        have hl' : (doS s v l[k]).lost = s.lost := by simp [doS, hid, SM.abort]
        have ha' : (doS s v l[k]).aborted = (s.aborted || s.op.isSome) := by simp [doS, hid, SM.abort]
        cases hia : s.aborted with
        | false =>
          refine at_skip ?_
          refine at_normal ?_
          refine hK10 _ _ ?_
          refine at_seq_k (fun K11 hK11 => ?_)
          refine at_block ?_
          refine at_seq_k (fun K12 hK12 => ?_)
          refine at_region ?_
          refine at_v (ov_indexRd (fun _ s => hr.up s) rfl Try.underlying22 rfl rfl rfl hget) rfl rfl rfl ?_
          refine at_v (ov_loadRdS (vs := [_, _, _, _, _, _, _, _, _, _]) (fun _ s => hr.up s) rfl rfl rfl hget rfl rfl) rfl rfl rfl ?_
          refine at_t (ot_allocA rfl Try.zeroValue36) rfl rfl rfl ?_
          rintro _ _ ⟨g2, rfl, rfl⟩
          refine at_t0 (ot_store (k := 0) rfl rfl rfl rfl rfl rfl rfl) rfl rfl ?_
          rintro _ _ ⟨rfl, rfl⟩
          simp only [setAt, splice, spliceL, Value.cells]
          refine at_nil ?_
          refine at_normal ?_
          refine hK12 _ _ ?_
          refine at_seq_k (fun K13 hK13 => ?_)
          refine at_region ?_
          refine at_v (ov_move rfl rfl) rfl rfl rfl ?_
          refine at_t (ot_call (ks := [2]) rfl rfl rfl Try.call13 rfl (T13 _ _ _) rfl) rfl rfl rfl ?_
          rintro v0 _ ⟨m0, hp0, rfl⟩
          obtain ⟨rfl, rfl⟩ := hp0
          simp only [List.cons_append, List.nil_append]
          refine at_v (ov_move rfl rfl) rfl rfl rfl ?_
          refine at_v (ov_extract rfl rfl rfl) rfl rfl rfl ?_
          refine at_v (ov_extract rfl rfl rfl) rfl rfl rfl ?_
          refine at_v (ov_extract rfl rfl rfl) rfl rfl rfl ?_
          refine at_v (ov_assign rfl rfl) rfl rfl rfl ?_
          refine at_v (ov_assign rfl rfl) rfl rfl rfl ?_
          refine at_v (ov_assign rfl rfl) rfl rfl rfl ?_
          refine at_nil ?_
          refine at_normal ?_
          refine hK13 _ _ ?_
          refine at_seq_k (fun K14 hK14 => ?_)
          refine at_seq_k (fun K15 hK15 => ?_)
          refine at_region ?_
          refine at_v (ov_move rfl rfl) rfl rfl rfl ?_
          refine at_t (ot_call (ks := [0]) rfl rfl rfl Try.call14 rfl (T14 _ _ _) rfl) rfl rfl rfl ?_
          rintro v0 _ ⟨m0, hp0, rfl⟩
          obtain ⟨rfl, rfl⟩ := hp0
          simp only [List.cons_append, List.nil_append]
          refine at_v (ov_move rfl rfl) rfl rfl rfl ?_
          refine at_v (ov_boolne rfl Try.underlying4 rfl rfl) rfl rfl rfl ?_
          refine at_nil ?_
          refine at_normal ?_
          refine hK15 _ _ ?_
          refine at_cond_false (congrArg (fun b => some (Value.bool b)) (show _ = false from by simp; done)) ?_
          refine at_skip ?_
          refine at_normal ?_
          refine hK14 _ _ ?_
          refine at_seq_k (fun K16 hK16 => ?_)
          refine at_region ?_
          refine at_v (ov_move rfl rfl) rfl rfl rfl ?_
          refine at_v (ov_move rfl rfl) rfl rfl rfl ?_
          refine at_v (ov_loadS (cs := [_, _, _, _, _, _, _, _, _, _]) rfl rfl rfl rfl (fun _ s => s.lds (k := 1) rfl ⟨rfl, rfl, rfl, rfl, rfl, rfl, rfl, rfl, rfl, rfl, trivial⟩)) rfl rfl rfl ?_
          refine at_t (ot_call (ks := [0, 1]) rfl rfl rfl Try.call10 rfl (T10 _ _ _ _ _ _ (by first | assumption | omega | decide | (simp; done) | (simp at *; omega))) rfl) rfl rfl rfl ?_
          rintro v0 _ ⟨m0, hp0, rfl⟩
          obtain ⟨rfl, rfl⟩ := hp0
          simp only [List.cons_append, List.nil_append]
          refine at_t (ot_allocA rfl Try.zeroValue39) rfl rfl rfl ?_
          rintro _ _ ⟨g3, rfl, rfl⟩
          refine at_t0 (ot_store (k := 0) rfl rfl rfl rfl rfl rfl rfl) rfl rfl ?_
          rintro _ _ ⟨rfl, rfl⟩
          simp only [setAt, splice, spliceL, Value.cells]
          refine at_nil ?_
          refine at_normal ?_
          refine hK16 _ _ ?_
          refine at_seq_k (fun K17 hK17 => ?_)
          refine at_region ?_
          refine at_v (ov_fieldAddr (k := 0) (r := 0) rfl rfl rfl rfl) rfl rfl rfl ?_
          refine at_v (ov_load rfl rfl rfl (fun _ s => s.ld (k := 3) rfl rfl)) rfl rfl rfl ?_
          refine at_nil ?_
          refine at_normal ?_
          refine hK17 _ _ ?_
          refine at_block ?_
          refine at_seq_k (fun K18 hK18 => ?_)
          refine at_region ?_
          refine at_v (ov_int rfl rfl rfl rfl) rfl rfl rfl ?_
          refine at_v (ov_assign rfl rfl) rfl rfl rfl ?_
          refine at_nil ?_
          refine at_normal ?_
          refine hK18 _ _ ?_
          refine at_cond_true (congrArg (fun b => some (Value.bool b)) (show _ = true from decide_eq_true (by omega))) ?_
          refine at_seq_k (fun K19 hK19 => ?_)
          refine at_region ?_
          refine at_v (ov_move rfl rfl) rfl rfl rfl ?_
          refine at_v (ov_move rfl rfl) rfl rfl rfl ?_
          refine at_wanted (j := 1) rfl ?_
          refine at_v (ov_move rfl rfl) rfl rfl rfl ?_
          refine at_v (ov_pick_f rfl rfl rfl) rfl rfl rfl ?_
          refine at_v (ov_assign rfl rfl) rfl rfl rfl ?_
          refine at_nil ?_
          refine at_normal ?_
          refine hK19 _ _ ?_
          refine at_seq_k (fun K20 hK20 => ?_)
          refine at_region ?_
          refine at_v (ov_fieldAddr (k := 0) (r := 0) rfl rfl rfl rfl) rfl rfl rfl ?_
          refine at_v (ov_load rfl rfl rfl (fun _ s => s.ld (k := 0) rfl rfl)) rfl rfl rfl ?_
          refine at_v (ov_move rfl rfl) rfl rfl rfl ?_
          refine at_v (ov_boolne rfl Try.underlying4 rfl rfl) rfl rfl rfl ?_
          refine at_nil ?_
          refine at_normal ?_
          refine hK20 _ _ ?_
          refine at_cond_false (congrArg (fun b => some (Value.bool b)) (show _ = false from by simp [h, hc, hid, hib, hl', ha', hia]; done)) ?_
          refine at_skip ?_
          refine at_inb_normal ?_
          refine at_inb_normal ?_
          refine at_normal ?_
          refine hK11 _ _ ?_
          refine at_region ?_
          refine at_v ((ov_int rfl rfl rfl rfl).eq (congrArg (Value.int .i64) (inK_i64 (by omega) (by omega)))) rfl rfl rfl ?_
          refine at_v (ov_move rfl rfl) rfl rfl rfl ?_
          refine at_nil ?_
          refine at_normal ?_
          refine at_roundF (k + 1) hlt (by omega) ⟨rfl, look_eq rfl (congrArg Value.bool (by rw [runS_succ l k hlt, hst]; simp [*])), look_eq rfl (congrArg Value.bool (by rw [runS_succ l k hlt, hst]; simp [*])), trivial⟩ rfl ?_
          simp only [setAt]
          rw [runS_succ l k hlt, hst]
          exact fun _ s => s.finEq (ks := [2, 1]) (js := [0, 0]) rfl rfl rfl
        | true =>
          refine at_skip ?_
          refine at_normal ?_
          refine hK10 _ _ ?_
          refine at_seq_k (fun K11 hK11 => ?_)
          refine at_block ?_
          refine at_seq_k (fun K12 hK12 => ?_)
          refine at_region ?_
          refine at_v (ov_indexRd (fun _ s => hr.up s) rfl Try.underlying22 rfl rfl rfl hget) rfl rfl rfl ?_
          refine at_v (ov_loadRdS (vs := [_, _, _, _, _, _, _, _, _, _]) (fun _ s => hr.up s) rfl rfl rfl hget rfl rfl) rfl rfl rfl ?_
          refine at_t (ot_allocA rfl Try.zeroValue36) rfl rfl rfl ?_
          rintro _ _ ⟨g2, rfl, rfl⟩
          refine at_t0 (ot_store (k := 0) rfl rfl rfl rfl rfl rfl rfl) rfl rfl ?_
          rintro _ _ ⟨rfl, rfl⟩
          simp only [setAt, splice, spliceL, Value.cells]
          refine at_nil ?_
          refine at_normal ?_
          refine hK12 _ _ ?_
          refine at_seq_k (fun K13 hK13 => ?_)
          refine at_region ?_
          refine at_v (ov_move rfl rfl) rfl rfl rfl ?_
          refine at_t (ot_call (ks := [2]) rfl rfl rfl Try.call13 rfl (T13 _ _ _) rfl) rfl rfl rfl ?_
          rintro v0 _ ⟨m0, hp0, rfl⟩
          obtain ⟨rfl, rfl⟩ := hp0
          simp only [List.cons_append, List.nil_append]
          refine at_v (ov_move rfl rfl) rfl rfl rfl ?_
          refine at_v (ov_extract rfl rfl rfl) rfl rfl rfl ?_
          refine at_v (ov_extract rfl rfl rfl) rfl rfl rfl ?_
          refine at_v (ov_extract rfl rfl rfl) rfl rfl rfl ?_
          refine at_v (ov_assign rfl rfl) rfl rfl rfl ?_
          refine at_v (ov_assign rfl rfl) rfl rfl rfl ?_
          refine at_v (ov_assign rfl rfl) rfl rfl rfl ?_
          refine at_nil ?_
          refine at_normal ?_
          refine hK13 _ _ ?_
          refine at_seq_k (fun K14 hK14 => ?_)
          refine at_seq_k (fun K15 hK15 => ?_)
          refine at_region ?_
          refine at_v (ov_move rfl rfl) rfl rfl rfl ?_
          refine at_t (ot_call (ks := [0]) rfl rfl rfl Try.call14 rfl (T14 _ _ _) rfl) rfl rfl rfl ?_
          rintro v0 _ ⟨m0, hp0, rfl⟩
          obtain ⟨rfl, rfl⟩ := hp0
          simp only [List.cons_append, List.nil_append]
          refine at_v (ov_move rfl rfl) rfl rfl rfl ?_
          refine at_v (ov_boolne rfl Try.underlying4 rfl rfl) rfl rfl rfl ?_
          refine at_nil ?_
          refine at_normal ?_
          refine hK15 _ _ ?_
          refine at_cond_false (congrArg (fun b => some (Value.bool b)) (show _ = false from by simp; done)) ?_
          refine at_skip ?_
          refine at_normal ?_
          refine hK14 _ _ ?_
          refine at_seq_k (fun K16 hK16 => ?_)
          refine at_region ?_
          refine at_v (ov_move rfl rfl) rfl rfl rfl ?_
          refine at_v (ov_move rfl rfl) rfl rfl rfl ?_
          refine at_v (ov_loadS (cs := [_, _, _, _, _, _, _, _, _, _]) rfl rfl rfl rfl (fun _ s => s.lds (k := 1) rfl ⟨rfl, rfl, rfl, rfl, rfl, rfl, rfl, rfl, rfl, rfl, trivial⟩)) rfl rfl rfl ?_
          refine at_t (ot_call (ks := [0, 1]) rfl rfl rfl Try.call10 rfl (T10 _ _ _ _ _ _ (by first | assumption | omega | decide | (simp; done) | (simp at *; omega))) rfl) rfl rfl rfl ?_
          rintro v0 _ ⟨m0, hp0, rfl⟩
          obtain ⟨rfl, rfl⟩ := hp0
          simp only [List.cons_append, List.nil_append]
          refine at_t (ot_allocA rfl Try.zeroValue39) rfl rfl rfl ?_
          rintro _ _ ⟨g3, rfl, rfl⟩
          refine at_t0 (ot_store (k := 0) rfl rfl rfl rfl rfl rfl rfl) rfl rfl ?_
          rintro _ _ ⟨rfl, rfl⟩
          simp only [setAt, splice, spliceL, Value.cells]
          refine at_nil ?_
          refine at_normal ?_
          refine hK16 _ _ ?_
          refine at_seq_k (fun K17 hK17 => ?_)
          refine at_region ?_
          refine at_v (ov_fieldAddr (k := 0) (r := 0) rfl rfl rfl rfl) rfl rfl rfl ?_
          refine at_v (ov_load rfl rfl rfl (fun _ s => s.ld (k := 3) rfl rfl)) rfl rfl rfl ?_
          refine at_nil ?_
          refine at_normal ?_
          refine hK17 _ _ ?_
          refine at_block ?_
          refine at_seq_k (fun K18 hK18 => ?_)
          refine at_region ?_
          refine at_v (ov_int rfl rfl rfl rfl) rfl rfl rfl ?_
          refine at_v (ov_assign rfl rfl) rfl rfl rfl ?_
          refine at_nil ?_
          refine at_normal ?_
          refine hK18 _ _ ?_
          refine at_cond_true (congrArg (fun b => some (Value.bool b)) (show _ = true from decide_eq_true (by omega))) ?_
          refine at_seq_k (fun K19 hK19 => ?_)
          refine at_region ?_
          refine at_v (ov_move rfl rfl) rfl rfl rfl ?_
          refine at_v (ov_move rfl rfl) rfl rfl rfl ?_
          refine at_unwanted (j := 1) rfl rfl rfl rfl ?_
          refine at_v (ov_pick_t rfl rfl rfl) rfl rfl rfl ?_
          refine at_v (ov_assign rfl rfl) rfl rfl rfl ?_
          refine at_nil ?_
          refine at_normal ?_
          refine hK19 _ _ ?_
          refine at_seq_k (fun K20 hK20 => ?_)
          refine at_region ?_
          refine at_v (ov_fieldAddr (k := 0) (r := 0) rfl rfl rfl rfl) rfl rfl rfl ?_
          refine at_v (ov_load rfl rfl rfl (fun _ s => s.ld (k := 0) rfl rfl)) rfl rfl rfl ?_
          refine at_v (ov_move rfl rfl) rfl rfl rfl ?_
          refine at_v (ov_boolne rfl Try.underlying4 rfl rfl) rfl rfl rfl ?_
          refine at_nil ?_
          refine at_normal ?_
          refine hK20 _ _ ?_
          refine at_cond_false (congrArg (fun b => some (Value.bool b)) (show _ = false from by simp [h, hc, hid, hib, hl', ha', hia]; done)) ?_
          refine at_skip ?_
          refine at_inb_normal ?_
          refine at_inb_normal ?_
          refine at_normal ?_
          refine hK11 _ _ ?_
          refine at_region ?_
          refine at_v ((ov_int rfl rfl rfl rfl).eq (congrArg (Value.int .i64) (inK_i64 (by omega) (by omega)))) rfl rfl rfl ?_
          refine at_v (ov_move rfl rfl) rfl rfl rfl ?_
          refine at_nil ?_
          refine at_normal ?_
          refine at_roundF (k + 1) hlt (by omega) ⟨rfl, look_eq rfl (congrArg Value.bool (by rw [runS_succ l k hlt, hst]; simp [*])), look_eq rfl (congrArg Value.bool (by rw [runS_succ l k hlt, hst]; simp [*])), trivial⟩ rfl ?_
          simp only [setAt]
          rw [runS_succ l k hlt, hst]
          exact fun _ s => s.finEq (ks := [2, 1]) (js := [0, 0]) rfl rfl rfl
      · have hib : doB s v l[k] = !s.lost := by simp [doB, hid]
        have hl' : (doS s v l[k]).lost = s.lost := by simp [doS, hid, SM.wrote]; split <;> rfl
        have ha' : (doS s v l[k]).aborted = s.aborted := by simp [doS, hid, SM.wrote]; split <;> rfl
        cases hil : s.lost with
        | false =>
          refine at_skip ?_
          refine at_normal ?_
          refine hK10 _ _ ?_
          refine at_seq_k (fun K11 hK11 => ?_)
          refine at_block ?_
          refine at_seq_k (fun K12 hK12 => ?_)
          refine at_region ?_
          refine at_v (ov_indexRd (fun _ s => hr.up s) rfl Try.underlying22 rfl rfl rfl hget) rfl rfl rfl ?_
          refine at_v (ov_loadRdS (vs := [_, _, _, _, _, _, _, _, _, _]) (fun _ s => hr.up s) rfl rfl rfl hget rfl rfl) rfl rfl rfl ?_
          refine at_t (ot_allocA rfl Try.zeroValue36) rfl rfl rfl ?_
          rintro _ _ ⟨g2, rfl, rfl⟩
          refine at_t0 (ot_store (k := 0) rfl rfl rfl rfl rfl rfl rfl) rfl rfl ?_
          rintro _ _ ⟨rfl, rfl⟩
          simp only [setAt, splice, spliceL, Value.cells]
          refine at_nil ?_
          refine at_normal ?_
          refine hK12 _ _ ?_
          refine at_seq_k (fun K13 hK13 => ?_)
          refine at_region ?_
          refine at_v (ov_move rfl rfl) rfl rfl rfl ?_
          refine at_t (ot_call (ks := [2]) rfl rfl rfl Try.call13 rfl (T13 _ _ _) rfl) rfl rfl rfl ?_
          rintro v0 _ ⟨m0, hp0, rfl⟩
          obtain ⟨rfl, rfl⟩ := hp0
          simp only [List.cons_append, List.nil_append]
          refine at_v (ov_move rfl rfl) rfl rfl rfl ?_
          refine at_v (ov_extract rfl rfl rfl) rfl rfl rfl ?_
          refine at_v (ov_extract rfl rfl rfl) rfl rfl rfl ?_
          refine at_v (ov_extract rfl rfl rfl) rfl rfl rfl ?_
          refine at_v (ov_assign rfl rfl) rfl rfl rfl ?_
          refine at_v (ov_assign rfl rfl) rfl rfl rfl ?_
          refine at_v (ov_assign rfl rfl) rfl rfl rfl ?_
          refine at_nil ?_
          refine at_normal ?_
          refine hK13 _ _ ?_
          refine at_seq_k (fun K14 hK14 => ?_)
          refine at_seq_k (fun K15 hK15 => ?_)
          refine at_region ?_
          refine at_v (ov_move rfl rfl) rfl rfl rfl ?_
          refine at_t (ot_call (ks := [0]) rfl rfl rfl Try.call14 rfl (T14 _ _ _) rfl) rfl rfl rfl ?_
          rintro v0 _ ⟨m0, hp0, rfl⟩
          obtain ⟨rfl, rfl⟩ := hp0
          simp only [List.cons_append, List.nil_append]
          refine at_v (ov_move rfl rfl) rfl rfl rfl ?_
          refine at_v (ov_boolne rfl Try.underlying4 rfl rfl) rfl rfl rfl ?_
          refine at_nil ?_
          refine at_normal ?_
          refine hK15 _ _ ?_
          refine at_cond_false (congrArg (fun b => some (Value.bool b)) (show _ = false from by simp [h, hc, hid, hib, hl', ha', hil]; done)) ?_
          refine at_skip ?_
          refine at_normal ?_
          refine hK14 _ _ ?_
          refine at_seq_k (fun K16 hK16 => ?_)
          refine at_region ?_
          refine at_v (ov_move rfl rfl) rfl rfl rfl ?_
          refine at_v (ov_move rfl rfl) rfl rfl rfl ?_
          refine at_v (ov_loadS (cs := [_, _, _, _, _, _, _, _, _, _]) rfl rfl rfl rfl (fun _ s => s.lds (k := 1) rfl ⟨rfl, rfl, rfl, rfl, rfl, rfl, rfl, rfl, rfl, rfl, trivial⟩)) rfl rfl rfl ?_
          refine at_t (ot_call (ks := [0, 1]) rfl rfl rfl Try.call10 rfl (T10 _ _ _ _ _ _ (by first | assumption | omega | decide | (simp; done) | (simp at *; omega))) rfl) rfl rfl rfl ?_
          rintro v0 _ ⟨m0, hp0, rfl⟩
          obtain ⟨rfl, rfl⟩ := hp0
          simp only [List.cons_append, List.nil_append]
          refine at_t (ot_allocA rfl Try.zeroValue39) rfl rfl rfl ?_
          rintro _ _ ⟨g3, rfl, rfl⟩
          refine at_t0 (ot_store (k := 0) rfl rfl rfl rfl rfl rfl rfl) rfl rfl ?_
          rintro _ _ ⟨rfl, rfl⟩
          simp only [setAt, splice, spliceL, Value.cells]
          refine at_nil ?_
          refine at_normal ?_
          refine hK16 _ _ ?_
          refine at_seq_k (fun K17 hK17 => ?_)
          refine at_region ?_
          refine at_v (ov_fieldAddr (k := 0) (r := 0) rfl rfl rfl rfl) rfl rfl rfl ?_
          refine at_v (ov_load rfl rfl rfl (fun _ s => s.ld (k := 3) rfl rfl)) rfl rfl rfl ?_
          refine at_nil ?_
          refine at_normal ?_
          refine hK17 _ _ ?_
          refine at_block ?_
          refine at_seq_k (fun K18 hK18 => ?_)
          refine at_region ?_
          refine at_v (ov_int rfl rfl rfl rfl) rfl rfl rfl ?_
          refine at_v (ov_assign rfl rfl) rfl rfl rfl ?_
          refine at_nil ?_
          refine at_normal ?_
          refine hK18 _ _ ?_
          refine at_cond_false (congrArg (fun b => some (Value.bool b)) (show _ = false from decide_eq_false (by omega))) ?_
          refine at_seq_k (fun K19 hK19 => ?_)
          refine at_region ?_
          refine at_v (ov_int rfl rfl rfl rfl) rfl rfl rfl ?_
          refine at_v (ov_assign rfl rfl) rfl rfl rfl ?_
          refine at_nil ?_
          refine at_normal ?_
          refine hK19 _ _ ?_
          refine at_cond_true (congrArg (fun b => some (Value.bool b)) (show _ = true from decide_eq_true (by omega))) ?_
          refine at_seq_k (fun K20 hK20 => ?_)
          refine at_region ?_
          refine at_v (ov_fieldAddr (k := 0) (r := 0) rfl rfl rfl rfl) rfl rfl rfl ?_
          refine at_v (ov_load rfl rfl rfl (fun _ s => s.ld (k := 0) rfl rfl)) rfl rfl rfl ?_
          refine at_v (ov_move rfl rfl) rfl rfl rfl ?_
          refine at_v (ov_booleq rfl Try.underlying4 rfl rfl) rfl rfl rfl ?_
          refine at_nil ?_
          refine at_normal ?_
          refine hK20 _ _ ?_
          refine at_cond_false (congrArg (fun b => some (Value.bool b)) (show _ = false from by simp [h, hc, hid, hib, hl', ha', hil]; done)) ?_
          refine at_skip ?_
          refine at_inb_normal ?_
          refine at_inb_normal ?_
          refine at_normal ?_
          refine hK11 _ _ ?_
          refine at_region ?_
          refine at_v ((ov_int rfl rfl rfl rfl).eq (congrArg (Value.int .i64) (inK_i64 (by omega) (by omega)))) rfl rfl rfl ?_
          refine at_v (ov_move rfl rfl) rfl rfl rfl ?_
          refine at_nil ?_
          refine at_normal ?_
          refine at_roundF (k + 1) hlt (by omega) ⟨rfl, look_eq rfl (congrArg Value.bool (by rw [runS_succ l k hlt, hst]; simp [*])), look_eq rfl (congrArg Value.bool (by rw [runS_succ l k hlt, hst]; simp [*])), trivial⟩ rfl ?_
          simp only [setAt]
          rw [runS_succ l k hlt, hst]
          exact fun _ s => s.finEq (ks := [2, 1]) (js := [0, 0]) rfl rfl rfl
        | true =>
          refine at_skip ?_
          refine at_normal ?_
          refine hK10 _ _ ?_
          refine at_seq_k (fun K11 hK11 => ?_)
          refine at_block ?_
          refine at_seq_k (fun K12 hK12 => ?_)
          refine at_region ?_
          refine at_v (ov_indexRd (fun _ s => hr.up s) rfl Try.underlying22 rfl rfl rfl hget) rfl rfl rfl ?_
          refine at_v (ov_loadRdS (vs := [_, _, _, _, _, _, _, _, _, _]) (fun _ s => hr.up s) rfl rfl rfl hget rfl rfl) rfl rfl rfl ?_
          refine at_t (ot_allocA rfl Try.zeroValue36) rfl rfl rfl ?_
          rintro _ _ ⟨g2, rfl, rfl⟩
          refine at_t0 (ot_store (k := 0) rfl rfl rfl rfl rfl rfl rfl) rfl rfl ?_
          rintro _ _ ⟨rfl, rfl⟩
          simp only [setAt, splice, spliceL, Value.cells]
          refine at_nil ?_
          refine at_normal ?_
          refine hK12 _ _ ?_
          refine at_seq_k (fun K13 hK13 => ?_)
          refine at_region ?_
          refine at_v (ov_move rfl rfl) rfl rfl rfl ?_
          refine at_t (ot_call (ks := [2]) rfl rfl rfl Try.call13 rfl (T13 _ _ _) rfl) rfl rfl rfl ?_
          rintro v0 _ ⟨m0, hp0, rfl⟩
          obtain ⟨rfl, rfl⟩ := hp0
          simp only [List.cons_append, List.nil_append]
          refine at_v (ov_move rfl rfl) rfl rfl rfl ?_
          refine at_v (ov_extract rfl rfl rfl) rfl rfl rfl ?_
          refine at_v (ov_extract rfl rfl rfl) rfl rfl rfl ?_
          refine at_v (ov_extract rfl rfl rfl) rfl rfl rfl ?_
          refine at_v (ov_assign rfl rfl) rfl rfl rfl ?_
          refine at_v (ov_assign rfl rfl) rfl rfl rfl ?_
          refine at_v (ov_assign rfl rfl) rfl rfl rfl ?_
          refine at_nil ?_
          refine at_normal ?_
          refine hK13 _ _ ?_
          refine at_seq_k (fun K14 hK14 => ?_)
          refine at_seq_k (fun K15 hK15 => ?_)
          refine at_region ?_
          refine at_v (ov_move rfl rfl) rfl rfl rfl ?_
          refine at_t (ot_call (ks := [0]) rfl rfl rfl Try.call14 rfl (T14 _ _ _) rfl) rfl rfl rfl ?_
          rintro v0 _ ⟨m0, hp0, rfl⟩
          obtain ⟨rfl, rfl⟩ := hp0
          simp only [List.cons_append, List.nil_append]
          refine at_v (ov_move rfl rfl) rfl rfl rfl ?_
          refine at_v (ov_boolne rfl Try.underlying4 rfl rfl) rfl rfl rfl ?_
          refine at_nil ?_
          refine at_normal ?_
          refine hK15 _ _ ?_
          refine at_cond_false (congrArg (fun b => some (Value.bool b)) (show _ = false from by simp [h, hc, hid, hib, hl', ha', hil]; done)) ?_
          refine at_skip ?_
          refine at_normal ?_
          refine hK14 _ _ ?_
          refine at_seq_k (fun K16 hK16 => ?_)
          refine at_region ?_
          refine at_v (ov_move rfl rfl) rfl rfl rfl ?_
          refine at_v (ov_move rfl rfl) rfl rfl rfl ?_
          refine at_v (ov_loadS (cs := [_, _, _, _, _, _, _, _, _, _]) rfl rfl rfl rfl (fun _ s => s.lds (k := 1) rfl ⟨rfl, rfl, rfl, rfl, rfl, rfl, rfl, rfl, rfl, rfl, trivial⟩)) rfl rfl rfl ?_
          refine at_t (ot_call (ks := [0, 1]) rfl rfl rfl Try.call10 rfl (T10 _ _ _ _ _ _ (by first | assumption | omega | decide | (simp; done) | (simp at *; omega))) rfl) rfl rfl rfl ?_
          rintro v0 _ ⟨m0, hp0, rfl⟩
          obtain ⟨rfl, rfl⟩ := hp0
          simp only [List.cons_append, List.nil_append]
          refine at_t (ot_allocA rfl Try.zeroValue39) rfl rfl rfl ?_
          rintro _ _ ⟨g3, rfl, rfl⟩
          refine at_t0 (ot_store (k := 0) rfl rfl rfl rfl rfl rfl rfl) rfl rfl ?_
          rintro _ _ ⟨rfl, rfl⟩
          simp only [setAt, splice, spliceL, Value.cells]
          refine at_nil ?_
          refine at_normal ?_
          refine hK16 _ _ ?_
          refine at_seq_k (fun K17 hK17 => ?_)
          refine at_region ?_
          refine at_v (ov_fieldAddr (k := 0) (r := 0) rfl rfl rfl rfl) rfl rfl rfl ?_
          refine at_v (ov_load rfl rfl rfl (fun _ s => s.ld (k := 3) rfl rfl)) rfl rfl rfl ?_
          refine at_nil ?_
          refine at_normal ?_
          refine hK17 _ _ ?_
          refine at_block ?_
          refine at_seq_k (fun K18 hK18 => ?_)
          refine at_region ?_
          refine at_v (ov_int rfl rfl rfl rfl) rfl rfl rfl ?_
          refine at_v (ov_assign rfl rfl) rfl rfl rfl ?_
          refine at_nil ?_
          refine at_normal ?_
          refine hK18 _ _ ?_
          refine at_cond_false (congrArg (fun b => some (Value.bool b)) (show _ = false from decide_eq_false (by omega))) ?_
          refine at_seq_k (fun K19 hK19 => ?_)
          refine at_region ?_
          refine at_v (ov_int rfl rfl rfl rfl) rfl rfl rfl ?_
          refine at_v (ov_assign rfl rfl) rfl rfl rfl ?_
          refine at_nil ?_
          refine at_normal ?_
          refine hK19 _ _ ?_
          refine at_cond_true (congrArg (fun b => some (Value.bool b)) (show _ = true from decide_eq_true (by omega))) ?_
          refine at_seq_k (fun K20 hK20 => ?_)
          refine at_region ?_
          refine at_v (ov_fieldAddr (k := 0) (r := 0) rfl rfl rfl rfl) rfl rfl rfl ?_
          refine at_v (ov_load rfl rfl rfl (fun _ s => s.ld (k := 0) rfl rfl)) rfl rfl rfl ?_
          refine at_v (ov_move rfl rfl) rfl rfl rfl ?_
          refine at_v (ov_booleq rfl Try.underlying4 rfl rfl) rfl rfl rfl ?_
          refine at_nil ?_
          refine at_normal ?_
          refine hK20 _ _ ?_
          refine at_cond_false (congrArg (fun b => some (Value.bool b)) (show _ = false from by simp [h, hc, hid, hib, hl', ha', hil]; done)) ?_
          refine at_skip ?_
          refine at_inb_normal ?_
          refine at_inb_normal ?_
          refine at_normal ?_
          refine hK11 _ _ ?_
          refine at_region ?_
          refine at_v ((ov_int rfl rfl rfl rfl).eq (congrArg (Value.int .i64) (inK_i64 (by omega) (by omega)))) rfl rfl rfl ?_
          refine at_v (ov_move rfl rfl) rfl rfl rfl ?_
          refine at_nil ?_
          refine at_normal ?_
          refine at_roundF (k + 1) hlt (by omega) ⟨rfl, look_eq rfl (congrArg Value.bool (by rw [runS_succ l k hlt, hst]; simp [*])), look_eq rfl (congrArg Value.bool (by rw [runS_succ l k hlt, hst]; simp [*])), trivial⟩ rfl ?_
          simp only [setAt]
          rw [runS_succ l k hlt, hst]
          exact fun _ s => s.finEq (ks := [2, 1]) (js := [0, 0]) rfl rfl rfl
      · have hl' : (doS s v l[k]).lost = (s.lost || doB s v l[k]) := by simp [doS, doB, hid, SM.learn]
        have ha' : (doS s v l[k]).aborted = s.aborted := by simp [doS, hid, SM.learn]
        cases hil : s.lost with
        | false =>
          refine at_skip ?_
          refine at_normal ?_
          refine hK10 _ _ ?_
          refine at_seq_k (fun K11 hK11 => ?_)
          refine at_block ?_
          refine at_seq_k (fun K12 hK12 => ?_)
          refine at_region ?_
          refine at_v (ov_indexRd (fun _ s => hr.up s) rfl Try.underlying22 rfl rfl rfl hget) rfl rfl rfl ?_
          refine at_v (ov_loadRdS (vs := [_, _, _, _, _, _, _, _, _, _]) (fun _ s => hr.up s) rfl rfl rfl hget rfl rfl) rfl rfl rfl ?_
          refine at_t (ot_allocA rfl Try.zeroValue36) rfl rfl rfl ?_
          rintro _ _ ⟨g2, rfl, rfl⟩
          refine at_t0 (ot_store (k := 0) rfl rfl rfl rfl rfl rfl rfl) rfl rfl ?_
          rintro _ _ ⟨rfl, rfl⟩
          simp only [setAt, splice, spliceL, Value.cells]
          refine at_nil ?_
          refine at_normal ?_
          refine hK12 _ _ ?_
          refine at_seq_k (fun K13 hK13 => ?_)
          refine at_region ?_
          refine at_v (ov_move rfl rfl) rfl rfl rfl ?_
          refine at_t (ot_call (ks := [2]) rfl rfl rfl Try.call13 rfl (T13 _ _ _) rfl) rfl rfl rfl ?_
          rintro v0 _ ⟨m0, hp0, rfl⟩
          obtain ⟨rfl, rfl⟩ := hp0
          simp only [List.cons_append, List.nil_append]
          refine at_v (ov_move rfl rfl) rfl rfl rfl ?_
          refine at_v (ov_extract rfl rfl rfl) rfl rfl rfl ?_
          refine at_v (ov_extract rfl rfl rfl) rfl rfl rfl ?_
          refine at_v (ov_extract rfl rfl rfl) rfl rfl rfl ?_
          refine at_v (ov_assign rfl rfl) rfl rfl rfl ?_
          refine at_v (ov_assign rfl rfl) rfl rfl rfl ?_
          refine at_v (ov_assign rfl rfl) rfl rfl rfl ?_
          refine at_nil ?_
          refine at_normal ?_
          refine hK13 _ _ ?_
          refine at_seq_k (fun K14 hK14 => ?_)
          refine at_seq_k (fun K15 hK15 => ?_)
          refine at_region ?_
          refine at_v (ov_move rfl rfl) rfl rfl rfl ?_
          refine at_t (ot_call (ks := [0]) rfl rfl rfl Try.call14 rfl (T14 _ _ _) rfl) rfl rfl rfl ?_
          rintro v0 _ ⟨m0, hp0, rfl⟩
          obtain ⟨rfl, rfl⟩ := hp0
          simp only [List.cons_append, List.nil_append]
          refine at_v (ov_move rfl rfl) rfl rfl rfl ?_
          refine at_v (ov_boolne rfl Try.underlying4 rfl rfl) rfl rfl rfl ?_
          refine at_nil ?_
          refine at_normal ?_
          refine hK15 _ _ ?_
          refine at_cond_false (congrArg (fun b => some (Value.bool b)) (show _ = false from by simp [h, hc, hid, hl', ha', hil]; done)) ?_
          refine at_skip ?_
          refine at_normal ?_
          refine hK14 _ _ ?_
          refine at_seq_k (fun K16 hK16 => ?_)
          refine at_region ?_
          refine at_v (ov_move rfl rfl) rfl rfl rfl ?_
          refine at_v (ov_move rfl rfl) rfl rfl rfl ?_
          refine at_v (ov_loadS (cs := [_, _, _, _, _, _, _, _, _, _]) rfl rfl rfl rfl (fun _ s => s.lds (k := 1) rfl ⟨rfl, rfl, rfl, rfl, rfl, rfl, rfl, rfl, rfl, rfl, trivial⟩)) rfl rfl rfl ?_
          refine at_t (ot_call (ks := [0, 1]) rfl rfl rfl Try.call10 rfl (T10 _ _ _ _ _ _ (by first | assumption | omega | decide | (simp; done) | (simp at *; omega))) rfl) rfl rfl rfl ?_
          rintro v0 _ ⟨m0, hp0, rfl⟩
          obtain ⟨rfl, rfl⟩ := hp0
          simp only [List.cons_append, List.nil_append]
          refine at_t (ot_allocA rfl Try.zeroValue39) rfl rfl rfl ?_
          rintro _ _ ⟨g3, rfl, rfl⟩
          refine at_t0 (ot_store (k := 0) rfl rfl rfl rfl rfl rfl rfl) rfl rfl ?_
          rintro _ _ ⟨rfl, rfl⟩
          simp only [setAt, splice, spliceL, Value.cells]
          refine at_nil ?_
          refine at_normal ?_
          refine hK16 _ _ ?_
          refine at_seq_k (fun K17 hK17 => ?_)
          refine at_region ?_
          refine at_v (ov_fieldAddr (k := 0) (r := 0) rfl rfl rfl rfl) rfl rfl rfl ?_
          refine at_v (ov_load rfl rfl rfl (fun _ s => s.ld (k := 3) rfl rfl)) rfl rfl rfl ?_
          refine at_nil ?_
          refine at_normal ?_
          refine hK17 _ _ ?_
          refine at_block ?_
          refine at_seq_k (fun K18 hK18 => ?_)
          refine at_region ?_
          refine at_v (ov_int rfl rfl rfl rfl) rfl rfl rfl ?_
          refine at_v (ov_assign rfl rfl) rfl rfl rfl ?_
          refine at_nil ?_
          refine at_normal ?_
          refine hK18 _ _ ?_
          refine at_cond_false (congrArg (fun b => some (Value.bool b)) (show _ = false from decide_eq_false (by omega))) ?_
          refine at_seq_k (fun K19 hK19 => ?_)
          refine at_region ?_
          refine at_v (ov_int rfl rfl rfl rfl) rfl rfl rfl ?_
          refine at_v (ov_assign rfl rfl) rfl rfl rfl ?_
          refine at_nil ?_
          refine at_normal ?_
          refine hK19 _ _ ?_
          refine at_cond_false (congrArg (fun b => some (Value.bool b)) (show _ = false from decide_eq_false (by omega))) ?_
          refine at_seq_k (fun K20 hK20 => ?_)
          refine at_region ?_
          refine at_v (ov_int rfl rfl rfl rfl) rfl rfl rfl ?_
          refine at_v (ov_assign rfl rfl) rfl rfl rfl ?_
          refine at_nil ?_
          refine at_normal ?_
          refine hK20 _ _ ?_
          refine at_cond_true (congrArg (fun b => some (Value.bool b)) (show _ = true from decide_eq_true (by omega))) ?_
          refine at_region ?_
          refine at_v (ov_move rfl rfl) rfl rfl rfl ?_
          refine at_v (ov_move rfl rfl) rfl rfl rfl ?_
          refine at_wanted (j := 1) rfl ?_
          refine at_v (ov_fieldAddr (k := 0) (r := 0) rfl rfl rfl rfl) rfl rfl rfl ?_
          refine at_wanted (j := 1) rfl ?_
          refine at_v (ov_load rfl rfl rfl (fun _ s => s.ld (k := 0) rfl rfl)) rfl rfl rfl ?_
          refine at_v (ov_pick_f rfl rfl rfl) rfl rfl rfl ?_
          refine at_v (ov_assign rfl rfl) rfl rfl rfl ?_
          refine at_nil ?_
          refine at_inb_normal ?_
          refine at_inb_normal ?_
          refine at_normal ?_
          refine hK11 _ _ ?_
          refine at_region ?_
          refine at_v ((ov_int rfl rfl rfl rfl).eq (congrArg (Value.int .i64) (inK_i64 (by omega) (by omega)))) rfl rfl rfl ?_
          refine at_v (ov_move rfl rfl) rfl rfl rfl ?_
          refine at_nil ?_
          refine at_normal ?_
          refine at_roundF (k + 1) hlt (by omega) ⟨rfl, look_eq rfl (congrArg Value.bool (by rw [runS_succ l k hlt, hst]; simp [*])), look_eq rfl (congrArg Value.bool (by rw [runS_succ l k hlt, hst]; simp [*])), trivial⟩ rfl ?_
          simp only [setAt]
          rw [runS_succ l k hlt, hst]
          exact fun _ s => s.finEq (ks := [2, 1]) (js := [0, 0]) rfl rfl rfl
        | true =>
          refine at_skip ?_
          refine at_normal ?_
          refine hK10 _ _ ?_
          refine at_seq_k (fun K11 hK11 => ?_)
          refine at_block ?_
          refine at_seq_k (fun K12 hK12 => ?_)
          refine at_region ?_
          refine at_v (ov_indexRd (fun _ s => hr.up s) rfl Try.underlying22 rfl rfl rfl hget) rfl rfl rfl ?_
          refine at_v (ov_loadRdS (vs := [_, _, _, _, _, _, _, _, _, _]) (fun _ s => hr.up s) rfl rfl rfl hget rfl rfl) rfl rfl rfl ?_
          refine at_t (ot_allocA rfl Try.zeroValue36) rfl rfl rfl ?_
          rintro _ _ ⟨g2, rfl, rfl⟩
          refine at_t0 (ot_store (k := 0) rfl rfl rfl rfl rfl rfl rfl) rfl rfl ?_
          rintro _ _ ⟨rfl, rfl⟩
          simp only [setAt, splice, spliceL, Value.cells]
          refine at_nil ?_
          refine at_normal ?_
          refine hK12 _ _ ?_
          refine at_seq_k (fun K13 hK13 => ?_)
          refine at_region ?_
          refine at_v (ov_move rfl rfl) rfl rfl rfl ?_
          refine at_t (ot_call (ks := [2]) rfl rfl rfl Try.call13 rfl (T13 _ _ _) rfl) rfl rfl rfl ?_
          rintro v0 _ ⟨m0, hp0, rfl⟩
          obtain ⟨rfl, rfl⟩ := hp0
          simp only [List.cons_append, List.nil_append]
          refine at_v (ov_move rfl rfl) rfl rfl rfl ?_
          refine at_v (ov_extract rfl rfl rfl) rfl rfl rfl ?_
          refine at_v (ov_extract rfl rfl rfl) rfl rfl rfl ?_
          refine at_v (ov_extract rfl rfl rfl) rfl rfl rfl ?_
          refine at_v (ov_assign rfl rfl) rfl rfl rfl ?_
          refine at_v (ov_assign rfl rfl) rfl rfl rfl ?_
          refine at_v (ov_assign rfl rfl) rfl rfl rfl ?_
          refine at_nil ?_
          refine at_normal ?_
          refine hK13 _ _ ?_
          refine at_seq_k (fun K14 hK14 => ?_)
          refine at_seq_k (fun K15 hK15 => ?_)
          refine at_region ?_
          refine at_v (ov_move rfl rfl) rfl rfl rfl ?_
          refine at_t (ot_call (ks := [0]) rfl rfl rfl Try.call14 rfl (T14 _ _ _) rfl) rfl rfl rfl ?_
          rintro v0 _ ⟨m0, hp0, rfl⟩
          obtain ⟨rfl, rfl⟩ := hp0
          simp only [List.cons_append, List.nil_append]
          refine at_v (ov_move rfl rfl) rfl rfl rfl ?_
          refine at_v (ov_boolne rfl Try.underlying4 rfl rfl) rfl rfl rfl ?_
          refine at_nil ?_
          refine at_normal ?_
          refine hK15 _ _ ?_
          refine at_cond_false (congrArg (fun b => some (Value.bool b)) (show _ = false from by simp [h, hc, hid, hl', ha', hil]; done)) ?_
          refine at_skip ?_
          refine at_normal ?_
          refine hK14 _ _ ?_
          refine at_seq_k (fun K16 hK16 => ?_)
          refine at_region ?_
          refine at_v (ov_move rfl rfl) rfl rfl rfl ?_
          refine at_v (ov_move rfl rfl) rfl rfl rfl ?_
          refine at_v (ov_loadS (cs := [_, _, _, _, _, _, _, _, _, _]) rfl rfl rfl rfl (fun _ s => s.lds (k := 1) rfl ⟨rfl, rfl, rfl, rfl, rfl, rfl, rfl, rfl, rfl, rfl, trivial⟩)) rfl rfl rfl ?_
          refine at_t (ot_call (ks := [0, 1]) rfl rfl rfl Try.call10 rfl (T10 _ _ _ _ _ _ (by first | assumption | omega | decide | (simp; done) | (simp at *; omega))) rfl) rfl rfl rfl ?_
          rintro v0 _ ⟨m0, hp0, rfl⟩
          obtain ⟨rfl, rfl⟩ := hp0
          simp only [List.cons_append, List.nil_append]
          refine at_t (ot_allocA rfl Try.zeroValue39) rfl rfl rfl ?_
          rintro _ _ ⟨g3, rfl, rfl⟩
          refine at_t0 (ot_store (k := 0) rfl rfl rfl rfl rfl rfl rfl) rfl rfl ?_
          rintro _ _ ⟨rfl, rfl⟩
          simp only [setAt, splice, spliceL, Value.cells]
          refine at_nil ?_
          refine at_normal ?_
          refine hK16 _ _ ?_
          refine at_seq_k (fun K17 hK17 => ?_)
          refine at_region ?_
          refine at_v (ov_fieldAddr (k := 0) (r := 0) rfl rfl rfl rfl) rfl rfl rfl ?_
          refine at_v (ov_load rfl rfl rfl (fun _ s => s.ld (k := 3) rfl rfl)) rfl rfl rfl ?_
          refine at_nil ?_
          refine at_normal ?_
          refine hK17 _ _ ?_
          refine at_block ?_
          refine at_seq_k (fun K18 hK18 => ?_)
          refine at_region ?_
          refine at_v (ov_int rfl rfl rfl rfl) rfl rfl rfl ?_
          refine at_v (ov_assign rfl rfl) rfl rfl rfl ?_
          refine at_nil ?_
          refine at_normal ?_
          refine hK18 _ _ ?_
          refine at_cond_false (congrArg (fun b => some (Value.bool b)) (show _ = false from decide_eq_false (by omega))) ?_
          refine at_seq_k (fun K19 hK19 => ?_)
          refine at_region ?_
          refine at_v (ov_int rfl rfl rfl rfl) rfl rfl rfl ?_
          refine at_v (ov_assign rfl rfl) rfl rfl rfl ?_
          refine at_nil ?_
          refine at_normal ?_
          refine hK19 _ _ ?_
          refine at_cond_false (congrArg (fun b => some (Value.bool b)) (show _ = false from decide_eq_false (by omega))) ?_
          refine at_seq_k (fun K20 hK20 => ?_)
          refine at_region ?_
          refine at_v (ov_int rfl rfl rfl rfl) rfl rfl rfl ?_
          refine at_v (ov_assign rfl rfl) rfl rfl rfl ?_
          refine at_nil ?_
          refine at_normal ?_
          refine hK20 _ _ ?_
          refine at_cond_true (congrArg (fun b => some (Value.bool b)) (show _ = true from decide_eq_true (by omega))) ?_
          refine at_region ?_
          refine at_v (ov_move rfl rfl) rfl rfl rfl ?_
          refine at_v (ov_move rfl rfl) rfl rfl rfl ?_
          refine at_unwanted (j := 1) rfl rfl rfl rfl ?_
          refine at_unwanted (j := 1) rfl rfl rfl rfl ?_
          refine at_v (ov_pick_t rfl rfl rfl) rfl rfl rfl ?_
          refine at_v (ov_assign rfl rfl) rfl rfl rfl ?_
          refine at_nil ?_
          refine at_inb_normal ?_
          refine at_inb_normal ?_
          refine at_normal ?_
          refine hK11 _ _ ?_
          refine at_region ?_
          refine at_v ((ov_int rfl rfl rfl rfl).eq (congrArg (Value.int .i64) (inK_i64 (by omega) (by omega)))) rfl rfl rfl ?_
          refine at_v (ov_move rfl rfl) rfl rfl rfl ?_
          refine at_nil ?_
          refine at_normal ?_
          refine at_roundF (k + 1) hlt (by omega) ⟨rfl, look_eq rfl (congrArg Value.bool (by rw [runS_succ l k hlt, hst]; simp [*])), look_eq rfl (congrArg Value.bool (by rw [runS_succ l k hlt, hst]; simp [*])), trivial⟩ rfl ?_
          simp only [setAt]
          rw [runS_succ l k hlt, hst]
          exact fun _ s => s.finEq (ks := [2, 1]) (js := [0, 0]) rfl rfl rfl
      · have hib : doB s v l[k] = s.lost := by simp [doB, hid]
        have hl' : (doS s v l[k]).lost = false := by simp [doS, hid, SM.ack]
        have ha' : (doS s v l[k]).aborted = s.aborted := by simp [doS, hid, SM.ack]
        refine at_skip ?_
        refine at_normal ?_
        refine hK10 _ _ ?_
        refine at_seq_k (fun K11 hK11 => ?_)
        refine at_block ?_
        refine at_seq_k (fun K12 hK12 => ?_)
        refine at_region ?_
        refine at_v (ov_indexRd (fun _ s => hr.up s) rfl Try.underlying22 rfl rfl rfl hget) rfl rfl rfl ?_
        refine at_v (ov_loadRdS (vs := [_, _, _, _, _, _, _, _, _, _]) (fun _ s => hr.up s) rfl rfl rfl hget rfl rfl) rfl rfl rfl ?_
        refine at_t (ot_allocA rfl Try.zeroValue36) rfl rfl rfl ?_
        rintro _ _ ⟨g2, rfl, rfl⟩
        refine at_t0 (ot_store (k := 0) rfl rfl rfl rfl rfl rfl rfl) rfl rfl ?_
        rintro _ _ ⟨rfl, rfl⟩
        simp only [setAt, splice, spliceL, Value.cells]
        refine at_nil ?_
        refine at_normal ?_
        refine hK12 _ _ ?_
        refine at_seq_k (fun K13 hK13 => ?_)
        refine at_region ?_
        refine at_v (ov_move rfl rfl) rfl rfl rfl ?_
        refine at_t (ot_call (ks := [2]) rfl rfl rfl Try.call13 rfl (T13 _ _ _) rfl) rfl rfl rfl ?_
        rintro v0 _ ⟨m0, hp0, rfl⟩
        obtain ⟨rfl, rfl⟩ := hp0
        simp only [List.cons_append, List.nil_append]
        refine at_v (ov_move rfl rfl) rfl rfl rfl ?_
        refine at_v (ov_extract rfl rfl rfl) rfl rfl rfl ?_
        refine at_v (ov_extract rfl rfl rfl) rfl rfl rfl ?_
        refine at_v (ov_extract rfl rfl rfl) rfl rfl rfl ?_
        refine at_v (ov_assign rfl rfl) rfl rfl rfl ?_
        refine at_v (ov_assign rfl rfl) rfl rfl rfl ?_
        refine at_v (ov_assign rfl rfl) rfl rfl rfl ?_
        refine at_nil ?_
        refine at_normal ?_
        refine hK13 _ _ ?_
        refine at_seq_k (fun K14 hK14 => ?_)
        refine at_seq_k (fun K15 hK15 => ?_)
        refine at_region ?_
        refine at_v (ov_move rfl rfl) rfl rfl rfl ?_
        refine at_t (ot_call (ks := [0]) rfl rfl rfl Try.call14 rfl (T14 _ _ _) rfl) rfl rfl rfl ?_
        rintro v0 _ ⟨m0, hp0, rfl⟩
        obtain ⟨rfl, rfl⟩ := hp0
        simp only [List.cons_append, List.nil_append]
        refine at_v (ov_move rfl rfl) rfl rfl rfl ?_
        refine at_v (ov_boolne rfl Try.underlying4 rfl rfl) rfl rfl rfl ?_
        refine at_nil ?_
        refine at_normal ?_
        refine hK15 _ _ ?_
        refine at_cond_false (congrArg (fun b => some (Value.bool b)) (show _ = false from by simp; done)) ?_
        refine at_skip ?_
        refine at_normal ?_
        refine hK14 _ _ ?_
        refine at_seq_k (fun K16 hK16 => ?_)
        refine at_region ?_
        refine at_v (ov_move rfl rfl) rfl rfl rfl ?_
        refine at_v (ov_move rfl rfl) rfl rfl rfl ?_
        refine at_v (ov_loadS (cs := [_, _, _, _, _, _, _, _, _, _]) rfl rfl rfl rfl (fun _ s => s.lds (k := 1) rfl ⟨rfl, rfl, rfl, rfl, rfl, rfl, rfl, rfl, rfl, rfl, trivial⟩)) rfl rfl rfl ?_
        refine at_t (ot_call (ks := [0, 1]) rfl rfl rfl Try.call10 rfl (T10 _ _ _ _ _ _ (by first | assumption | omega | decide | (simp; done) | (simp at *; omega))) rfl) rfl rfl rfl ?_
        rintro v0 _ ⟨m0, hp0, rfl⟩
        obtain ⟨rfl, rfl⟩ := hp0
        simp only [List.cons_append, List.nil_append]
        refine at_t (ot_allocA rfl Try.zeroValue39) rfl rfl rfl ?_
        rintro _ _ ⟨g3, rfl, rfl⟩
        refine at_t0 (ot_store (k := 0) rfl rfl rfl rfl rfl rfl rfl) rfl rfl ?_
        rintro _ _ ⟨rfl, rfl⟩
        simp only [setAt, splice, spliceL, Value.cells]
        refine at_nil ?_
        refine at_normal ?_
        refine hK16 _ _ ?_
        refine at_seq_k (fun K17 hK17 => ?_)
        refine at_region ?_
        refine at_v (ov_fieldAddr (k := 0) (r := 0) rfl rfl rfl rfl) rfl rfl rfl ?_
        refine at_v (ov_load rfl rfl rfl (fun _ s => s.ld (k := 3) rfl rfl)) rfl rfl rfl ?_
        refine at_nil ?_
        refine at_normal ?_
        refine hK17 _ _ ?_
        refine at_block ?_
        refine at_seq_k (fun K18 hK18 => ?_)
        refine at_region ?_
        refine at_v (ov_int rfl rfl rfl rfl) rfl rfl rfl ?_
        refine at_v (ov_assign rfl rfl) rfl rfl rfl ?_
        refine at_nil ?_
        refine at_normal ?_
        refine hK18 _ _ ?_
        refine at_cond_false (congrArg (fun b => some (Value.bool b)) (show _ = false from decide_eq_false (by omega))) ?_
        refine at_seq_k (fun K19 hK19 => ?_)
        refine at_region ?_
        refine at_v (ov_int rfl rfl rfl rfl) rfl rfl rfl ?_
        refine at_v (ov_assign rfl rfl) rfl rfl rfl ?_
        refine at_nil ?_
        refine at_normal ?_
        refine hK19 _ _ ?_
        refine at_cond_false (congrArg (fun b => some (Value.bool b)) (show _ = false from decide_eq_false (by omega))) ?_
        refine at_seq_k (fun K20 hK20 => ?_)
        refine at_region ?_
        refine at_v (ov_int rfl rfl rfl rfl) rfl rfl rfl ?_
        refine at_v (ov_assign rfl rfl) rfl rfl rfl ?_
        refine at_nil ?_
        refine at_normal ?_
        refine hK20 _ _ ?_
        refine at_cond_false (congrArg (fun b => some (Value.bool b)) (show _ = false from decide_eq_false (by omega))) ?_
        refine at_seq_k (fun K21 hK21 => ?_)
        refine at_region ?_
        refine at_v (ov_int rfl rfl rfl rfl) rfl rfl rfl ?_
        refine at_v (ov_assign rfl rfl) rfl rfl rfl ?_
        refine at_nil ?_
        refine at_normal ?_
        refine hK21 _ _ ?_
        refine at_cond_true (congrArg (fun b => some (Value.bool b)) (show _ = true from decide_eq_true (by omega))) ?_
        refine at_seq_k (fun K22 hK22 => ?_)
        refine at_seq_k (fun K23 hK23 => ?_)
        refine at_region ?_
        refine at_v (ov_fieldAddr (k := 0) (r := 0) rfl rfl rfl rfl) rfl rfl rfl ?_
        refine at_v (ov_load rfl rfl rfl (fun _ s => s.ld (k := 0) rfl rfl)) rfl rfl rfl ?_
        refine at_v (ov_move rfl rfl) rfl rfl rfl ?_
        refine at_v (ov_boolne rfl Try.underlying4 rfl rfl) rfl rfl rfl ?_
        refine at_nil ?_
        refine at_normal ?_
        refine hK23 _ _ ?_
        refine at_cond_false (congrArg (fun b => some (Value.bool b)) (show _ = false from by simp [h, hc, hid, hib, hl', ha']; done)) ?_
        refine at_skip ?_
        refine at_normal ?_
        refine hK22 _ _ ?_
        refine at_region ?_
        refine at_v (ov_assign rfl rfl) rfl rfl rfl ?_
        refine at_nil ?_
        refine at_inb_normal ?_
        refine at_inb_normal ?_
        refine at_normal ?_
        refine hK11 _ _ ?_
        refine at_region ?_
        refine at_v ((ov_int rfl rfl rfl rfl).eq (congrArg (Value.int .i64) (inK_i64 (by omega) (by omega)))) rfl rfl rfl ?_
        refine at_v (ov_move rfl rfl) rfl rfl rfl ?_
        refine at_nil ?_
        refine at_normal ?_
        refine at_roundF (k + 1) hlt (by omega) ⟨rfl, look_eq rfl (congrArg Value.bool (by rw [runS_succ l k hlt, hst]; simp [*])), look_eq rfl (congrArg Value.bool (by rw [runS_succ l k hlt, hst]; simp [*])), trivial⟩ rfl ?_
        simp only [setAt]
        rw [runS_succ l k hlt, hst]
        exact fun _ s => s.finEq (ks := [2, 1]) (js := [0, 0]) rfl rfl rfl
      · have hl' : (doS s v l[k]).lost = s.lost := by simp [doS, hid, SM.verdict]; (repeat' split) <;> rfl
        by_cases hiq : l[k].q.cls = 0
        · have hie : doE s l[k] = 2 := by simp [doE, hid, SM.verdictE, hiq]
          have ha' : (doS s v l[k]).aborted = s.aborted := by simp [doS, hid, SM.verdict, hiq]
          refine at_skip ?_
          refine at_normal ?_
          refine hK10 _ _ ?_
          refine at_seq_k (fun K11 hK11 => ?_)
          refine at_block ?_
          refine at_seq_k (fun K12 hK12 => ?_)
          refine at_region ?_
          refine at_v (ov_indexRd (fun _ s => hr.up s) rfl Try.underlying22 rfl rfl rfl hget) rfl rfl rfl ?_
          refine at_v (ov_loadRdS (vs := [_, _, _, _, _, _, _, _, _, _]) (fun _ s => hr.up s) rfl rfl rfl hget rfl rfl) rfl rfl rfl ?_
          refine at_t (ot_allocA rfl Try.zeroValue36) rfl rfl rfl ?_
          rintro _ _ ⟨g2, rfl, rfl⟩
          refine at_t0 (ot_store (k := 0) rfl rfl rfl rfl rfl rfl rfl) rfl rfl ?_
          rintro _ _ ⟨rfl, rfl⟩
          simp only [setAt, splice, spliceL, Value.cells]
          refine at_nil ?_
          refine at_normal ?_
          refine hK12 _ _ ?_
          refine at_seq_k (fun K13 hK13 => ?_)
          refine at_region ?_
          refine at_v (ov_move rfl rfl) rfl rfl rfl ?_
          refine at_t (ot_call (ks := [2]) rfl rfl rfl Try.call13 rfl (T13 _ _ _) rfl) rfl rfl rfl ?_
          rintro v0 _ ⟨m0, hp0, rfl⟩
          obtain ⟨rfl, rfl⟩ := hp0
          simp only [List.cons_append, List.nil_append]
          refine at_v (ov_move rfl rfl) rfl rfl rfl ?_
          refine at_v (ov_extract rfl rfl rfl) rfl rfl rfl ?_
          refine at_v (ov_extract rfl rfl rfl) rfl rfl rfl ?_
          refine at_v (ov_extract rfl rfl rfl) rfl rfl rfl ?_
          refine at_v (ov_assign rfl rfl) rfl rfl rfl ?_
          refine at_v (ov_assign rfl rfl) rfl rfl rfl ?_
          refine at_v (ov_assign rfl rfl) rfl rfl rfl ?_
          refine at_nil ?_
          refine at_normal ?_
          refine hK13 _ _ ?_
          refine at_seq_k (fun K14 hK14 => ?_)
          refine at_seq_k (fun K15 hK15 => ?_)
          refine at_region ?_
          refine at_v (ov_move rfl rfl) rfl rfl rfl ?_
          refine at_t (ot_call (ks := [0]) rfl rfl rfl Try.call14 rfl (T14 _ _ _) rfl) rfl rfl rfl ?_
          rintro v0 _ ⟨m0, hp0, rfl⟩
          obtain ⟨rfl, rfl⟩ := hp0
          simp only [List.cons_append, List.nil_append]
          refine at_v (ov_move rfl rfl) rfl rfl rfl ?_
          refine at_v (ov_boolne rfl Try.underlying4 rfl rfl) rfl rfl rfl ?_
          refine at_nil ?_
          refine at_normal ?_
          refine hK15 _ _ ?_
          refine at_cond_false (congrArg (fun b => some (Value.bool b)) (show _ = false from by simp; done)) ?_
          refine at_skip ?_
          refine at_normal ?_
          refine hK14 _ _ ?_
          refine at_seq_k (fun K16 hK16 => ?_)
          refine at_region ?_
          refine at_v (ov_move rfl rfl) rfl rfl rfl ?_
          refine at_v (ov_move rfl rfl) rfl rfl rfl ?_
          refine at_v (ov_loadS (cs := [_, _, _, _, _, _, _, _, _, _]) rfl rfl rfl rfl (fun _ s => s.lds (k := 1) rfl ⟨rfl, rfl, rfl, rfl, rfl, rfl, rfl, rfl, rfl, rfl, trivial⟩)) rfl rfl rfl ?_
          refine at_t (ot_call (ks := [0, 1]) rfl rfl rfl Try.call10 rfl (T10 _ _ _ _ _ _ (by first | assumption | omega | decide | (simp; done) | (simp at *; omega))) rfl) rfl rfl rfl ?_
          rintro v0 _ ⟨m0, hp0, rfl⟩
          obtain ⟨rfl, rfl⟩ := hp0
          simp only [List.cons_append, List.nil_append]
          refine at_t (ot_allocA rfl Try.zeroValue39) rfl rfl rfl ?_
          rintro _ _ ⟨g3, rfl, rfl⟩
          refine at_t0 (ot_store (k := 0) rfl rfl rfl rfl rfl rfl rfl) rfl rfl ?_
          rintro _ _ ⟨rfl, rfl⟩
          simp only [setAt, splice, spliceL, Value.cells]
          refine at_nil ?_
          refine at_normal ?_
          refine hK16 _ _ ?_
          refine at_seq_k (fun K17 hK17 => ?_)
          refine at_region ?_
          refine at_v (ov_fieldAddr (k := 0) (r := 0) rfl rfl rfl rfl) rfl rfl rfl ?_
          refine at_v (ov_load rfl rfl rfl (fun _ s => s.ld (k := 3) rfl rfl)) rfl rfl rfl ?_
          refine at_nil ?_
          refine at_normal ?_
          refine hK17 _ _ ?_
          refine at_block ?_
          refine at_seq_k (fun K18 hK18 => ?_)
          refine at_region ?_
          refine at_v (ov_int rfl rfl rfl rfl) rfl rfl rfl ?_
          refine at_v (ov_assign rfl rfl) rfl rfl rfl ?_
          refine at_nil ?_
          refine at_normal ?_
          refine hK18 _ _ ?_
          refine at_cond_false (congrArg (fun b => some (Value.bool b)) (show _ = false from decide_eq_false (by omega))) ?_
          refine at_seq_k (fun K19 hK19 => ?_)
          refine at_region ?_
          refine at_v (ov_int rfl rfl rfl rfl) rfl rfl rfl ?_
          refine at_v (ov_assign rfl rfl) rfl rfl rfl ?_
          refine at_nil ?_
          refine at_normal ?_
          refine hK19 _ _ ?_
          refine at_cond_false (congrArg (fun b => some (Value.bool b)) (show _ = false from decide_eq_false (by omega))) ?_
          refine at_seq_k (fun K20 hK20 => ?_)
          refine at_region ?_
          refine at_v (ov_int rfl rfl rfl rfl) rfl rfl rfl ?_
          refine at_v (ov_assign rfl rfl) rfl rfl rfl ?_
          refine at_nil ?_
          refine at_normal ?_
          refine hK20 _ _ ?_
          refine at_cond_false (congrArg (fun b => some (Value.bool b)) (show _ = false from decide_eq_false (by omega))) ?_
          refine at_seq_k (fun K21 hK21 => ?_)
          refine at_region ?_
          refine at_v (ov_int rfl rfl rfl rfl) rfl rfl rfl ?_
          refine at_v (ov_assign rfl rfl) rfl rfl rfl ?_
          refine at_nil ?_
          refine at_normal ?_
          refine hK21 _ _ ?_
          refine at_cond_false (congrArg (fun b => some (Value.bool b)) (show _ = false from decide_eq_false (by omega))) ?_
          refine at_seq_k (fun K22 hK22 => ?_)
          refine at_region ?_
          refine at_v (ov_int rfl rfl rfl rfl) rfl rfl rfl ?_
          refine at_v (ov_assign rfl rfl) rfl rfl rfl ?_
          refine at_nil ?_
          refine at_normal ?_
          refine hK22 _ _ ?_
          refine at_cond_true (congrArg (fun b => some (Value.bool b)) (show _ = true from decide_eq_true (by omega))) ?_
          refine at_block ?_
          refine at_seq_k (fun K23 hK23 => ?_)
          refine at_region ?_
          refine at_v (ov_fieldAddr (k := 3) (r := 3) rfl rfl rfl rfl) rfl rfl rfl ?_
          refine at_v (ov_fieldAddr (k := 2) (r := 5) rfl rfl rfl rfl) rfl rfl rfl ?_
          refine at_v (ov_load rfl rfl rfl (fun _ s => s.ld (k := 3) rfl rfl)) rfl rfl rfl ?_
          refine at_v (ov_int rfl rfl rfl rfl) rfl rfl rfl ?_
          refine at_v (ov_assign rfl rfl) rfl rfl rfl ?_
          refine at_nil ?_
          refine at_normal ?_
          refine hK23 _ _ ?_
          refine at_cond_true (congrArg (fun b => some (Value.bool b)) (show _ = true from decide_eq_true (by omega))) ?_
          refine at_seq_k (fun K24 hK24 => ?_)
          refine at_region ?_
          refine at_v (ov_fieldAddr (k := 1) (r := 1) rfl rfl rfl rfl) rfl rfl rfl ?_
          refine at_v (ov_load rfl rfl rfl (fun _ s => s.ld (k := 0) rfl rfl)) rfl rfl rfl ?_
          refine at_v (ov_int rfl rfl rfl rfl) rfl rfl rfl ?_
          refine at_nil ?_
          refine at_normal ?_
          refine hK24 _ _ ?_
          refine at_cond_false (congrArg (fun b => some (Value.bool b)) (show _ = false from by simp [h, hc, hid, hl', hiq, hie, ha']; done)) ?_
          refine at_skip ?_
          refine at_inb_normal ?_
          refine at_inb_normal ?_
          refine at_inb_normal ?_
          refine at_normal ?_
          refine hK11 _ _ ?_
          refine at_region ?_
          refine at_v ((ov_int rfl rfl rfl rfl).eq (congrArg (Value.int .i64) (inK_i64 (by omega) (by omega)))) rfl rfl rfl ?_
          refine at_v (ov_move rfl rfl) rfl rfl rfl ?_
          refine at_nil ?_
          refine at_normal ?_
          refine at_roundF (k + 1) hlt (by omega) ⟨rfl, look_eq rfl (congrArg Value.bool (by rw [runS_succ l k hlt, hst]; simp [*])), look_eq rfl (congrArg Value.bool (by rw [runS_succ l k hlt, hst]; simp [*])), trivial⟩ rfl ?_
          simp only [setAt]
          rw [runS_succ l k hlt, hst]
          exact fun _ s => s.finEq (ks := [2, 1]) (js := [0, 0]) rfl rfl rfl
        · cases hil : s.lost with
          | true =>
            have hie : doE s l[k] = 9 := by simp [doE, hid, SM.verdictE, hiq, hil]
            have ha' : (doS s v l[k]).aborted = s.aborted := by simp [doS, hid, SM.verdict, hiq, hil]
            refine at_skip ?_
            refine at_normal ?_
            refine hK10 _ _ ?_
            refine at_seq_k (fun K11 hK11 => ?_)
            refine at_block ?_
            refine at_seq_k (fun K12 hK12 => ?_)
            refine at_region ?_
            refine at_v (ov_indexRd (fun _ s => hr.up s) rfl Try.underlying22 rfl rfl rfl hget) rfl rfl rfl ?_
            refine at_v (ov_loadRdS (vs := [_, _, _, _, _, _, _, _, _, _]) (fun _ s => hr.up s) rfl rfl rfl hget rfl rfl) rfl rfl rfl ?_
            refine at_t (ot_allocA rfl Try.zeroValue36) rfl rfl rfl ?_
            rintro _ _ ⟨g2, rfl, rfl⟩
            refine at_t0 (ot_store (k := 0) rfl rfl rfl rfl rfl rfl rfl) rfl rfl ?_
            rintro _ _ ⟨rfl, rfl⟩
            simp only [setAt, splice, spliceL, Value.cells]
            refine at_nil ?_
            refine at_normal ?_
            refine hK12 _ _ ?_
            refine at_seq_k (fun K13 hK13 => ?_)
            refine at_region ?_
            refine at_v (ov_move rfl rfl) rfl rfl rfl ?_
            refine at_t (ot_call (ks := [2]) rfl rfl rfl Try.call13 rfl (T13 _ _ _) rfl) rfl rfl rfl ?_
            rintro v0 _ ⟨m0, hp0, rfl⟩
            obtain ⟨rfl, rfl⟩ := hp0
            simp only [List.cons_append, List.nil_append]
            refine at_v (ov_move rfl rfl) rfl rfl rfl ?_
            refine at_v (ov_extract rfl rfl rfl) rfl rfl rfl ?_
            refine at_v (ov_extract rfl rfl rfl) rfl rfl rfl ?_
            refine at_v (ov_extract rfl rfl rfl) rfl rfl rfl ?_
            refine at_v (ov_assign rfl rfl) rfl rfl rfl ?_
            refine at_v (ov_assign rfl rfl) rfl rfl rfl ?_
            refine at_v (ov_assign rfl rfl) rfl rfl rfl ?_
            refine at_nil ?_
            refine at_normal ?_
            refine hK13 _ _ ?_
            refine at_seq_k (fun K14 hK14 => ?_)
            refine at_seq_k (fun K15 hK15 => ?_)
            refine at_region ?_
            refine at_v (ov_move rfl rfl) rfl rfl rfl ?_
            refine at_t (ot_call (ks := [0]) rfl rfl rfl Try.call14 rfl (T14 _ _ _) rfl) rfl rfl rfl ?_
            rintro v0 _ ⟨m0, hp0, rfl⟩
            obtain ⟨rfl, rfl⟩ := hp0
            simp only [List.cons_append, List.nil_append]
            refine at_v (ov_move rfl rfl) rfl rfl rfl ?_
            refine at_v (ov_boolne rfl Try.underlying4 rfl rfl) rfl rfl rfl ?_
            refine at_nil ?_
            refine at_normal ?_
            refine hK15 _ _ ?_
            refine at_cond_false (congrArg (fun b => some (Value.bool b)) (show _ = false from by simp [h, hc, hid, hl', hiq, hil, hie, ha']; done)) ?_
            refine at_skip ?_
            refine at_normal ?_
            refine hK14 _ _ ?_
            refine at_seq_k (fun K16 hK16 => ?_)
            refine at_region ?_
            refine at_v (ov_move rfl rfl) rfl rfl rfl ?_
            refine at_v (ov_move rfl rfl) rfl rfl rfl ?_
            refine at_v (ov_loadS (cs := [_, _, _, _, _, _, _, _, _, _]) rfl rfl rfl rfl (fun _ s => s.lds (k := 1) rfl ⟨rfl, rfl, rfl, rfl, rfl, rfl, rfl, rfl, rfl, rfl, trivial⟩)) rfl rfl rfl ?_
            refine at_t (ot_call (ks := [0, 1]) rfl rfl rfl Try.call10 rfl (T10 _ _ _ _ _ _ (by first | assumption | omega | decide | (simp; done) | (simp at *; omega))) rfl) rfl rfl rfl ?_
            rintro v0 _ ⟨m0, hp0, rfl⟩
            obtain ⟨rfl, rfl⟩ := hp0
            simp only [List.cons_append, List.nil_append]
            refine at_t (ot_allocA rfl Try.zeroValue39) rfl rfl rfl ?_
            rintro _ _ ⟨g3, rfl, rfl⟩
            refine at_t0 (ot_store (k := 0) rfl rfl rfl rfl rfl rfl rfl) rfl rfl ?_
            rintro _ _ ⟨rfl, rfl⟩
            simp only [setAt, splice, spliceL, Value.cells]
            refine at_nil ?_
            refine at_normal ?_
            refine hK16 _ _ ?_
            refine at_seq_k (fun K17 hK17 => ?_)
            refine at_region ?_
            refine at_v (ov_fieldAddr (k := 0) (r := 0) rfl rfl rfl rfl) rfl rfl rfl ?_
            refine at_v (ov_load rfl rfl rfl (fun _ s => s.ld (k := 3) rfl rfl)) rfl rfl rfl ?_
            refine at_nil ?_
            refine at_normal ?_
            refine hK17 _ _ ?_
            refine at_block ?_
            refine at_seq_k (fun K18 hK18 => ?_)
            refine at_region ?_
            refine at_v (ov_int rfl rfl rfl rfl) rfl rfl rfl ?_
            refine at_v (ov_assign rfl rfl) rfl rfl rfl ?_
            refine at_nil ?_
            refine at_normal ?_
            refine hK18 _ _ ?_
            refine at_cond_false (congrArg (fun b => some (Value.bool b)) (show _ = false from decide_eq_false (by omega))) ?_
            refine at_seq_k (fun K19 hK19 => ?_)
            refine at_region ?_
            refine at_v (ov_int rfl rfl rfl rfl) rfl rfl rfl ?_
            refine at_v (ov_assign rfl rfl) rfl rfl rfl ?_
            refine at_nil ?_
            refine at_normal ?_
            refine hK19 _ _ ?_
            refine at_cond_false (congrArg (fun b => some (Value.bool b)) (show _ = false from decide_eq_false (by omega))) ?_
            refine at_seq_k (fun K20 hK20 => ?_)
            refine at_region ?_
            refine at_v (ov_int rfl rfl rfl rfl) rfl rfl rfl ?_
            refine at_v (ov_assign rfl rfl) rfl rfl rfl ?_
            refine at_nil ?_
            refine at_normal ?_
            refine hK20 _ _ ?_
            refine at_cond_false (congrArg (fun b => some (Value.bool b)) (show _ = false from decide_eq_false (by omega))) ?_
            refine at_seq_k (fun K21 hK21 => ?_)
            refine at_region ?_
            refine at_v (ov_int rfl rfl rfl rfl) rfl rfl rfl ?_
            refine at_v (ov_assign rfl rfl) rfl rfl rfl ?_
            refine at_nil ?_
            refine at_normal ?_
            refine hK21 _ _ ?_
            refine at_cond_false (congrArg (fun b => some (Value.bool b)) (show _ = false from decide_eq_false (by omega))) ?_
            refine at_seq_k (fun K22 hK22 => ?_)
            refine at_region ?_
            refine at_v (ov_int rfl rfl rfl rfl) rfl rfl rfl ?_
            refine at_v (ov_assign rfl rfl) rfl rfl rfl ?_
            refine at_nil ?_
            refine at_normal ?_
            refine hK22 _ _ ?_
            refine at_cond_true (congrArg (fun b => some (Value.bool b)) (show _ = true from decide_eq_true (by omega))) ?_
            refine at_block ?_
            refine at_seq_k (fun K23 hK23 => ?_)
            refine at_region ?_
            refine at_v (ov_fieldAddr (k := 3) (r := 3) rfl rfl rfl rfl) rfl rfl rfl ?_
            refine at_v (ov_fieldAddr (k := 2) (r := 5) rfl rfl rfl rfl) rfl rfl rfl ?_
            refine at_v (ov_load rfl rfl rfl (fun _ s => s.ld (k := 3) rfl rfl)) rfl rfl rfl ?_
            refine at_v (ov_int rfl rfl rfl rfl) rfl rfl rfl ?_
            refine at_v (ov_assign rfl rfl) rfl rfl rfl ?_
            refine at_nil ?_
            refine at_normal ?_
            refine hK23 _ _ ?_
            refine at_cond_false (congrArg (fun b => some (Value.bool b)) (show _ = false from decide_eq_false (by omega))) ?_
            refine at_seq_k (fun K24 hK24 => ?_)
            refine at_region ?_
            refine at_v (ov_move rfl rfl) rfl rfl rfl ?_
            refine at_v (ov_assign rfl rfl) rfl rfl rfl ?_
            refine at_nil ?_
            refine at_normal ?_
            refine hK24 _ _ ?_
            refine at_cond_true rfl ?_
            refine at_seq_k (fun K25 hK25 => ?_)
            refine at_region ?_
            refine at_v (ov_fieldAddr (k := 1) (r := 1) rfl rfl rfl rfl) rfl rfl rfl ?_
            refine at_v (ov_load rfl rfl rfl (fun _ s => s.ld (k := 0) rfl rfl)) rfl rfl rfl ?_
            refine at_v (ov_int rfl rfl rfl rfl) rfl rfl rfl ?_
            refine at_nil ?_
            refine at_normal ?_
            refine hK25 _ _ ?_
            refine at_cond_false (congrArg (fun b => some (Value.bool b)) (show _ = false from by simp [h, hc, hid, hl', hiq, hil, hie, ha']; done)) ?_
            refine at_skip ?_
            refine at_inb_normal ?_
            refine at_inb_normal ?_
            refine at_inb_normal ?_
            refine at_normal ?_
            refine hK11 _ _ ?_
            refine at_region ?_
            refine at_v ((ov_int rfl rfl rfl rfl).eq (congrArg (Value.int .i64) (inK_i64 (by omega) (by omega)))) rfl rfl rfl ?_
            refine at_v (ov_move rfl rfl) rfl rfl rfl ?_
            refine at_nil ?_
            refine at_normal ?_
            refine at_roundF (k + 1) hlt (by omega) ⟨rfl, look_eq rfl (congrArg Value.bool (by rw [runS_succ l k hlt, hst]; simp [*])), look_eq rfl (congrArg Value.bool (by rw [runS_succ l k hlt, hst]; simp [*])), trivial⟩ rfl ?_
            simp only [setAt]
            rw [runS_succ l k hlt, hst]
            exact fun _ s => s.finEq (ks := [2, 1]) (js := [0, 0]) rfl rfl rfl
          | false =>
            cases hia : s.aborted with
            | true =>
              have hie : doE s l[k] = 10 := by simp [doE, hid, SM.verdictE, hiq, hil, hia]
              have ha' : (doS s v l[k]).aborted = false := by simp [doS, hid, SM.verdict, hiq, hil, hia]
              refine at_skip ?_
              refine at_normal ?_
              refine hK10 _ _ ?_
              refine at_seq_k (fun K11 hK11 => ?_)
              refine at_block ?_
              refine at_seq_k (fun K12 hK12 => ?_)
              refine at_region ?_
              refine at_v (ov_indexRd (fun _ s => hr.up s) rfl Try.underlying22 rfl rfl rfl hget) rfl rfl rfl ?_
              refine at_v (ov_loadRdS (vs := [_, _, _, _, _, _, _, _, _, _]) (fun _ s => hr.up s) rfl rfl rfl hget rfl rfl) rfl rfl rfl ?_
              refine at_t (ot_allocA rfl Try.zeroValue36) rfl rfl rfl ?_
              rintro _ _ ⟨g2, rfl, rfl⟩
              refine at_t0 (ot_store (k := 0) rfl rfl rfl rfl rfl rfl rfl) rfl rfl ?_
              rintro _ _ ⟨rfl, rfl⟩
              simp only [setAt, splice, spliceL, Value.cells]
              refine at_nil ?_
              refine at_normal ?_
              refine hK12 _ _ ?_
              refine at_seq_k (fun K13 hK13 => ?_)
              refine at_region ?_
              refine at_v (ov_move rfl rfl) rfl rfl rfl ?_
              refine at_t (ot_call (ks := [2]) rfl rfl rfl Try.call13 rfl (T13 _ _ _) rfl) rfl rfl rfl ?_
              rintro v0 _ ⟨m0, hp0, rfl⟩
              obtain ⟨rfl, rfl⟩ := hp0
              simp only [List.cons_append, List.nil_append]
              refine at_v (ov_move rfl rfl) rfl rfl rfl ?_
              refine at_v (ov_extract rfl rfl rfl) rfl rfl rfl ?_
              refine at_v (ov_extract rfl rfl rfl) rfl rfl rfl ?_
              refine at_v (ov_extract rfl rfl rfl) rfl rfl rfl ?_
              refine at_v (ov_assign rfl rfl) rfl rfl rfl ?_
              refine at_v (ov_assign rfl rfl) rfl rfl rfl ?_
              refine at_v (ov_assign rfl rfl) rfl rfl rfl ?_
              refine at_nil ?_
              refine at_normal ?_
              refine hK13 _ _ ?_
              refine at_seq_k (fun K14 hK14 => ?_)
              refine at_seq_k (fun K15 hK15 => ?_)
              refine at_region ?_
              refine at_v (ov_move rfl rfl) rfl rfl rfl ?_
              refine at_t (ot_call (ks := [0]) rfl rfl rfl Try.call14 rfl (T14 _ _ _) rfl) rfl rfl rfl ?_
              rintro v0 _ ⟨m0, hp0, rfl⟩
              obtain ⟨rfl, rfl⟩ := hp0
              simp only [List.cons_append, List.nil_append]
              refine at_v (ov_move rfl rfl) rfl rfl rfl ?_
              refine at_v (ov_boolne rfl Try.underlying4 rfl rfl) rfl rfl rfl ?_
              refine at_nil ?_
              refine at_normal ?_
              refine hK15 _ _ ?_
              refine at_cond_false (congrArg (fun b => some (Value.bool b)) (show _ = false from by simp [h, hc, hid, hl', hiq, hil, hia, hie, ha']; done)) ?_
              refine at_skip ?_
              refine at_normal ?_
              refine hK14 _ _ ?_
              refine at_seq_k (fun K16 hK16 => ?_)
              refine at_region ?_
              refine at_v (ov_move rfl rfl) rfl rfl rfl ?_
              refine at_v (ov_move rfl rfl) rfl rfl rfl ?_
              refine at_v (ov_loadS (cs := [_, _, _, _, _, _, _, _, _, _]) rfl rfl rfl rfl (fun _ s => s.lds (k := 1) rfl ⟨rfl, rfl, rfl, rfl, rfl, rfl, rfl, rfl, rfl, rfl, trivial⟩)) rfl rfl rfl ?_
              refine at_t (ot_call (ks := [0, 1]) rfl rfl rfl Try.call10 rfl (T10 _ _ _ _ _ _ (by first | assumption | omega | decide | (simp; done) | (simp at *; omega))) rfl) rfl rfl rfl ?_
              rintro v0 _ ⟨m0, hp0, rfl⟩
              obtain ⟨rfl, rfl⟩ := hp0
              simp only [List.cons_append, List.nil_append]
              refine at_t (ot_allocA rfl Try.zeroValue39) rfl rfl rfl ?_
              rintro _ _ ⟨g3, rfl, rfl⟩
              refine at_t0 (ot_store (k := 0) rfl rfl rfl rfl rfl rfl rfl) rfl rfl ?_
              rintro _ _ ⟨rfl, rfl⟩
              simp only [setAt, splice, spliceL, Value.cells]
              refine at_nil ?_
              refine at_normal ?_
              refine hK16 _ _ ?_
              refine at_seq_k (fun K17 hK17 => ?_)
              refine at_region ?_
              refine at_v (ov_fieldAddr (k := 0) (r := 0) rfl rfl rfl rfl) rfl rfl rfl ?_
              refine at_v (ov_load rfl rfl rfl (fun _ s => s.ld (k := 3) rfl rfl)) rfl rfl rfl ?_
              refine at_nil ?_
              refine at_normal ?_
              refine hK17 _ _ ?_
              refine at_block ?_
              refine at_seq_k (fun K18 hK18 => ?_)
              refine at_region ?_
              refine at_v (ov_int rfl rfl rfl rfl) rfl rfl rfl ?_
              refine at_v (ov_assign rfl rfl) rfl rfl rfl ?_
              refine at_nil ?_
              refine at_normal ?_
              refine hK18 _ _ ?_
              refine at_cond_false (congrArg (fun b => some (Value.bool b)) (show _ = false from decide_eq_false (by omega))) ?_
              refine at_seq_k (fun K19 hK19 => ?_)
              refine at_region ?_
              refine at_v (ov_int rfl rfl rfl rfl) rfl rfl rfl ?_
              refine at_v (ov_assign rfl rfl) rfl rfl rfl ?_
              refine at_nil ?_
              refine at_normal ?_
              refine hK19 _ _ ?_
              refine at_cond_false (congrArg (fun b => some (Value.bool b)) (show _ = false from decide_eq_false (by omega))) ?_
              refine at_seq_k (fun K20 hK20 => ?_)
              refine at_region ?_
              refine at_v (ov_int rfl rfl rfl rfl) rfl rfl rfl ?_
              refine at_v (ov_assign rfl rfl) rfl rfl rfl ?_
              refine at_nil ?_
              refine at_normal ?_
              refine hK20 _ _ ?_
              refine at_cond_false (congrArg (fun b => some (Value.bool b)) (show _ = false from decide_eq_false (by omega))) ?_
              refine at_seq_k (fun K21 hK21 => ?_)
              refine at_region ?_
              refine at_v (ov_int rfl rfl rfl rfl) rfl rfl rfl ?_
              refine at_v (ov_assign rfl rfl) rfl rfl rfl ?_
              refine at_nil ?_
              refine at_normal ?_
              refine hK21 _ _ ?_
              refine at_cond_false (congrArg (fun b => some (Value.bool b)) (show _ = false from decide_eq_false (by omega))) ?_
              refine at_seq_k (fun K22 hK22 => ?_)
              refine at_region ?_
              refine at_v (ov_int rfl rfl rfl rfl) rfl rfl rfl ?_
              refine at_v (ov_assign rfl rfl) rfl rfl rfl ?_
              refine at_nil ?_
              refine at_normal ?_
              refine hK22 _ _ ?_
              refine at_cond_true (congrArg (fun b => some (Value.bool b)) (show _ = true from decide_eq_true (by omega))) ?_
              refine at_block ?_
              refine at_seq_k (fun K23 hK23 => ?_)
              refine at_region ?_
              refine at_v (ov_fieldAddr (k := 3) (r := 3) rfl rfl rfl rfl) rfl rfl rfl ?_
              refine at_v (ov_fieldAddr (k := 2) (r := 5) rfl rfl rfl rfl) rfl rfl rfl ?_
              refine at_v (ov_load rfl rfl rfl (fun _ s => s.ld (k := 3) rfl rfl)) rfl rfl rfl ?_
              refine at_v (ov_int rfl rfl rfl rfl) rfl rfl rfl ?_
              refine at_v (ov_assign rfl rfl) rfl rfl rfl ?_
              refine at_nil ?_
              refine at_normal ?_
              refine hK23 _ _ ?_
              refine at_cond_false (congrArg (fun b => some (Value.bool b)) (show _ = false from decide_eq_false (by omega))) ?_
              refine at_seq_k (fun K24 hK24 => ?_)
              refine at_region ?_
              refine at_v (ov_move rfl rfl) rfl rfl rfl ?_
              refine at_v (ov_assign rfl rfl) rfl rfl rfl ?_
              refine at_nil ?_
              refine at_normal ?_
              refine hK24 _ _ ?_
              refine at_cond_false rfl ?_
              refine at_seq_k (fun K25 hK25 => ?_)
              refine at_region ?_
              refine at_v (ov_move rfl rfl) rfl rfl rfl ?_
              refine at_v (ov_assign rfl rfl) rfl rfl rfl ?_
              refine at_nil ?_
              refine at_normal ?_
              refine hK25 _ _ ?_
              refine at_cond_true rfl ?_
              refine at_seq_k (fun K26 hK26 => ?_)
              refine at_seq_k (fun K27 hK27 => ?_)
              refine at_region ?_
              refine at_v (ov_fieldAddr (k := 1) (r := 1) rfl rfl rfl rfl) rfl rfl rfl ?_
              refine at_v (ov_load rfl rfl rfl (fun _ s => s.ld (k := 0) rfl rfl)) rfl rfl rfl ?_
              refine at_v (ov_int rfl rfl rfl rfl) rfl rfl rfl ?_
              refine at_nil ?_
              refine at_normal ?_
              refine hK27 _ _ ?_
              refine at_cond_false (congrArg (fun b => some (Value.bool b)) (show _ = false from by simp [h, hc, hid, hl', hiq, hil, hia, hie, ha']; done)) ?_
              refine at_skip ?_
              refine at_normal ?_
              refine hK26 _ _ ?_
              refine at_region ?_
              refine at_v (ov_assign rfl rfl) rfl rfl rfl ?_
              refine at_nil ?_
              refine at_inb_normal ?_
              refine at_inb_normal ?_
              refine at_inb_normal ?_
              refine at_normal ?_
              refine hK11 _ _ ?_
              refine at_region ?_
              refine at_v ((ov_int rfl rfl rfl rfl).eq (congrArg (Value.int .i64) (inK_i64 (by omega) (by omega)))) rfl rfl rfl ?_
              refine at_v (ov_move rfl rfl) rfl rfl rfl ?_
              refine at_nil ?_
              refine at_normal ?_
              refine at_roundF (k + 1) hlt (by omega) ⟨rfl, look_eq rfl (congrArg Value.bool (by rw [runS_succ l k hlt, hst]; simp [*])), look_eq rfl (congrArg Value.bool (by rw [runS_succ l k hlt, hst]; simp [*])), trivial⟩ rfl ?_
              simp only [setAt]
              rw [runS_succ l k hlt, hst]
              exact fun _ s => s.finEq (ks := [2, 1]) (js := [0, 0]) rfl rfl rfl
            | false =>
              have hie1 : ¬ doE s l[k] = 9 := by simp [doE, hid, SM.verdictE, hiq, hil, hia]; (repeat' split) <;> decide
              have hie2 : ¬ doE s l[k] = 10 := by simp [doE, hid, SM.verdictE, hiq, hil, hia]; (repeat' split) <;> decide
              have ha' : (doS s v l[k]).aborted = false := by simp [doS, hid, SM.verdict, hiq, hil, hia]
              refine at_skip ?_
              refine at_normal ?_
              refine hK10 _ _ ?_
              refine at_seq_k (fun K11 hK11 => ?_)
              refine at_block ?_
              refine at_seq_k (fun K12 hK12 => ?_)
              refine at_region ?_
              refine at_v (ov_indexRd (fun _ s => hr.up s) rfl Try.underlying22 rfl rfl rfl hget) rfl rfl rfl ?_
              refine at_v (ov_loadRdS (vs := [_, _, _, _, _, _, _, _, _, _]) (fun _ s => hr.up s) rfl rfl rfl hget rfl rfl) rfl rfl rfl ?_
              refine at_t (ot_allocA rfl Try.zeroValue36) rfl rfl rfl ?_
              rintro _ _ ⟨g2, rfl, rfl⟩
              refine at_t0 (ot_store (k := 0) rfl rfl rfl rfl rfl rfl rfl) rfl rfl ?_
              rintro _ _ ⟨rfl, rfl⟩
              simp only [setAt, splice, spliceL, Value.cells]
              refine at_nil ?_
              refine at_normal ?_
              refine hK12 _ _ ?_
              refine at_seq_k (fun K13 hK13 => ?_)
              refine at_region ?_
              refine at_v (ov_move rfl rfl) rfl rfl rfl ?_
              refine at_t (ot_call (ks := [2]) rfl rfl rfl Try.call13 rfl (T13 _ _ _) rfl) rfl rfl rfl ?_
              rintro v0 _ ⟨m0, hp0, rfl⟩
              obtain ⟨rfl, rfl⟩ := hp0
              simp only [List.cons_append, List.nil_append]
              refine at_v (ov_move rfl rfl) rfl rfl rfl ?_
              refine at_v (ov_extract rfl rfl rfl) rfl rfl rfl ?_
              refine at_v (ov_extract rfl rfl rfl) rfl rfl rfl ?_
              refine at_v (ov_extract rfl rfl rfl) rfl rfl rfl ?_
              refine at_v (ov_assign rfl rfl) rfl rfl rfl ?_
              refine at_v (ov_assign rfl rfl) rfl rfl rfl ?_
              refine at_v (ov_assign rfl rfl) rfl rfl rfl ?_
              refine at_nil ?_
              refine at_normal ?_
              refine hK13 _ _ ?_
              refine at_seq_k (fun K14 hK14 => ?_)
              refine at_seq_k (fun K15 hK15 => ?_)
              refine at_region ?_
              refine at_v (ov_move rfl rfl) rfl rfl rfl ?_
              refine at_t (ot_call (ks := [0]) rfl rfl rfl Try.call14 rfl (T14 _ _ _) rfl) rfl rfl rfl ?_
              rintro v0 _ ⟨m0, hp0, rfl⟩
              obtain ⟨rfl, rfl⟩ := hp0
              simp only [List.cons_append, List.nil_append]
              refine at_v (ov_move rfl rfl) rfl rfl rfl ?_
              refine at_v (ov_boolne rfl Try.underlying4 rfl rfl) rfl rfl rfl ?_
              refine at_nil ?_
              refine at_normal ?_
              refine hK15 _ _ ?_
              refine at_cond_false (congrArg (fun b => some (Value.bool b)) (show _ = false from by simp [h, hc, hid, hl', hiq, hil, hia, hie1, hie2, ha']; done)) ?_
              refine at_skip ?_
              refine at_normal ?_
              refine hK14 _ _ ?_
              refine at_seq_k (fun K16 hK16 => ?_)
              refine at_region ?_
              refine at_v (ov_move rfl rfl) rfl rfl rfl ?_
              refine at_v (ov_move rfl rfl) rfl rfl rfl ?_
              refine at_v (ov_loadS (cs := [_, _, _, _, _, _, _, _, _, _]) rfl rfl rfl rfl (fun _ s => s.lds (k := 1) rfl ⟨rfl, rfl, rfl, rfl, rfl, rfl, rfl, rfl, rfl, rfl, trivial⟩)) rfl rfl rfl ?_
              refine at_t (ot_call (ks := [0, 1]) rfl rfl rfl Try.call10 rfl (T10 _ _ _ _ _ _ (by first | assumption | omega | decide | (simp; done) | (simp at *; omega))) rfl) rfl rfl rfl ?_
              rintro v0 _ ⟨m0, hp0, rfl⟩
              obtain ⟨rfl, rfl⟩ := hp0
              simp only [List.cons_append, List.nil_append]
              refine at_t (ot_allocA rfl Try.zeroValue39) rfl rfl rfl ?_
              rintro _ _ ⟨g3, rfl, rfl⟩
              refine at_t0 (ot_store (k := 0) rfl rfl rfl rfl rfl rfl rfl) rfl rfl ?_
              rintro _ _ ⟨rfl, rfl⟩
              simp only [setAt, splice, spliceL, Value.cells]
              refine at_nil ?_
              refine at_normal ?_
              refine hK16 _ _ ?_
              refine at_seq_k (fun K17 hK17 => ?_)
              refine at_region ?_
              refine at_v (ov_fieldAddr (k := 0) (r := 0) rfl rfl rfl rfl) rfl rfl rfl ?_
              refine at_v (ov_load rfl rfl rfl (fun _ s => s.ld (k := 3) rfl rfl)) rfl rfl rfl ?_
              refine at_nil ?_
              refine at_normal ?_
              refine hK17 _ _ ?_
              refine at_block ?_
              refine at_seq_k (fun K18 hK18 => ?_)
              refine at_region ?_
              refine at_v (ov_int rfl rfl rfl rfl) rfl rfl rfl ?_
              refine at_v (ov_assign rfl rfl) rfl rfl rfl ?_
              refine at_nil ?_
              refine at_normal ?_
              refine hK18 _ _ ?_
              refine at_cond_false (congrArg (fun b => some (Value.bool b)) (show _ = false from decide_eq_false (by omega))) ?_
              refine at_seq_k (fun K19 hK19 => ?_)
              refine at_region ?_
              refine at_v (ov_int rfl rfl rfl rfl) rfl rfl rfl ?_
              refine at_v (ov_assign rfl rfl) rfl rfl rfl ?_
              refine at_nil ?_
              refine at_normal ?_
              refine hK19 _ _ ?_
              refine at_cond_false (congrArg (fun b => some (Value.bool b)) (show _ = false from decide_eq_false (by omega))) ?_
              refine at_seq_k (fun K20 hK20 => ?_)
              refine at_region ?_
              refine at_v (ov_int rfl rfl rfl rfl) rfl rfl rfl ?_
              refine at_v (ov_assign rfl rfl) rfl rfl rfl ?_
              refine at_nil ?_
              refine at_normal ?_
              refine hK20 _ _ ?_
              refine at_cond_false (congrArg (fun b => some (Value.bool b)) (show _ = false from decide_eq_false (by omega))) ?_
              refine at_seq_k (fun K21 hK21 => ?_)
              refine at_region ?_
              refine at_v (ov_int rfl rfl rfl rfl) rfl rfl rfl ?_
              refine at_v (ov_assign rfl rfl) rfl rfl rfl ?_
              refine at_nil ?_
              refine at_normal ?_
              refine hK21 _ _ ?_
              refine at_cond_false (congrArg (fun b => some (Value.bool b)) (show _ = false from decide_eq_false (by omega))) ?_
              refine at_seq_k (fun K22 hK22 => ?_)
              refine at_region ?_
              refine at_v (ov_int rfl rfl rfl rfl) rfl rfl rfl ?_
              refine at_v (ov_assign rfl rfl) rfl rfl rfl ?_
              refine at_nil ?_
              refine at_normal ?_
              refine hK22 _ _ ?_
              refine at_cond_true (congrArg (fun b => some (Value.bool b)) (show _ = true from decide_eq_true (by omega))) ?_
              refine at_block ?_
              refine at_seq_k (fun K23 hK23 => ?_)
              refine at_region ?_
              refine at_v (ov_fieldAddr (k := 3) (r := 3) rfl rfl rfl rfl) rfl rfl rfl ?_
              refine at_v (ov_fieldAddr (k := 2) (r := 5) rfl rfl rfl rfl) rfl rfl rfl ?_
              refine at_v (ov_load rfl rfl rfl (fun _ s => s.ld (k := 3) rfl rfl)) rfl rfl rfl ?_
              refine at_v (ov_int rfl rfl rfl rfl) rfl rfl rfl ?_
              refine at_v (ov_assign rfl rfl) rfl rfl rfl ?_
              refine at_nil ?_
              refine at_normal ?_
              refine hK23 _ _ ?_
              refine at_cond_false (congrArg (fun b => some (Value.bool b)) (show _ = false from decide_eq_false (by omega))) ?_
              refine at_seq_k (fun K24 hK24 => ?_)
              refine at_region ?_
              refine at_v (ov_move rfl rfl) rfl rfl rfl ?_
              refine at_v (ov_assign rfl rfl) rfl rfl rfl ?_
              refine at_nil ?_
              refine at_normal ?_
              refine hK24 _ _ ?_
              refine at_cond_false rfl ?_
              refine at_seq_k (fun K25 hK25 => ?_)
              refine at_region ?_
              refine at_v (ov_move rfl rfl) rfl rfl rfl ?_
              refine at_v (ov_assign rfl rfl) rfl rfl rfl ?_
              refine at_nil ?_
              refine at_normal ?_
              refine hK25 _ _ ?_
              refine at_cond_false rfl ?_
              refine at_seq_k (fun K26 hK26 => ?_)
              refine at_region ?_
              refine at_v (ov_fieldAddr (k := 1) (r := 1) rfl rfl rfl rfl) rfl rfl rfl ?_
              refine at_v (ov_load rfl rfl rfl (fun _ s => s.ld (k := 0) rfl rfl)) rfl rfl rfl ?_
              refine at_v (ov_int rfl rfl rfl rfl) rfl rfl rfl ?_
              refine at_v (ov_move rfl rfl) rfl rfl rfl ?_
              refine at_reval 75 (.bool false) rfl (congrArg Value.bool (decide_eq_false (by omega))) ?_
              refine at_wanted (j := 3) rfl ?_
              refine at_v (ov_fieldAddr (k := 1) (r := 1) rfl rfl rfl rfl) rfl rfl rfl ?_
              refine at_wanted (j := 3) rfl ?_
              refine at_v (ov_load rfl rfl rfl (fun _ s => s.ld (k := 0) rfl rfl)) rfl rfl rfl ?_
              refine at_wanted (j := 3) rfl ?_
              refine at_v (ov_int rfl rfl rfl rfl) rfl rfl rfl ?_
              refine at_v (ov_pick_f rfl rfl rfl) rfl rfl rfl ?_
              refine at_nil ?_
              refine at_normal ?_
              refine hK26 _ _ ?_
              refine at_cond_false (congrArg (fun b => some (Value.bool b)) (show _ = false from decide_eq_false (by omega))) ?_
              refine at_skip ?_
              refine at_inb_normal ?_
              refine at_inb_normal ?_
              refine at_inb_normal ?_
              refine at_normal ?_
              refine hK11 _ _ ?_
              refine at_region ?_
              refine at_v ((ov_int rfl rfl rfl rfl).eq (congrArg (Value.int .i64) (inK_i64 (by omega) (by omega)))) rfl rfl rfl ?_
              refine at_v (ov_move rfl rfl) rfl rfl rfl ?_
              refine at_nil ?_
              refine at_normal ?_
              refine at_roundF (k + 1) hlt (by omega) ⟨rfl, look_eq rfl (congrArg Value.bool (by rw [runS_succ l k hlt, hst]; simp [*])), look_eq rfl (congrArg Value.bool (by rw [runS_succ l k hlt, hst]; simp [*])), trivial⟩ rfl ?_
              simp only [setAt]
              rw [runS_succ l k hlt, hst]
              exact fun _ s => s.finEq (ks := [2, 1]) (js := [0, 0]) rfl rfl rfl
      · have hl' : (doS s v l[k]).lost = s.lost := by simp only [doS, hi4, hi5, hi6, hi7, hi8, if_false, SM.push, SM.pop, SM.begin, SM.end_]; (repeat' split) <;> rfl
        have ha' : (doS s v l[k]).aborted = s.aborted := by simp only [doS, hi4, hi5, hi6, hi7, hi8, if_false, SM.push, SM.pop, SM.begin, SM.end_]; (repeat' split) <;> rfl
        refine at_skip ?_
        refine at_normal ?_
        refine hK10 _ _ ?_
        refine at_seq_k (fun K11 hK11 => ?_)
        refine at_block ?_
        refine at_seq_k (fun K12 hK12 => ?_)
        refine at_region ?_
        refine at_v (ov_indexRd (fun _ s => hr.up s) rfl Try.underlying22 rfl rfl rfl hget) rfl rfl rfl ?_
        refine at_v (ov_loadRdS (vs := [_, _, _, _, _, _, _, _, _, _]) (fun _ s => hr.up s) rfl rfl rfl hget rfl rfl) rfl rfl rfl ?_
        refine at_t (ot_allocA rfl Try.zeroValue36) rfl rfl rfl ?_
        rintro _ _ ⟨g2, rfl, rfl⟩
        refine at_t0 (ot_store (k := 0) rfl rfl rfl rfl rfl rfl rfl) rfl rfl ?_
        rintro _ _ ⟨rfl, rfl⟩
        simp only [setAt, splice, spliceL, Value.cells]
        refine at_nil ?_
        refine at_normal ?_
        refine hK12 _ _ ?_
        refine at_seq_k (fun K13 hK13 => ?_)
        refine at_region ?_
        refine at_v (ov_move rfl rfl) rfl rfl rfl ?_
        refine at_t (ot_call (ks := [2]) rfl rfl rfl Try.call13 rfl (T13 _ _ _) rfl) rfl rfl rfl ?_
        rintro v0 _ ⟨m0, hp0, rfl⟩
        obtain ⟨rfl, rfl⟩ := hp0
        simp only [List.cons_append, List.nil_append]
        refine at_v (ov_move rfl rfl) rfl rfl rfl ?_
        refine at_v (ov_extract rfl rfl rfl) rfl rfl rfl ?_
        refine at_v (ov_extract rfl rfl rfl) rfl rfl rfl ?_
        refine at_v (ov_extract rfl rfl rfl) rfl rfl rfl ?_
        refine at_v (ov_assign rfl rfl) rfl rfl rfl ?_
        refine at_v (ov_assign rfl rfl) rfl rfl rfl ?_
        refine at_v (ov_assign rfl rfl) rfl rfl rfl ?_
        refine at_nil ?_
        refine at_normal ?_
        refine hK13 _ _ ?_
        refine at_seq_k (fun K14 hK14 => ?_)
        refine at_seq_k (fun K15 hK15 => ?_)
        refine at_region ?_
        refine at_v (ov_move rfl rfl) rfl rfl rfl ?_
        refine at_t (ot_call (ks := [0]) rfl rfl rfl Try.call14 rfl (T14 _ _ _) rfl) rfl rfl rfl ?_
        rintro v0 _ ⟨m0, hp0, rfl⟩
        obtain ⟨rfl, rfl⟩ := hp0
        simp only [List.cons_append, List.nil_append]
        refine at_v (ov_move rfl rfl) rfl rfl rfl ?_
        refine at_v (ov_boolne rfl Try.underlying4 rfl rfl) rfl rfl rfl ?_
        refine at_nil ?_
        refine at_normal ?_
        refine hK15 _ _ ?_
        refine at_cond_false (congrArg (fun b => some (Value.bool b)) (show _ = false from by simp; done)) ?_
        refine at_skip ?_
        refine at_normal ?_
        refine hK14 _ _ ?_
        refine at_seq_k (fun K16 hK16 => ?_)
        refine at_region ?_
        refine at_v (ov_move rfl rfl) rfl rfl rfl ?_
        refine at_v (ov_move rfl rfl) rfl rfl rfl ?_
        refine at_v (ov_loadS (cs := [_, _, _, _, _, _, _, _, _, _]) rfl rfl rfl rfl (fun _ s => s.lds (k := 1) rfl ⟨rfl, rfl, rfl, rfl, rfl, rfl, rfl, rfl, rfl, rfl, trivial⟩)) rfl rfl rfl ?_
        refine at_t (ot_call (ks := [0, 1]) rfl rfl rfl Try.call10 rfl (T10 _ _ _ _ _ _ (by first | assumption | omega | decide | (simp; done) | (simp at *; omega))) rfl) rfl rfl rfl ?_
        rintro v0 _ ⟨m0, hp0, rfl⟩
        obtain ⟨rfl, rfl⟩ := hp0
        simp only [List.cons_append, List.nil_append]
        refine at_t (ot_allocA rfl Try.zeroValue39) rfl rfl rfl ?_
        rintro _ _ ⟨g3, rfl, rfl⟩
        refine at_t0 (ot_store (k := 0) rfl rfl rfl rfl rfl rfl rfl) rfl rfl ?_
        rintro _ _ ⟨rfl, rfl⟩
        simp only [setAt, splice, spliceL, Value.cells]
        refine at_nil ?_
        refine at_normal ?_
        refine hK16 _ _ ?_
        refine at_seq_k (fun K17 hK17 => ?_)
        refine at_region ?_
        refine at_v (ov_fieldAddr (k := 0) (r := 0) rfl rfl rfl rfl) rfl rfl rfl ?_
        refine at_v (ov_load rfl rfl rfl (fun _ s => s.ld (k := 3) rfl rfl)) rfl rfl rfl ?_
        refine at_nil ?_
        refine at_normal ?_
        refine hK17 _ _ ?_
        refine at_block ?_
        refine at_seq_k (fun K18 hK18 => ?_)
        refine at_region ?_
        refine at_v (ov_int rfl rfl rfl rfl) rfl rfl rfl ?_
        refine at_v (ov_assign rfl rfl) rfl rfl rfl ?_
        refine at_nil ?_
        refine at_normal ?_
        refine hK18 _ _ ?_
        refine at_cond_false (congrArg (fun b => some (Value.bool b)) (show _ = false from decide_eq_false (by omega))) ?_
        refine at_seq_k (fun K19 hK19 => ?_)
        refine at_region ?_
        refine at_v (ov_int rfl rfl rfl rfl) rfl rfl rfl ?_
        refine at_v (ov_assign rfl rfl) rfl rfl rfl ?_
        refine at_nil ?_
        refine at_normal ?_
        refine hK19 _ _ ?_
        refine at_cond_false (congrArg (fun b => some (Value.bool b)) (show _ = false from decide_eq_false (by omega))) ?_
        refine at_seq_k (fun K20 hK20 => ?_)
        refine at_region ?_
        refine at_v (ov_int rfl rfl rfl rfl) rfl rfl rfl ?_
        refine at_v (ov_assign rfl rfl) rfl rfl rfl ?_
        refine at_nil ?_
        refine at_normal ?_
        refine hK20 _ _ ?_
        refine at_cond_false (congrArg (fun b => some (Value.bool b)) (show _ = false from decide_eq_false (by omega))) ?_
        refine at_seq_k (fun K21 hK21 => ?_)
        refine at_region ?_
        refine at_v (ov_int rfl rfl rfl rfl) rfl rfl rfl ?_
        refine at_v (ov_assign rfl rfl) rfl rfl rfl ?_
        refine at_nil ?_
        refine at_normal ?_
        refine hK21 _ _ ?_
        refine at_cond_false (congrArg (fun b => some (Value.bool b)) (show _ = false from decide_eq_false (by omega))) ?_
        refine at_seq_k (fun K22 hK22 => ?_)
        refine at_region ?_
        refine at_v (ov_int rfl rfl rfl rfl) rfl rfl rfl ?_
        refine at_v (ov_assign rfl rfl) rfl rfl rfl ?_
        refine at_nil ?_
        refine at_normal ?_
        refine hK22 _ _ ?_
        refine at_cond_false (congrArg (fun b => some (Value.bool b)) (show _ = false from decide_eq_false (by omega))) ?_
        refine at_skip ?_
        refine at_inb_normal ?_
        refine at_inb_normal ?_
        refine at_normal ?_
        refine hK11 _ _ ?_
        refine at_region ?_
        refine at_v ((ov_int rfl rfl rfl rfl).eq (congrArg (Value.int .i64) (inK_i64 (by omega) (by omega)))) rfl rfl rfl ?_
        refine at_v (ov_move rfl rfl) rfl rfl rfl ?_
        refine at_nil ?_
        refine at_normal ?_
        refine at_roundF (k + 1) hlt (by omega) ⟨rfl, look_eq rfl (congrArg Value.bool (by rw [runS_succ l k hlt, hst]; simp [*])), look_eq rfl (congrArg Value.bool (by rw [runS_succ l k hlt, hst]; simp [*])), trivial⟩ rfl ?_
        simp only [setAt]
        rw [runS_succ l k hlt, hst]
        exact fun _ s => s.finEq (ks := [2, 1]) (js := [0, 0]) rfl rfl rfl
    · refine at_exit ?_
      refine at_then_exit ?_
      refine at_then_exit ?_
      refine at_exit_eq ?_
      refine at_normal ?_
      refine hK7 _ _ ?_
      refine at_seq_k (fun K11 hK11 => ?_)
      refine at_region ?_
      refine at_v (ov_assign rfl rfl) rfl rfl rfl ?_
      refine at_nil ?_
      refine at_normal ?_
      refine hK11 _ _ ?_
      refine at_ret ?_
      refine at_end ?_
      refine at_fin (rsV rfl (res_tmp rfl)) ?_
      refine ⟨_, ⟨rfl, rfl⟩, ?_⟩
      exact fun _ s => s.finEq (ks := []) (js := [0, 0]) rfl rfl rfl
end Go.Proofs.Ytmhoimnochigjaa
