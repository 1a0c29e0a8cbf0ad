/- The reference's rows of those that wait, walked. -/
import Derived.Test.YtlkcccihkfggmaaGreatProg
import Derived.Test.YtlkcccihkfggmaaGreatRefConn
import Derived.Test.YtlkcccihkfggmaaGreatSLBr
import Derived.KernelRfl
set_option linter.unusedSimpArgs false
set_option linter.unusedVariables false
set_option maxRecDepth 100000
namespace Go.Proofs.YtlkcccihkfggmaaGreat
open Go Go.Proofs.YtlkcccihkfggmaaGreat.SL Go.RowKit
def RowR (g : Nat) (wm : Int) (L : List Int) : HP := fun h => ∃ A, ∃ c, star [cl g #[.slice A L.length c, .int .i64 wm] 48, Row wE 3 1 A c L] h
theorem T21 (w0 : World) (m0 : Int) : Tri Tryz.prog w0 21 [.int .i64 m0] [] fun v m => ∃ b : Bool, b = decide (0 ≤ m0 ∧ m0 ≤ 12) ∧ (b = false → v = .tuple #[.pointer none, .int .i64 1] ∧ m = []) ∧ (b = true → ∃ g, v = .tuple #[ptrTo g, .int .i64 0] ∧ m = [RowR g m0 []]) := by
  refine tri_of Tryz.func21 rfl rfl fun F => ?_
  simp only [Tryz.ntmps21, argEnv, List.cons_append, List.nil_append]
  by_cases h1 : 0 ≤ m0
  · by_cases h2 : m0 ≤ 12
    · refine at_rowNil wE 3 1 ?_
      refine at_seq_k (fun K0 hK0 => ?_)
      refine at_region ?_
      refine at_v (ov_assign rfl rfl) rfl rfl rfl ?_
      refine at_v (ov_assign rfl rfl) rfl rfl rfl ?_
      refine at_nil ?_
      refine at_normal ?_
      refine hK0 _ _ _ ?_
      refine at_seq_k (fun K1 hK1 => ?_)
      refine at_seq_k (fun K2 hK2 => ?_)
      refine at_region ?_
      refine at_v (ov_move rfl rfl) rfl rfl rfl ?_
      refine at_v (ov_int rfl rfl rfl rfl) rfl rfl rfl ?_
      refine at_v (ov_move rfl rfl) rfl rfl rfl ?_
      refine at_reval 6 (.bool false) rfl (congrArg Value.bool (decide_eq_false (by omega))) ?_
      refine at_wanted (j := 2) rfl ?_
      refine at_v (ov_move rfl rfl) rfl rfl rfl ?_
      refine at_wanted (j := 2) rfl ?_
      refine at_v (ov_int rfl rfl rfl rfl) rfl rfl rfl ?_
      refine at_v (ov_pick_f rfl rfl rfl) rfl rfl rfl ?_
      refine at_nil ?_
      refine at_normal ?_
      refine hK2 _ _ _ ?_
      refine at_cond_false (congrArg (fun b => some (Value.bool b)) (show _ = false from decide_eq_false (by omega))) ?_
      refine at_skip ?_
      refine at_normal ?_
      refine hK1 _ _ _ ?_
      refine at_seq_k (fun K3 hK3 => ?_)
      refine at_region ?_
      refine at_v (ov_move rfl rfl) rfl rfl rfl ?_
      refine at_v (ov_build (cs := [_, _]) rfl rfl rfl rfl) rfl rfl rfl ?_
      refine at_t (ot_boxA rfl rfl) rfl rfl rfl ?_
      rintro _ _ ⟨g0, rfl, rfl⟩
      refine at_v (ov_assign rfl rfl) rfl rfl rfl ?_
      refine at_v (ov_assign rfl rfl) rfl rfl rfl ?_
      refine at_nil ?_
      refine at_normal ?_
      refine hK3 _ _ _ ?_
      refine at_ret ?_
      refine at_end ?_
      refine at_fold (A := RowR g0 m0 []) [0, 0] rfl (fun h s => ⟨none, 0, s⟩) ?_
      refine at_fin (rsL (vs := [_, _]) rfl ⟨res_tmp rfl, res_tmp rfl, trivial⟩ rfl) ?_
      refine ⟨_, ⟨true, by simp [h1, h2], fun h => (by cases h), fun _ => ⟨g0, rfl, rfl⟩⟩, ?_⟩
      exact fun _ s => s.finEq (ks := [0]) (js := []) rfl rfl rfl
    · refine at_seq_k (fun K0 hK0 => ?_)
      refine at_region ?_
      refine at_v (ov_assign rfl rfl) rfl rfl rfl ?_
      refine at_v (ov_assign rfl rfl) rfl rfl rfl ?_
      refine at_nil ?_
      refine at_normal ?_
      refine hK0 _ _ _ ?_
      refine at_seq_k (fun K1 hK1 => ?_)
      refine at_seq_k (fun K2 hK2 => ?_)
      refine at_region ?_
      refine at_v (ov_move rfl rfl) rfl rfl rfl ?_
      refine at_v (ov_int rfl rfl rfl rfl) rfl rfl rfl ?_
      refine at_v (ov_move rfl rfl) rfl rfl rfl ?_
      refine at_reval 6 (.bool false) rfl (congrArg Value.bool (decide_eq_false (by omega))) ?_
      refine at_wanted (j := 2) rfl ?_
      refine at_v (ov_move rfl rfl) rfl rfl rfl ?_
      refine at_wanted (j := 2) rfl ?_
      refine at_v (ov_int rfl rfl rfl rfl) rfl rfl rfl ?_
      refine at_v (ov_pick_f rfl rfl rfl) rfl rfl rfl ?_
      refine at_nil ?_
      refine at_normal ?_
      refine hK2 _ _ _ ?_
      refine at_cond_true (congrArg (fun b => some (Value.bool b)) (show _ = true from decide_eq_true (by omega))) ?_
      refine at_seq_k (fun K3 hK3 => ?_)
      refine at_region ?_
      refine at_v (ov_assign rfl rfl) rfl rfl rfl ?_
      refine at_v (ov_assign rfl rfl) rfl rfl rfl ?_
      refine at_nil ?_
      refine at_normal ?_
      refine hK3 _ _ _ ?_
      refine at_ret ?_
      refine at_then_ret ?_
      refine at_end ?_
      refine at_fin (rsL (vs := [_, _]) rfl ⟨res_tmp rfl, res_tmp rfl, trivial⟩ rfl) ?_
      refine ⟨_, ⟨false, by simp [h1, h2], fun _ => ⟨rfl, rfl⟩, fun h => by cases h⟩, ?_⟩
      exact fun _ s => s.finEq (ks := []) (js := []) rfl rfl rfl
  · refine at_seq_k (fun K0 hK0 => ?_)
    refine at_region ?_
    refine at_v (ov_assign rfl rfl) rfl rfl rfl ?_
    refine at_v (ov_assign rfl rfl) rfl rfl rfl ?_
    refine at_nil ?_
    refine at_normal ?_
    refine hK0 _ _ _ ?_
    refine at_seq_k (fun K1 hK1 => ?_)
    refine at_seq_k (fun K2 hK2 => ?_)
    refine at_region ?_
    refine at_v (ov_move rfl rfl) rfl rfl rfl ?_
    refine at_v (ov_int rfl rfl rfl rfl) rfl rfl rfl ?_
    refine at_v (ov_move rfl rfl) rfl rfl rfl ?_
    refine at_reval 6 (.bool true) rfl (congrArg Value.bool (decide_eq_true (by omega))) ?_
    refine at_unwanted (j := 2) rfl rfl rfl rfl ?_
    refine at_unwanted (j := 2) rfl rfl rfl rfl ?_
    refine at_v (ov_pick_t rfl rfl rfl) rfl rfl rfl ?_
    refine at_nil ?_
    refine at_normal ?_
    refine hK2 _ _ _ ?_
    refine at_cond_true rfl ?_
    refine at_seq_k (fun K3 hK3 => ?_)
    refine at_region ?_
    refine at_v (ov_assign rfl rfl) rfl rfl rfl ?_
    refine at_v (ov_assign rfl rfl) rfl rfl rfl ?_
    refine at_nil ?_
    refine at_normal ?_
    refine hK3 _ _ _ ?_
    refine at_ret ?_
    refine at_then_ret ?_
    refine at_end ?_
    refine at_fin (rsL (vs := [_, _]) rfl ⟨res_tmp rfl, res_tmp rfl, trivial⟩ rfl) ?_
    refine ⟨_, ⟨false, by simp [h1], fun _ => ⟨rfl, rfl⟩, fun h => by cases h⟩, ?_⟩
    exact fun _ s => s.finEq (ks := []) (js := []) rfl rfl rfl
theorem T57 (w0 : World) {g : Nat} {most : Int} {L : List Int} (id : Int) (hL : L.length ≤ 12) : Tri Tryz.prog w0 57 [ptrTo g, .int .i64 id] [RowR g most L] fun v m => v = .int .i64 (atL L id 0) ∧ m = [RowR g most L] := by
  refine tri_of Tryz.func57 rfl rfl fun F => ?_
  simp only [Tryz.ntmps57, argEnv, List.cons_append, List.nil_append]
  refine at_ex fun A => at_ex fun c => at_open ?_
  simp only [List.cons_append, List.nil_append]
  refine at_seq_k (fun K0 hK0 => ?_)
  refine at_region ?_
  refine at_v (ov_assign rfl rfl) rfl rfl rfl ?_
  refine at_nil ?_
  refine at_normal ?_
  refine hK0 _ _ _ ?_
  refine at_seq_k (fun K1 hK1 => ?_)
  refine at_seq_k (fun K2 hK2 => ?_)
  refine at_region ?_
  refine at_v (ov_assign rfl rfl) rfl rfl rfl ?_
  refine at_nil ?_
  refine at_normal ?_
  refine hK2 _ _ _ ?_
  refine at_block ?_
  refine at_loopE [6, 7, 8, 9, 10, 11, 12, 15, 16, 17, 18, 19, 20, 21, 22, 23, 24, 4, 13, 14, 5] (fun k => k ≤ L.length ∧ atL L id 0 = atL (L.drop k) id k) (fun k => [(5, .int .i64 (k : Nat))]) (fun _ l => l) (fun k => L.length - k) 0 ⟨Nat.zero_le _, rfl⟩ ⟨rfl, trivial⟩ (fun _ s => s) ?_
  rintro k ⟨hk, hp⟩
  refine at_seq_k (fun K3 hK3 => ?_)
  refine at_seq_k (fun K4 hK4 => ?_)
  refine at_region ?_
  refine at_v (ov_move rfl rfl) rfl rfl rfl ?_
  refine at_v (ov_move rfl rfl) rfl rfl rfl ?_
  refine at_v (ov_nilCheck rfl rfl) rfl rfl rfl ?_
  refine at_v (ov_fieldAddr (k := 0) (r := 0) rfl rfl rfl rfl) rfl rfl rfl ?_
  refine at_v (ov_load rfl rfl rfl (fun _ s => s.ld (k := 0) rfl rfl)) rfl rfl rfl ?_
  refine at_v (ov_len_slice rfl Tryz.underlying45 rfl) rfl rfl rfl ?_
  refine at_v (ov_int rfl rfl rfl rfl) rfl rfl rfl ?_
  refine at_nil ?_
  refine at_normal ?_
  refine hK4 _ _ _ ?_
  refine at_cond rfl (fun hc => ?_) (fun hc => ?_)
  · have hlt : k < L.length := by simpa using hc
    have hget : L[k]? = some L[k] := List.getElem?_eq_getElem hlt
    rw [atL_step hget] at hp
    by_cases hi1 : L[k] = id
    · rw [if_pos hi1] at hp
      refine at_skip ?_
      refine at_normal ?_
      refine hK3 _ _ _ ?_
      refine at_seq_k (fun K5 hK5 => ?_)
      refine at_block ?_
      refine at_seq_k (fun K6 hK6 => ?_)
      refine at_region ?_
      refine at_v (ov_move rfl rfl) rfl rfl rfl ?_
      refine at_v (ov_nilCheck rfl rfl) rfl rfl rfl ?_
      refine at_v (ov_fieldAddr (k := 0) (r := 0) rfl rfl rfl rfl) rfl rfl rfl ?_
      refine at_v (ov_load rfl rfl rfl (fun _ s => s.ld (k := 0) rfl rfl)) rfl rfl rfl ?_
      refine at_v (ov_move rfl rfl) rfl rfl rfl ?_
      refine at_v (ov_indexRd (fun _ s => s.rd (k := 1) rfl) rfl Tryz.underlying45 rfl rfl rfl hget) rfl rfl rfl ?_
      refine at_v (ov_loadRd0 (fun _ s => s.rd (k := 1) rfl) rfl rfl rfl hget rfl) rfl rfl rfl ?_
      refine at_v (ov_move rfl rfl) rfl rfl rfl ?_
      refine at_v (ov_int rfl rfl rfl rfl) rfl rfl rfl ?_
      refine at_nil ?_
      refine at_normal ?_
      refine hK6 _ _ _ ?_
      refine at_cond_true (congrArg (fun b => some (Value.bool b)) (show _ = true from decide_eq_true (by omega))) ?_
      refine at_seq_k (fun K7 hK7 => ?_)
      refine at_region ?_
      refine at_v (ov_move rfl rfl) rfl rfl rfl ?_
      refine at_v (ov_assign rfl rfl) rfl rfl rfl ?_
      refine at_nil ?_
      refine at_normal ?_
      refine hK7 _ _ _ ?_
      refine at_ret ?_
      refine at_inb_ret ?_
      refine at_then_ret ?_
      refine at_then_ret ?_
      refine at_inb_ret ?_
      refine at_then_ret ?_
      refine at_end ?_
      refine at_fold (A := RowR g most L) [0, 0] rfl (fun h s => ⟨A, c, s⟩) ?_
      refine at_fin (rsV rfl (res_tmp rfl)) ?_
      refine ⟨_, ⟨by rw [hp], rfl⟩, ?_⟩
      exact fun _ s => s.finEq (ks := [0]) (js := []) rfl rfl rfl
    · rw [if_neg hi1] at hp
      refine at_skip ?_
      refine at_normal ?_
      refine hK3 _ _ _ ?_
      refine at_seq_k (fun K5 hK5 => ?_)
      refine at_block ?_
      refine at_seq_k (fun K6 hK6 => ?_)
      refine at_region ?_
      refine at_v (ov_move rfl rfl) rfl rfl rfl ?_
      refine at_v (ov_nilCheck rfl rfl) rfl rfl rfl ?_
      refine at_v (ov_fieldAddr (k := 0) (r := 0) rfl rfl rfl rfl) rfl rfl rfl ?_
      refine at_v (ov_load rfl rfl rfl (fun _ s => s.ld (k := 0) rfl rfl)) rfl rfl rfl ?_
      refine at_v (ov_move rfl rfl) rfl rfl rfl ?_
      refine at_v (ov_indexRd (fun _ s => s.rd (k := 1) rfl) rfl Tryz.underlying45 rfl rfl rfl hget) rfl rfl rfl ?_
      refine at_v (ov_loadRd0 (fun _ s => s.rd (k := 1) rfl) rfl rfl rfl hget rfl) rfl rfl rfl ?_
      refine at_v (ov_move rfl rfl) rfl rfl rfl ?_
      refine at_v (ov_int rfl rfl rfl rfl) rfl rfl rfl ?_
      refine at_nil ?_
      refine at_normal ?_
      refine hK6 _ _ _ ?_
      refine at_cond_false (congrArg (fun b => some (Value.bool b)) (show _ = false from decide_eq_false (by omega))) ?_
      refine at_skip ?_
      refine at_inb_normal ?_
      refine at_normal ?_
      refine hK5 _ _ _ ?_
      refine at_region ?_
      refine at_v (ov_move rfl rfl) rfl rfl rfl ?_
      refine at_v ((ov_int rfl rfl rfl rfl).eq (congrArg (Value.int .i64) (inK_i64 (by omega) (by omega)))) rfl rfl rfl ?_
      refine at_v (ov_assign rfl rfl) rfl rfl rfl ?_
      refine at_nil ?_
      refine at_normal ?_
      refine at_roundF (k + 1) ⟨hlt, by rw [hp]; rfl⟩ (by omega) ⟨rfl, trivial⟩ rfl ?_
      exact fun _ s => s.finEq (ks := [0, 0]) (js := []) rfl rfl rfl
  · have hk2 : k = L.length := by
      have : ¬ k < L.length := by simpa using hc
      omega
    subst hk2
    rw [List.drop_length] at hp
    refine at_exit ?_
    refine at_then_exit ?_
    refine at_then_exit ?_
    refine at_exit_eq ?_
    refine at_normal ?_
    refine hK1 _ _ _ ?_
    refine at_seq_k (fun K5 hK5 => ?_)
    refine at_region ?_
    refine at_v (ov_assign rfl rfl) rfl rfl rfl ?_
    refine at_nil ?_
    refine at_normal ?_
    refine hK5 _ _ _ ?_
    refine at_ret ?_
    refine at_end ?_
    refine at_fold (A := RowR g most L) [0, 0] rfl (fun h s => ⟨A, c, s⟩) ?_
    refine at_fin (rsV rfl (res_tmp rfl)) ?_
    refine ⟨_, ⟨by rw [hp]; rfl, rfl⟩, ?_⟩
    exact fun _ s => s.finEq (ks := [0]) (js := []) rfl rfl rfl
theorem T59 (w0 : World) {g : Nat} {most : Int} {L : List Int} (id : Int) (hL : L.length ≤ 12) (hm : (L.length : Int) ≤ most) : Tri Tryz.prog w0 59 [ptrTo g, .int .i64 id] [RowR g most L] fun v m =>
    v = .int .i64 (if atL L id 0 ≠ -1 then 7 else if (L.length : Int) = most then 5 else 0) ∧ m = [RowR g most (if atL L id 0 = -1 ∧ (L.length : Int) ≠ most then L ++ [id] else L)] := by
  refine tri_of Tryz.func59 rfl rfl fun F => ?_
  simp only [Tryz.ntmps59, argEnv, List.cons_append, List.nil_append]
  have hsp := atL_spec L id 0 (Int.le_refl _)
  by_cases hi1 : atL L id 0 = -1
  · by_cases hi2 : (L.length : Int) = most
    · rw [if_neg (by simp [hi1]), if_pos hi2, if_neg (by simp [hi2])]
      refine at_seq_k (fun K0 hK0 => ?_)
      refine at_region ?_
      refine at_v (ov_assign rfl rfl) rfl rfl rfl ?_
      refine at_nil ?_
      refine at_normal ?_
      refine hK0 _ _ _ ?_
      refine at_seq_k (fun K1 hK1 => ?_)
      refine at_seq_k (fun K2 hK2 => ?_)
      refine at_region ?_
      refine at_v (ov_move rfl rfl) rfl rfl rfl ?_
      refine at_v (ov_move rfl rfl) rfl rfl rfl ?_
      refine at_t (ot_call (ks := [0]) rfl rfl rfl Tryz.call57 rfl (T57 _ _ (by first | assumption | rfl | omega | decide | (simp; done) | (simp at *; omega))) rfl) rfl rfl rfl ?_
      rintro v0 _ ⟨m0, hp0, rfl⟩
      obtain ⟨rfl, rfl⟩ := hp0
      simp only [List.cons_append, List.nil_append, splice, spliceL]
      refine at_v (ov_int rfl rfl rfl rfl) rfl rfl rfl ?_
      refine at_nil ?_
      refine at_normal ?_
      refine hK2 _ _ _ ?_
      refine at_cond_false (congrArg (fun b => some (Value.bool b)) (show _ = false from decide_eq_false (by omega))) ?_
      refine at_skip ?_
      refine at_normal ?_
      refine hK1 _ _ _ ?_
      refine at_seq_k (fun K3 hK3 => ?_)
      refine at_seq_k (fun K4 hK4 => ?_)
      refine at_ex fun A => at_ex fun c => at_open ?_
      simp only [List.cons_append, List.nil_append]
      refine at_draw _ [] 1000 [(2, 0), (2, 1), (2, 2), (1, 3), (1, 4), (2, 5), (2, 6), (2, 7), (1, 8), (2, 9)] (by kernel_rfl) (by kernel_rfl) (fun _ s => (s.pulls (ks := [0]) rfl).left) ?_
      refine aq_p (ov_move rfl rfl) rfl rfl rfl ?_
      refine aq_p (ov_nilCheck rfl rfl) rfl rfl rfl ?_
      refine aq_p (ov_fieldAddr (k := 0) (r := 0) rfl rfl rfl rfl) rfl rfl rfl ?_
      refine aq_v (ov_load rfl rfl rfl (fun _ s => s.ld (k := 0) rfl rfl)) rfl rfl rfl ?_
      refine aq_v (ov_len_slice rfl Tryz.underlying45 rfl) rfl rfl rfl ?_
      refine aq_p (ov_move rfl rfl) rfl rfl rfl ?_
      refine aq_p (ov_nilCheck rfl rfl) rfl rfl rfl ?_
      refine aq_p (ov_fieldAddr (k := 1) (r := 1) rfl rfl rfl rfl) rfl rfl rfl ?_
      refine aq_v (ov_load rfl rfl rfl (fun _ s => s.ld (k := 0) rfl rfl)) rfl rfl rfl ?_
      refine aq_p (ov_int rfl rfl rfl rfl) rfl rfl rfl ?_
      refine aq_nil ?_
      refine at_normal ?_
      refine hK4 _ _ _ ?_
      refine at_cond_true (congrArg (fun b => some (Value.bool b)) (show _ = true from decide_eq_true (by omega))) ?_
      refine at_seq_k (fun K5 hK5 => ?_)
      refine at_region ?_
      refine at_v (ov_assign rfl rfl) rfl rfl rfl ?_
      refine at_nil ?_
      refine at_normal ?_
      refine hK5 _ _ _ ?_
      refine at_ret ?_
      refine at_then_ret ?_
      refine at_end ?_
      refine at_fold (A := RowR g most L) [0, 0] rfl (fun h s => ⟨A, c, s⟩) ?_
      refine at_fin (rsV rfl (res_tmp rfl)) ?_
      refine ⟨_, ⟨rfl, rfl⟩, ?_⟩
      exact fun _ s => s.finEq (ks := [0]) (js := []) rfl rfl rfl
    · rw [if_neg (by simp [hi1]), if_neg hi2, if_pos ⟨hi1, hi2⟩]
      refine at_seq_k (fun K0 hK0 => ?_)
      refine at_region ?_
      refine at_v (ov_assign rfl rfl) rfl rfl rfl ?_
      refine at_nil ?_
      refine at_normal ?_
      refine hK0 _ _ _ ?_
      refine at_seq_k (fun K1 hK1 => ?_)
      refine at_seq_k (fun K2 hK2 => ?_)
      refine at_region ?_
      refine at_v (ov_move rfl rfl) rfl rfl rfl ?_
      refine at_v (ov_move rfl rfl) rfl rfl rfl ?_
      refine at_t (ot_call (ks := [0]) rfl rfl rfl Tryz.call57 rfl (T57 _ _ (by first | assumption | rfl | omega | decide | (simp; done) | (simp at *; omega))) rfl) rfl rfl rfl ?_
      rintro v0 _ ⟨m0, hp0, rfl⟩
      obtain ⟨rfl, rfl⟩ := hp0
      simp only [List.cons_append, List.nil_append, splice, spliceL]
      refine at_v (ov_int rfl rfl rfl rfl) rfl rfl rfl ?_
      refine at_nil ?_
      refine at_normal ?_
      refine hK2 _ _ _ ?_
      refine at_cond_false (congrArg (fun b => some (Value.bool b)) (show _ = false from decide_eq_false (by omega))) ?_
      refine at_skip ?_
      refine at_normal ?_
      refine hK1 _ _ _ ?_
      refine at_seq_k (fun K3 hK3 => ?_)
      refine at_seq_k (fun K4 hK4 => ?_)
      refine at_ex fun A => at_ex fun c => at_open ?_
      simp only [List.cons_append, List.nil_append]
      refine at_draw _ [] 1000 [(2, 0), (2, 1), (2, 2), (1, 3), (1, 4), (2, 5), (2, 6), (2, 7), (1, 8), (2, 9)] (by kernel_rfl) (by kernel_rfl) (fun _ s => (s.pulls (ks := [0]) rfl).left) ?_
      refine aq_p (ov_move rfl rfl) rfl rfl rfl ?_
      refine aq_p (ov_nilCheck rfl rfl) rfl rfl rfl ?_
      refine aq_p (ov_fieldAddr (k := 0) (r := 0) rfl rfl rfl rfl) rfl rfl rfl ?_
      refine aq_v (ov_load rfl rfl rfl (fun _ s => s.ld (k := 0) rfl rfl)) rfl rfl rfl ?_
      refine aq_v (ov_len_slice rfl Tryz.underlying45 rfl) rfl rfl rfl ?_
      refine aq_p (ov_move rfl rfl) rfl rfl rfl ?_
      refine aq_p (ov_nilCheck rfl rfl) rfl rfl rfl ?_
      refine aq_p (ov_fieldAddr (k := 1) (r := 1) rfl rfl rfl rfl) rfl rfl rfl ?_
      refine aq_v (ov_load rfl rfl rfl (fun _ s => s.ld (k := 0) rfl rfl)) rfl rfl rfl ?_
      refine aq_p (ov_int rfl rfl rfl rfl) rfl rfl rfl ?_
      refine aq_nil ?_
      refine at_normal ?_
      refine hK4 _ _ _ ?_
      refine at_cond_false (congrArg (fun b => some (Value.bool b)) (show _ = false from decide_eq_false (by omega))) ?_
      refine at_skip ?_
      refine at_normal ?_
      refine hK3 _ _ _ ?_
      refine at_seq_k (fun K5 hK5 => ?_)
      refine at_region ?_
      refine at_v (ov_move rfl rfl) rfl rfl rfl ?_
      refine at_t (ot_buildSlice (cs := []) rfl Tryz.underlying45 rfl rfl rfl rfl rfl rfl) rfl rfl rfl ?_
      rintro _ _ ⟨g0, rfl, rfl⟩
      refine at_v (ov_move rfl rfl) rfl rfl rfl ?_
      refine at_v (ov_nilCheck rfl rfl) rfl rfl rfl ?_
      refine at_v (ov_fieldAddr (k := 0) (r := 0) rfl rfl rfl rfl) rfl rfl rfl ?_
      refine at_v (ov_load rfl rfl rfl (fun _ s => s.ld (k := 1) rfl rfl)) rfl rfl rfl ?_
      refine at_rowOf wE 0 (size := 1) (c := 0) [] rfl (by simp) (Nat.le_refl _) (by decide) (by simp) (by simp) ?_
      simp only [setAt]
      refine at_t (ot_append (k := 0) (size := 1) (bytes := 8) (ys := L) (fun _ s => s.rd (k := 2) rfl) rfl Tryz.underlying45 (ti := Tryz.t3) rfl rfl rfl rfl rfl (by decide) rfl rfl rfl (by simp [wE, Value.oneCell']) (by simp; omega) (by decide)) rfl rfl rfl ?_
      rintro _ _ ⟨A0, c0, rfl, rfl⟩
      simp only [setAt]
      rw [List.nil_append]
      refine at_v (ov_move rfl rfl) rfl rfl rfl ?_
      refine at_t (ot_buildSlice (cs := [_]) rfl Tryz.underlying45 rfl rfl rfl rfl rfl rfl) rfl rfl rfl ?_
      rintro _ _ ⟨g1, rfl, rfl⟩
      refine at_t (ot_append (k := 1) (size := 1) (bytes := 8) (ys := [id]) (fun _ s => s.rdPt (k := 0) rfl rfl (by simp [wE])) rfl Tryz.underlying45 (ti := Tryz.t3) rfl rfl rfl rfl rfl (by decide) rfl rfl rfl (by simp [wE, Value.oneCell']) (by simp; omega) (by decide)) rfl rfl rfl ?_
      rintro _ _ ⟨A1, c1, rfl, rfl⟩
      simp only [setAt]
      refine at_v (ov_nilCheck rfl rfl) rfl rfl rfl ?_
      refine at_v (ov_fieldAddr (k := 0) (r := 0) rfl rfl rfl rfl) rfl rfl rfl ?_
      refine at_t0 (ot_store (k := 2) rfl rfl rfl rfl rfl rfl rfl) rfl rfl ?_
      rintro _ _ ⟨rfl, rfl⟩
      simp only [setAt, splice, spliceL, Value.cells]
      refine at_nil ?_
      refine at_normal ?_
      refine hK5 _ _ _ ?_
      refine at_seq_k (fun K6 hK6 => ?_)
      refine at_region ?_
      refine at_v (ov_assign rfl rfl) rfl rfl rfl ?_
      refine at_nil ?_
      refine at_normal ?_
      refine hK6 _ _ _ ?_
      refine at_ret ?_
      refine at_end ?_
      refine at_fold (A := RowR g most (L ++ [id])) [2, 1] rfl (fun h s => ⟨A1, c1, s⟩) ?_
      refine at_fin (rsV rfl (res_tmp rfl)) ?_
      refine ⟨_, ⟨rfl, rfl⟩, ?_⟩
      exact fun _ s => s.finEq (ks := [0]) (js := [0, 0]) rfl rfl rfl
  · have hge : atL L id 0 ≥ 0 := by
      rcases hsp with ⟨h, _⟩ | ⟨k, h, _⟩
      · exact absurd h hi1
      · omega
    rw [if_pos hi1, if_neg (fun h => hi1 h.1)]
    refine at_seq_k (fun K0 hK0 => ?_)
    refine at_region ?_
    refine at_v (ov_assign rfl rfl) rfl rfl rfl ?_
    refine at_nil ?_
    refine at_normal ?_
    refine hK0 _ _ _ ?_
    refine at_seq_k (fun K1 hK1 => ?_)
    refine at_seq_k (fun K2 hK2 => ?_)
    refine at_region ?_
    refine at_v (ov_move rfl rfl) rfl rfl rfl ?_
    refine at_v (ov_move rfl rfl) rfl rfl rfl ?_
    refine at_t (ot_call (ks := [0]) rfl rfl rfl Tryz.call57 rfl (T57 _ _ (by first | assumption | rfl | omega | decide | (simp; done) | (simp at *; omega))) rfl) rfl rfl rfl ?_
    rintro v0 _ ⟨m0, hp0, rfl⟩
    obtain ⟨rfl, rfl⟩ := hp0
    simp only [List.cons_append, List.nil_append, splice, spliceL]
    refine at_v (ov_int rfl rfl rfl rfl) rfl rfl rfl ?_
    refine at_nil ?_
    refine at_normal ?_
    refine hK2 _ _ _ ?_
    refine at_cond_true (congrArg (fun b => some (Value.bool b)) (show _ = true from decide_eq_true (by omega))) ?_
    refine at_seq_k (fun K3 hK3 => ?_)
    refine at_region ?_
    refine at_v (ov_assign rfl rfl) rfl rfl rfl ?_
    refine at_nil ?_
    refine at_normal ?_
    refine hK3 _ _ _ ?_
    refine at_ret ?_
    refine at_then_ret ?_
    refine at_end ?_
    refine at_fin (rsV rfl (res_tmp rfl)) ?_
    refine ⟨_, ⟨rfl, rfl⟩, ?_⟩
    exact fun _ s => s.finEq (ks := [0]) (js := []) rfl rfl rfl
theorem T60 (w0 : World) {g : Nat} {most : Int} {x : Int} {L : List Int} (hL : (x :: L).length ≤ 12) : Tri Tryz.prog w0 60 [ptrTo g] [RowR g most (x :: L)] fun v m => v = .tuple #[.int .i64 x, .bool true] ∧ m = [RowR g most L] := by
  refine tri_of Tryz.func60 rfl rfl fun F => ?_
  simp only [Tryz.ntmps60, argEnv, List.cons_append, List.nil_append]
  refine at_ex fun A => at_ex fun c => at_open ?_
  simp only [List.cons_append, List.nil_append]
  have hcat : (x :: L)[0]? = some x := rfl
  refine at_rowLen (xs := x :: L) (enc := wE) 1 rfl fun hc1 hc2 => ?_
  refine at_seq_k (fun K0 hK0 => ?_)
  refine at_region ?_
  refine at_v (ov_assign rfl rfl) rfl rfl rfl ?_
  refine at_v (ov_assign rfl rfl) rfl rfl rfl ?_
  refine at_nil ?_
  refine at_normal ?_
  refine hK0 _ _ _ ?_
  refine at_seq_k (fun K1 hK1 => ?_)
  refine at_seq_k (fun K2 hK2 => ?_)
  refine at_region ?_
  refine at_v (ov_move rfl rfl) rfl rfl rfl ?_
  refine at_v (ov_nilCheck rfl rfl) rfl rfl rfl ?_
  refine at_v (ov_fieldAddr (k := 0) (r := 0) rfl rfl rfl rfl) rfl rfl rfl ?_
  refine at_v (ov_load rfl rfl rfl (fun _ s => s.ld (k := 0) rfl rfl)) rfl rfl rfl ?_
  refine at_v (ov_len_slice rfl Tryz.underlying45 rfl) rfl rfl rfl ?_
  refine at_v (ov_int rfl rfl rfl rfl) rfl rfl rfl ?_
  refine at_nil ?_
  refine at_normal ?_
  refine hK2 _ _ _ ?_
  refine at_cond_false rfl ?_
  refine at_skip ?_
  refine at_normal ?_
  refine hK1 _ _ _ ?_
  refine at_seq_k (fun K3 hK3 => ?_)
  refine at_region ?_
  refine at_v (ov_move rfl rfl) rfl rfl rfl ?_
  refine at_v (ov_nilCheck rfl rfl) rfl rfl rfl ?_
  refine at_v (ov_fieldAddr (k := 0) (r := 0) rfl rfl rfl rfl) rfl rfl rfl ?_
  refine at_v (ov_load rfl rfl rfl (fun _ s => s.ld (k := 0) rfl rfl)) rfl rfl rfl ?_
  refine at_v (ov_indexRd (fun _ s => s.rd (k := 1) rfl) rfl Tryz.underlying45 rfl rfl rfl hcat) rfl rfl rfl ?_
  refine at_v (ov_loadRd0 (fun _ s => s.rd (k := 1) rfl) rfl rfl rfl hcat rfl) rfl rfl rfl ?_
  refine at_v (ov_assign rfl rfl) rfl rfl rfl ?_
  refine at_nil ?_
  refine at_normal ?_
  refine hK3 _ _ _ ?_
  refine at_seq_k (fun K4 hK4 => ?_)
  refine at_region ?_
  refine at_v (ov_move rfl rfl) rfl rfl rfl ?_
  refine at_t (ot_buildSlice (cs := []) rfl Tryz.underlying45 rfl rfl rfl rfl rfl rfl) rfl rfl rfl ?_
  rintro _ _ ⟨g0, rfl, rfl⟩
  refine at_v (ov_move rfl rfl) rfl rfl rfl ?_
  refine at_v (ov_nilCheck rfl rfl) rfl rfl rfl ?_
  refine at_v (ov_fieldAddr (k := 0) (r := 0) rfl rfl rfl rfl) rfl rfl rfl ?_
  refine at_v (ov_load rfl rfl rfl (fun _ s => s.ld (k := 1) rfl rfl)) rfl rfl rfl ?_
  refine at_v (ov_sliceFrom (k := 1) rfl Tryz.underlying45 rfl rfl rfl (by simp) (by assumption)) rfl rfl rfl ?_
  refine at_rowOf wE 0 (size := 1) (c := 0) [] rfl (by simp) (Nat.le_refl _) (by decide) (by simp) (by simp) ?_
  simp only [setAt]
  have hL2 : L.length ≤ 12 := by simp at hL; omega
  refine at_t (ot_append (k := 0) (size := 1) (bytes := 8) (ys := L) (fun _ s => rd_dropA (xs := x :: L) s (k := 2) rfl 1) rfl Tryz.underlying45 (ti := Tryz.t3) rfl rfl rfl rfl rfl (by decide) rfl rfl rfl (by simp [wE, Value.oneCell']) (by simp; omega) (by decide)) rfl rfl rfl ?_
  rintro _ _ ⟨A0, c0, rfl, rfl⟩
  simp only [setAt]
  rw [List.nil_append]
  refine at_v (ov_nilCheck rfl rfl) rfl rfl rfl ?_
  refine at_v (ov_fieldAddr (k := 0) (r := 0) rfl rfl rfl rfl) rfl rfl rfl ?_
  refine at_t0 (ot_store (k := 1) rfl rfl rfl rfl rfl rfl rfl) rfl rfl ?_
  rintro _ _ ⟨rfl, rfl⟩
  simp only [setAt, splice, spliceL, Value.cells]
  refine at_nil ?_
  refine at_normal ?_
  refine hK4 _ _ _ ?_
  refine at_seq_k (fun K5 hK5 => ?_)
  refine at_region ?_
  refine at_v (ov_move rfl rfl) rfl rfl rfl ?_
  refine at_v (ov_assign rfl rfl) rfl rfl rfl ?_
  refine at_v (ov_assign rfl rfl) rfl rfl rfl ?_
  refine at_nil ?_
  refine at_normal ?_
  refine hK5 _ _ _ ?_
  refine at_ret ?_
  refine at_end ?_
  refine at_fold (A := RowR g most L) [1, 0] rfl (fun h s => ⟨A0, c0, s⟩) ?_
  refine at_fin (rsL (vs := [_, _]) rfl ⟨res_tmp rfl, res_tmp rfl, trivial⟩ rfl) ?_
  refine ⟨_, ⟨rfl, rfl⟩, ?_⟩
  exact fun _ s => s.finEq (ks := [0]) (js := [0]) rfl rfl rfl
theorem T29 (w0 : World) {g : Nat} {most : Int} {L : List Int} (id : Int) (hL : L.length ≤ 12) : Tri Tryz.prog w0 29 [ptrTo g, .int .i64 id] [RowR g most L] fun v m => v = .bool (!decide (atL L id 0 = -1)) ∧ m = [RowR g most (dropW L id)] := by
  refine tri_of Tryz.func29 rfl rfl fun F => ?_
  simp only [Tryz.ntmps29, argEnv, List.cons_append, List.nil_append]
  rcases atL_spec L id 0 (Int.le_refl _) with ⟨hi1, _⟩ | ⟨k, hk, hget⟩
  · have e1 : dropW L id = L := if_pos hi1
    rw [e1, hi1]
    have hat : Tri Tryz.prog w0 57 [ptrTo g, .int .i64 id] [RowR g most L] fun v m => v = .int .i64 (-1) ∧ m = [RowR g most L] := by
      have := T57 w0 (g := g) (most := most) (L := L) id hL
      rwa [hi1] at this
    refine at_seq_k (fun K0 hK0 => ?_)
    refine at_region ?_
    refine at_v (ov_assign rfl rfl) rfl rfl rfl ?_
    refine at_nil ?_
    refine at_normal ?_
    refine hK0 _ _ _ ?_
    refine at_seq_k (fun K1 hK1 => ?_)
    refine at_region ?_
    refine at_v (ov_move rfl rfl) rfl rfl rfl ?_
    refine at_v (ov_move rfl rfl) rfl rfl rfl ?_
    refine at_t (ot_call (ks := [0]) rfl rfl rfl Tryz.call57 rfl (hat ) rfl) rfl rfl rfl ?_
    rintro v0 _ ⟨m0, hp0, rfl⟩
    obtain ⟨rfl, rfl⟩ := hp0
    simp only [List.cons_append, List.nil_append, splice, spliceL]
    refine at_v (ov_assign rfl rfl) rfl rfl rfl ?_
    refine at_nil ?_
    refine at_normal ?_
    refine hK1 _ _ _ ?_
    refine at_seq_k (fun K2 hK2 => ?_)
    refine at_seq_k (fun K3 hK3 => ?_)
    refine at_region ?_
    refine at_v (ov_move rfl rfl) rfl rfl rfl ?_
    refine at_v (ov_int rfl rfl rfl rfl) rfl rfl rfl ?_
    refine at_nil ?_
    refine at_normal ?_
    refine hK3 _ _ _ ?_
    refine at_cond_true rfl ?_
    refine at_seq_k (fun K4 hK4 => ?_)
    refine at_region ?_
    refine at_v (ov_assign rfl rfl) rfl rfl rfl ?_
    refine at_nil ?_
    refine at_normal ?_
    refine hK4 _ _ _ ?_
    refine at_ret ?_
    refine at_then_ret ?_
    refine at_end ?_
    refine at_fin (rsV rfl (res_tmp rfl)) ?_
    refine ⟨_, ⟨rfl, rfl⟩, ?_⟩
    exact fun _ s => s.finEq (ks := [0]) (js := []) rfl rfl rfl
  · have hk0 : atL L id 0 = (k : Int) := by omega
    have hlt : k < L.length := (List.getElem?_eq_some_iff.1 hget).1
    have hat : Tri Tryz.prog w0 57 [ptrTo g, .int .i64 id] [RowR g most L] fun v m => v = .int .i64 (k : Nat) ∧ m = [RowR g most L] := by
      have := T57 w0 (g := g) (most := most) (L := L) id hL
      rwa [hk0] at this
    have e1 : dropW L id = L.take k ++ L.drop (k + 1) := by
      unfold dropW
      rw [if_neg (by omega), hk0, List.eraseIdx_eq_take_drop_succ]; rfl
    have e2 : (!decide (atL L id 0 = -1)) = true := by simp; omega
    rw [e1, e2]
    refine at_seq_k (fun K0 hK0 => ?_)
    refine at_region ?_
    refine at_v (ov_assign rfl rfl) rfl rfl rfl ?_
    refine at_nil ?_
    refine at_normal ?_
    refine hK0 _ _ _ ?_
    refine at_seq_k (fun K1 hK1 => ?_)
    refine at_region ?_
    refine at_v (ov_move rfl rfl) rfl rfl rfl ?_
    refine at_v (ov_move rfl rfl) rfl rfl rfl ?_
    refine at_t (ot_call (ks := [0]) rfl rfl rfl Tryz.call57 rfl (hat ) rfl) rfl rfl rfl ?_
    rintro v0 _ ⟨m0, hp0, rfl⟩
    obtain ⟨rfl, rfl⟩ := hp0
    simp only [List.cons_append, List.nil_append, splice, spliceL]
    refine at_v (ov_assign rfl rfl) rfl rfl rfl ?_
    refine at_nil ?_
    refine at_normal ?_
    refine hK1 _ _ _ ?_
    refine at_seq_k (fun K2 hK2 => ?_)
    refine at_seq_k (fun K3 hK3 => ?_)
    refine at_region ?_
    refine at_v (ov_move rfl rfl) rfl rfl rfl ?_
    refine at_v (ov_int rfl rfl rfl rfl) rfl rfl rfl ?_
    refine at_nil ?_
    refine at_normal ?_
    refine hK3 _ _ _ ?_
    refine at_cond_false rfl ?_
    refine at_skip ?_
    refine at_normal ?_
    refine hK2 _ _ _ ?_
    refine at_seq_k (fun K4 hK4 => ?_)
    refine at_ex fun A => at_ex fun c => at_open ?_
    simp only [List.cons_append, List.nil_append]
    refine at_rowLen (xs := L) (enc := wE) 1 rfl fun hc1 hc2 => ?_
    have hk1 : k ≤ L.length := by omega
    have hk2 : k + 1 ≤ L.length := by omega
    refine at_draw _ [] 19 [(2, 0), (2, 2), (2, 3), (2, 4), (1, 5), (2, 6), (1, 7), (2, 9), (2, 10), (2, 11), (1, 12), (2, 13), (2, 14), (1, 15), (0, 1), (0, 8), (0, 16), (2, 17), (2, 18), (3, 19)] (by kernel_rfl) (by kernel_rfl) (fun _ s => (s.pulls (ks := [0]) rfl).left) ?_
    refine aq_p (ov_move rfl rfl) rfl rfl rfl ?_
    refine aq_p (ov_move rfl rfl) rfl rfl rfl ?_
    refine aq_p (ov_nilCheck rfl rfl) rfl rfl rfl ?_
    refine aq_p (ov_fieldAddr (k := 0) (r := 0) rfl rfl rfl rfl) rfl rfl rfl ?_
    refine aq_v (ov_load rfl rfl rfl (fun _ s => s.ld (k := 0) rfl rfl)) rfl rfl rfl ?_
    refine aq_p (ov_move rfl rfl) rfl rfl rfl ?_
    refine aq_v (ov_sliceTo rfl Tryz.underlying45 rfl rfl rfl (by first | assumption | omega) (by assumption)) rfl rfl rfl ?_
    refine aq_p (ov_move rfl rfl) rfl rfl rfl ?_
    refine aq_p (ov_nilCheck rfl rfl) rfl rfl rfl ?_
    refine aq_p (ov_fieldAddr (k := 0) (r := 0) rfl rfl rfl rfl) rfl rfl rfl ?_
    refine aq_v (ov_load rfl rfl rfl (fun _ s => s.ld (k := 0) rfl rfl)) rfl rfl rfl ?_
    refine aq_p (ov_move rfl rfl) rfl rfl rfl ?_
    refine aq_p ((ov_int rfl rfl rfl rfl).eq (congrArg (Value.int .i64) (inK_i64 (by omega) (by omega)))) rfl rfl rfl ?_
    refine aq_v (ov_sliceFrom rfl Tryz.underlying45 rfl rfl rfl (by first | assumption | omega) (by assumption)) rfl rfl rfl ?_
    refine aq_t (ot_buildSlice (cs := []) rfl Tryz.underlying45 rfl rfl rfl rfl rfl rfl) rfl rfl rfl ?_
    rintro _ _ ⟨g0, rfl, rfl⟩
    refine ⟨fun _ s => (s.pulls (ks := [1]) rfl).left, ?_⟩
    refine at_rowOf wE 0 (size := 1) (c := 0) [] rfl (by simp) (Nat.le_refl _) (by decide) (by simp) (by simp) ?_
    simp only [setAt]
    have hlt1 : (L.take k).length ≤ 12 := by rw [List.length_take]; omega
    have hld1 : (L.drop (k + 1)).length ≤ 12 := by rw [List.length_drop]; omega
    refine aq_t (ot_append (k := 0) (size := 1) (bytes := 8) (ys := L.take k) (fun _ s => (s.rd (k := 2) rfl).take k) rfl Tryz.underlying45 (ti := Tryz.t3) rfl rfl rfl rfl rfl (by decide) rfl rfl rfl (by simp [wE, Value.oneCell']) (by simp; omega) (by decide)) rfl rfl rfl ?_
    rintro _ _ ⟨A0, c0, rfl, rfl⟩
    simp only [setAt]
    refine ⟨fun _ s => (s.pulls (ks := [1]) rfl).left, ?_⟩
    rw [List.nil_append]
    
    refine aq_t (ot_append (k := 0) (size := 1) (bytes := 8) (ys := L.drop (k + 1)) (fun _ s => rd_dropA (xs := L) s (k := 2) rfl (k + 1)) rfl Tryz.underlying45 (ti := Tryz.t3) rfl rfl rfl rfl rfl (by decide) rfl rfl rfl (by simp [wE, Value.oneCell']) (by simp; omega) (by decide)) rfl rfl rfl ?_
    rintro _ _ ⟨A1, c1, rfl, rfl⟩
    simp only [setAt]
    refine ⟨fun _ s => (s.pulls (ks := [1]) rfl).left, ?_⟩
    refine aq_p (ov_nilCheck rfl rfl) rfl rfl rfl ?_
    refine aq_p (ov_fieldAddr (k := 0) (r := 0) rfl rfl rfl rfl) rfl rfl rfl ?_
    refine aq_b0 (ot_store (k := 1) rfl rfl rfl rfl rfl rfl rfl) rfl rfl ?_
    rintro _ _ ⟨rfl, rfl⟩
    simp only [setAt, splice, spliceL, Value.cells]
    refine ⟨fun _ s => (s.pulls (ks := []) rfl).left, ?_⟩
    refine aq_nil ?_
    refine at_normal ?_
    refine hK4 _ _ _ ?_
    refine at_seq_k (fun K5 hK5 => ?_)
    refine at_region ?_
    refine at_v (ov_assign rfl rfl) rfl rfl rfl ?_
    refine at_nil ?_
    refine at_normal ?_
    refine hK5 _ _ _ ?_
    refine at_ret ?_
    refine at_end ?_
    refine at_fold (A := RowR g most (L.take k ++ L.drop (k + 1))) [1, 0] rfl (fun h s => ⟨A1, c1, s⟩) ?_
    refine at_fin (rsV rfl (res_tmp rfl)) ?_
    refine ⟨_, ⟨rfl, rfl⟩, ?_⟩
    exact fun _ s => s.finEq (ks := [0]) (js := [0]) rfl rfl rfl
