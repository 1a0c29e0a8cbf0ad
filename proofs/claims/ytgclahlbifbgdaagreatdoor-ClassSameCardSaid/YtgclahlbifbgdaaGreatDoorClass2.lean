/- Package class: the rules, walked. -/
import Derived.Test.YtgclahlbifbgdaaGreatDoorProg
import Derived.Test.YtgclahlbifbgdaaGreatDoorClass1
import Derived.Test.YtgclahlbifbgdaaGreatDoorSLStr
import Derived.KernelRfl
set_option linter.unusedSimpArgs false
set_option linter.unusedVariables false
set_option maxRecDepth 100000
set_option maxHeartbeats 2000000
namespace Go.Proofs.YtgclahlbifbgdaaGreatDoor
open Go Go.Proofs.YtgclahlbifbgdaaGreatDoor.SL Go.RowKit
theorem T56 (w0 : World) (cv : Value) {A : Option Addr} {c : Nat} {l : List Tok} (hr : Rd tE w0 2 A l) (hm : l.length ≤ 10000) : Tri Tryz.prog w0 56 [cv, .slice A l.length c] [] fun v m => v = .int .i64 (setL l) ∧ m = [] := by
  refine tri_of Tryz.func56 rfl rfl fun F => ?_
  simp only [Tryz.ntmps56, argEnv, List.nil_append]
  refine at_seq_k (fun K0 hK0 => ?_)
  refine at_region ?_
  refine at_v (ov_assign rfl rfl) rfl rfl rfl ?_
  refine at_nil ?_
  refine at_normal ?_
  refine hK0 _ _ _ ?_
  refine at_seq_k (fun K1 hK1 => ?_)
  refine at_seq_k (fun K2 hK2 => ?_)
  refine at_region ?_
  refine at_v (ov_move rfl rfl) rfl rfl rfl ?_
  refine at_t (ot_buildSlice (cs := [_, _, _]) rfl Tryz.underlying73 rfl rfl rfl rfl rfl rfl) rfl rfl rfl ?_
  rintro _ _ ⟨g0, rfl, rfl⟩
  refine at_rowOf bsE 0 (size := 1) (c := 3) [wAUTOCOMMIT, wGLOBAL, wPERSIST] rfl (fun _ _ => rfl) (by decide) (by decide) (by decide) rfl ?_
  simp only [setAt]
  refine at_reval 6 (.slice (some ⟨g0, 0, none⟩) ([wAUTOCOMMIT, wGLOBAL, wPERSIST] : List BL).length 3) rfl rfl ?_
  have hW := fun {B} {d} {d'} => T85a w0 (B := B) (c := c) (d := d) (d' := d') (ws := [wAUTOCOMMIT, wGLOBAL, wPERSIST]) hr hm (by decide) 1 (by decide)
  cases hw : wordIn l 1 [wAUTOCOMMIT, wGLOBAL, wPERSIST] with
  | true =>
    rw [hw] at hW
    refine at_t (ot_call (ks := [0]) rfl rfl rfl Tryz.call85 rfl (hW ) rfl) rfl rfl rfl ?_
    rintro v0 _ ⟨m0, hp0, rfl⟩
    obtain ⟨rfl, rfl⟩ := hp0
    simp only [List.cons_append, List.nil_append, splice, spliceL]
    refine at_nil ?_
    refine at_normal ?_
    refine hK2 _ _ _ ?_
    refine at_cond_true rfl ?_
    refine at_seq_k (fun K3 hK3 => ?_)
    refine at_region ?_
    refine at_v (ov_assign rfl rfl) rfl rfl rfl ?_
    refine at_nil ?_
    refine at_normal ?_
    refine hK3 _ _ _ ?_
    refine at_ret ?_
    refine at_then_ret ?_
    refine at_end ?_
    refine at_fin (rsV rfl (res_tmp rfl)) ?_
    refine ⟨_, ⟨by simp [setL, hw], rfl⟩, ?_⟩
    exact fun _ s => s.finEq (ks := []) (js := [0]) rfl rfl rfl
  | false =>
    rw [hw] at hW
    refine at_t (ot_call (ks := [0]) rfl rfl rfl Tryz.call85 rfl (hW ) rfl) rfl rfl rfl ?_
    rintro v0 _ ⟨m0, hp0, rfl⟩
    obtain ⟨rfl, rfl⟩ := hp0
    simp only [List.cons_append, List.nil_append, splice, spliceL]
    refine at_nil ?_
    refine at_normal ?_
    refine hK2 _ _ _ ?_
    refine at_cond_false rfl ?_
    refine at_skip ?_
    refine at_normal ?_
    refine hK1 _ _ _ ?_
    refine at_seq_k (fun K3 hK3 => ?_)
    refine at_region ?_
    refine at_v (ov_assign rfl rfl) rfl rfl rfl ?_
    refine at_nil ?_
    refine at_normal ?_
    refine hK3 _ _ _ ?_
    refine at_ret ?_
    refine at_end ?_
    refine at_fin (rsV rfl (res_tmp rfl)) ?_
    refine ⟨_, ⟨by simp [setL, hw], rfl⟩, ?_⟩
    exact fun _ s => s.finEq (ks := []) (js := [0]) rfl rfl rfl
theorem T53 (w0 : World) (cv : Value) {A : Option Addr} {c : Nat} {l : List Tok} (hr : Rd tE w0 2 A l) (hm : l.length ≤ 10000) : Tri Tryz.prog w0 53 [cv, .slice A l.length c] [] fun v m => v = .int .i64 (beginL l) ∧ m = [] := by
  refine tri_of Tryz.func53 rfl rfl fun F => ?_
  simp only [Tryz.ntmps53, argEnv, List.nil_append]
  by_cases h1 : l.length = 1
  · have hi1 : decide ((l.length : Int) = 1) = true := decide_eq_true (by omega)
    refine at_seq_k (fun K0 hK0 => ?_)
    refine at_region ?_
    refine at_v (ov_assign rfl rfl) rfl rfl rfl ?_
    refine at_nil ?_
    refine at_normal ?_
    refine hK0 _ _ _ ?_
    refine at_seq_k (fun K1 hK1 => ?_)
    refine at_seq_k (fun K2 hK2 => ?_)
    refine at_region ?_
    refine at_v (ov_move rfl rfl) rfl rfl rfl ?_
    refine at_v (ov_len_slice rfl Tryz.underlying36 rfl) rfl rfl rfl ?_
    refine at_v (ov_int rfl rfl rfl rfl) rfl rfl rfl ?_
    refine at_v (ov_move rfl rfl) rfl rfl rfl ?_
    refine at_reval 8 (.bool true) rfl (congrArg Value.bool (decide_eq_true (by omega))) ?_
    refine at_unwanted (j := 3) rfl rfl rfl rfl ?_
    refine at_unwanted (j := 3) rfl rfl rfl rfl ?_
    refine at_unwanted (j := 3) rfl rfl rfl rfl ?_
    refine at_unwanted (j := 3) rfl rfl rfl rfl ?_
    refine at_unwantedN (j := 7) rfl rfl rfl ?_
    refine at_unwantedN (j := 7) rfl rfl rfl ?_
    refine at_unwantedN (j := 7) rfl rfl rfl ?_
    refine at_unwanted (j := 3) rfl rfl rfl rfl ?_
    refine at_v (ov_pick_t rfl rfl rfl) rfl rfl rfl ?_
    refine at_nil ?_
    refine at_normal ?_
    refine hK2 _ _ _ ?_
    refine at_cond_true rfl ?_
    refine at_seq_k (fun K3 hK3 => ?_)
    refine at_region ?_
    refine at_v (ov_assign rfl rfl) rfl rfl rfl ?_
    refine at_nil ?_
    refine at_normal ?_
    refine hK3 _ _ _ ?_
    refine at_ret ?_
    refine at_then_ret ?_
    refine at_end ?_
    refine at_fin (rsV rfl (res_tmp rfl)) ?_
    refine ⟨_, ⟨by simp [beginL, h1], rfl⟩, ?_⟩
    exact fun _ s => s.finEq (ks := []) (js := []) rfl rfl rfl
  have hi1 : decide ((l.length : Int) = 1) = false := decide_eq_false (by omega)
  by_cases h2 : l.length = 2
  · have hi2 : decide ((l.length : Int) = 2) = true := decide_eq_true (by omega)
    refine at_seq_k (fun K0 hK0 => ?_)
    refine at_region ?_
    refine at_v (ov_assign rfl rfl) rfl rfl rfl ?_
    refine at_nil ?_
    refine at_normal ?_
    refine hK0 _ _ _ ?_
    refine at_seq_k (fun K1 hK1 => ?_)
    refine at_seq_k (fun K2 hK2 => ?_)
    refine at_region ?_
    refine at_v (ov_move rfl rfl) rfl rfl rfl ?_
    refine at_v (ov_len_slice rfl Tryz.underlying36 rfl) rfl rfl rfl ?_
    refine at_v (ov_int rfl rfl rfl rfl) rfl rfl rfl ?_
    refine at_v (ov_move rfl rfl) rfl rfl rfl ?_
    refine at_reval 8 (.bool false) rfl (congrArg Value.bool (decide_eq_false (by omega))) ?_
    refine at_wanted (j := 3) rfl ?_
    refine at_v (ov_move rfl rfl) rfl rfl rfl ?_
    refine at_wanted (j := 3) rfl ?_
    refine at_v (ov_len_slice rfl Tryz.underlying36 rfl) rfl rfl rfl ?_
    refine at_wanted (j := 3) rfl ?_
    refine at_v (ov_int rfl rfl rfl rfl) rfl rfl rfl ?_
    refine at_wanted (j := 3) rfl ?_
    refine at_v (ov_move rfl rfl) rfl rfl rfl ?_
    refine at_reval 12 (.bool true) rfl (congrArg Value.bool (decide_eq_true (by omega))) ?_
    refine at_wanted (j := 7) rfl ?_
    refine at_v (ov_move rfl rfl) rfl rfl rfl ?_
    refine at_wanted (j := 7) rfl ?_
    refine at_t (ot_buildSlice (cs := [_, _]) rfl Tryz.underlying73 rfl rfl rfl rfl rfl rfl) rfl rfl rfl ?_
    rintro _ _ ⟨g0, rfl, rfl⟩
    refine at_wanted (j := 7) rfl ?_
    refine at_rowOf bsE 0 (size := 1) (c := 2) [wWORK, wTRANSACTION] rfl (fun _ _ => rfl) (by decide) (by decide) (by decide) rfl ?_
    simp only [setAt]
    refine at_reval 14 (.slice (some ⟨g0, 0, none⟩) ([wWORK, wTRANSACTION] : List BL).length 2) rfl rfl ?_
    have hW := fun {B} {d} {d'} => T85a w0 (B := B) (c := c) (d := d) (d' := d') (ws := [wWORK, wTRANSACTION]) hr hm (by decide) 1 (by decide)
    cases hw : wordIn l 1 [wWORK, wTRANSACTION] with
    | true =>
      rw [hw] at hW
      refine at_t (ot_call (ks := [0]) rfl rfl rfl Tryz.call85 rfl (hW ) rfl) rfl rfl rfl ?_
      rintro v0 _ ⟨m0, hp0, rfl⟩
      obtain ⟨rfl, rfl⟩ := hp0
      simp only [List.cons_append, List.nil_append, splice, spliceL]
      refine at_wanted (j := 3) rfl ?_
      refine at_v (ov_pick_t rfl rfl rfl) rfl rfl rfl ?_
      refine at_v (ov_pick_f rfl rfl rfl) rfl rfl rfl ?_
      refine at_nil ?_
      refine at_normal ?_
      refine hK2 _ _ _ ?_
      refine at_cond_true rfl ?_
      refine at_seq_k (fun K3 hK3 => ?_)
      refine at_region ?_
      refine at_v (ov_assign rfl rfl) rfl rfl rfl ?_
      refine at_nil ?_
      refine at_normal ?_
      refine hK3 _ _ _ ?_
      refine at_ret ?_
      refine at_then_ret ?_
      refine at_end ?_
      refine at_fin (rsV rfl (res_tmp rfl)) ?_
      refine ⟨_, ⟨by simp [beginL, h2, hw], rfl⟩, ?_⟩
      exact fun _ s => s.finEq (ks := []) (js := [0]) rfl rfl rfl
    | false =>
      rw [hw] at hW
      refine at_t (ot_call (ks := [0]) rfl rfl rfl Tryz.call85 rfl (hW ) rfl) rfl rfl rfl ?_
      rintro v0 _ ⟨m0, hp0, rfl⟩
      obtain ⟨rfl, rfl⟩ := hp0
      simp only [List.cons_append, List.nil_append, splice, spliceL]
      refine at_wanted (j := 3) rfl ?_
      refine at_v (ov_pick_t rfl rfl rfl) rfl rfl rfl ?_
      refine at_v (ov_pick_f rfl rfl rfl) rfl rfl rfl ?_
      refine at_nil ?_
      refine at_normal ?_
      refine hK2 _ _ _ ?_
      refine at_cond_false rfl ?_
      refine at_skip ?_
      refine at_normal ?_
      refine hK1 _ _ _ ?_
      refine at_seq_k (fun K3 hK3 => ?_)
      refine at_region ?_
      refine at_v (ov_assign rfl rfl) rfl rfl rfl ?_
      refine at_nil ?_
      refine at_normal ?_
      refine hK3 _ _ _ ?_
      refine at_ret ?_
      refine at_end ?_
      refine at_fin (rsV rfl (res_tmp rfl)) ?_
      refine ⟨_, ⟨by simp [beginL, h2, hw], rfl⟩, ?_⟩
      exact fun _ s => s.finEq (ks := []) (js := [0]) rfl rfl rfl
  · have hi2 : decide ((l.length : Int) = 2) = false := decide_eq_false (by omega)
    refine at_seq_k (fun K0 hK0 => ?_)
    refine at_region ?_
    refine at_v (ov_assign rfl rfl) rfl rfl rfl ?_
    refine at_nil ?_
    refine at_normal ?_
    refine hK0 _ _ _ ?_
    refine at_seq_k (fun K1 hK1 => ?_)
    refine at_seq_k (fun K2 hK2 => ?_)
    refine at_region ?_
    refine at_v (ov_move rfl rfl) rfl rfl rfl ?_
    refine at_v (ov_len_slice rfl Tryz.underlying36 rfl) rfl rfl rfl ?_
    refine at_v (ov_int rfl rfl rfl rfl) rfl rfl rfl ?_
    refine at_v (ov_move rfl rfl) rfl rfl rfl ?_
    refine at_reval 8 (.bool false) rfl (congrArg Value.bool (decide_eq_false (by omega))) ?_
    refine at_wanted (j := 3) rfl ?_
    refine at_v (ov_move rfl rfl) rfl rfl rfl ?_
    refine at_wanted (j := 3) rfl ?_
    refine at_v (ov_len_slice rfl Tryz.underlying36 rfl) rfl rfl rfl ?_
    refine at_wanted (j := 3) rfl ?_
    refine at_v (ov_int rfl rfl rfl rfl) rfl rfl rfl ?_
    refine at_wanted (j := 3) rfl ?_
    refine at_v (ov_move rfl rfl) rfl rfl rfl ?_
    refine at_reval 12 (.bool false) rfl (congrArg Value.bool (decide_eq_false (by omega))) ?_
    refine at_unwanted (j := 7) rfl rfl rfl rfl ?_
    refine at_unwanted (j := 7) rfl rfl rfl rfl ?_
    refine at_unwanted (j := 7) rfl rfl rfl rfl ?_
    refine at_wanted (j := 3) rfl ?_
    refine at_v (ov_pick_f rfl rfl rfl) rfl rfl rfl ?_
    refine at_v (ov_pick_f rfl rfl rfl) rfl rfl rfl ?_
    refine at_nil ?_
    refine at_normal ?_
    refine hK2 _ _ _ ?_
    refine at_cond_false rfl ?_
    refine at_skip ?_
    refine at_normal ?_
    refine hK1 _ _ _ ?_
    refine at_seq_k (fun K3 hK3 => ?_)
    refine at_region ?_
    refine at_v (ov_assign rfl rfl) rfl rfl rfl ?_
    refine at_nil ?_
    refine at_normal ?_
    refine hK3 _ _ _ ?_
    refine at_ret ?_
    refine at_end ?_
    refine at_fin (rsV rfl (res_tmp rfl)) ?_
    refine ⟨_, ⟨by simp [beginL, h1, h2], rfl⟩, ?_⟩
    exact fun _ s => s.finEq (ks := []) (js := []) rfl rfl rfl
theorem T86 (w0 : World) (cv : Value) {b : Nat} {k : Int} {A : Option Addr} {c : Nat} {l : List Tok} (hr : Rd tE w0 2 A l) (hm : l.length ≤ 10000) : Tri Tryz.prog w0 86 [cv, .slice A l.length c, ptrTo b] [cl b #[.int .i64 k] 3] fun v m => v = .int .i64 (endsL k l) ∧ m = [cl b #[.int .i64 k] 3] := by
  refine tri_of Tryz.func86 rfl rfl fun F => ?_
  simp only [Tryz.ntmps86, argEnv, List.cons_append, List.nil_append]
  by_cases h1 : l.length = 1
  · have hi1 : decide ((l.length : Int) = 1) = true := decide_eq_true (by omega)
    refine at_seq_k (fun K0 hK0 => ?_)
    refine at_region ?_
    refine at_v (ov_assign rfl rfl) rfl rfl rfl ?_
    refine at_nil ?_
    refine at_normal ?_
    refine hK0 _ _ _ ?_
    refine at_seq_k (fun K1 hK1 => ?_)
    refine at_seq_k (fun K2 hK2 => ?_)
    refine at_region ?_
    refine at_v (ov_move rfl rfl) rfl rfl rfl ?_
    refine at_v (ov_len_slice rfl Tryz.underlying36 rfl) rfl rfl rfl ?_
    refine at_v (ov_int rfl rfl rfl rfl) rfl rfl rfl ?_
    refine at_v (ov_move rfl rfl) rfl rfl rfl ?_
    refine at_reval 9 (.bool true) rfl (congrArg Value.bool (decide_eq_true (by omega))) ?_
    refine at_unwanted (j := 3) rfl rfl rfl rfl ?_
    refine at_unwanted (j := 3) rfl rfl rfl rfl ?_
    refine at_unwanted (j := 3) rfl rfl rfl rfl ?_
    refine at_unwanted (j := 3) rfl rfl rfl rfl ?_
    refine at_unwantedN (j := 7) rfl rfl rfl ?_
    refine at_unwantedN (j := 7) rfl rfl rfl ?_
    refine at_unwantedN (j := 7) rfl rfl rfl ?_
    refine at_unwanted (j := 3) rfl rfl rfl rfl ?_
    refine at_v (ov_pick_t rfl rfl rfl) rfl rfl rfl ?_
    refine at_nil ?_
    refine at_normal ?_
    refine hK2 _ _ _ ?_
    refine at_cond_true rfl ?_
    refine at_seq_k (fun K3 hK3 => ?_)
    refine at_region ?_
    refine at_v (ov_load rfl rfl rfl (fun _ s => s.ld (k := 0) rfl rfl)) rfl rfl rfl ?_
    refine at_v (ov_assign rfl rfl) rfl rfl rfl ?_
    refine at_nil ?_
    refine at_normal ?_
    refine hK3 _ _ _ ?_
    refine at_ret ?_
    refine at_then_ret ?_
    refine at_end ?_
    refine at_fin (rsV rfl (res_tmp rfl)) ?_
    refine ⟨_, ⟨by simp [endsL, h1], rfl⟩, ?_⟩
    exact fun _ s => s.finEq (ks := [0]) (js := []) rfl rfl rfl
  have hi1 : decide ((l.length : Int) = 1) = false := decide_eq_false (by omega)
  by_cases h2 : l.length = 2
  · have hi2 : decide ((l.length : Int) = 2) = true := decide_eq_true (by omega)
    refine at_seq_k (fun K0 hK0 => ?_)
    refine at_region ?_
    refine at_v (ov_assign rfl rfl) rfl rfl rfl ?_
    refine at_nil ?_
    refine at_normal ?_
    refine hK0 _ _ _ ?_
    refine at_seq_k (fun K1 hK1 => ?_)
    refine at_seq_k (fun K2 hK2 => ?_)
    refine at_region ?_
    refine at_v (ov_move rfl rfl) rfl rfl rfl ?_
    refine at_v (ov_len_slice rfl Tryz.underlying36 rfl) rfl rfl rfl ?_
    refine at_v (ov_int rfl rfl rfl rfl) rfl rfl rfl ?_
    refine at_v (ov_move rfl rfl) rfl rfl rfl ?_
    refine at_reval 9 (.bool false) rfl (congrArg Value.bool (decide_eq_false (by omega))) ?_
    refine at_wanted (j := 3) rfl ?_
    refine at_v (ov_move rfl rfl) rfl rfl rfl ?_
    refine at_wanted (j := 3) rfl ?_
    refine at_v (ov_len_slice rfl Tryz.underlying36 rfl) rfl rfl rfl ?_
    refine at_wanted (j := 3) rfl ?_
    refine at_v (ov_int rfl rfl rfl rfl) rfl rfl rfl ?_
    refine at_wanted (j := 3) rfl ?_
    refine at_v (ov_move rfl rfl) rfl rfl rfl ?_
    refine at_reval 13 (.bool true) rfl (congrArg Value.bool (decide_eq_true (by omega))) ?_
    refine at_wanted (j := 7) rfl ?_
    refine at_v (ov_move rfl rfl) rfl rfl rfl ?_
    refine at_wanted (j := 7) rfl ?_
    refine at_t (ot_buildSlice (cs := [_]) rfl Tryz.underlying73 rfl rfl rfl rfl rfl rfl) rfl rfl rfl ?_
    rintro _ _ ⟨g0, rfl, rfl⟩
    refine at_wanted (j := 7) rfl ?_
    refine at_rowOf bsE 0 (size := 1) (c := 1) [wWORK] rfl (fun _ _ => rfl) (by decide) (by decide) (by decide) rfl ?_
    simp only [setAt]
    refine at_reval 15 (.slice (some ⟨g0, 0, none⟩) ([wWORK] : List BL).length 1) rfl rfl ?_
    have hW := fun {B} {d} {d'} => T85a w0 (B := B) (c := c) (d := d) (d' := d') (ws := [wWORK]) hr hm (by decide) 1 (by decide)
    cases hw : wordIn l 1 [wWORK] with
    | true =>
      rw [hw] at hW
      refine at_t (ot_call (ks := [0]) rfl rfl rfl Tryz.call85 rfl (hW ) rfl) rfl rfl rfl ?_
      rintro v0 _ ⟨m0, hp0, rfl⟩
      obtain ⟨rfl, rfl⟩ := hp0
      simp only [List.cons_append, List.nil_append, splice, spliceL]
      refine at_wanted (j := 3) rfl ?_
      refine at_v (ov_pick_t rfl rfl rfl) rfl rfl rfl ?_
      refine at_v (ov_pick_f rfl rfl rfl) rfl rfl rfl ?_
      refine at_nil ?_
      refine at_normal ?_
      refine hK2 _ _ _ ?_
      refine at_cond_true rfl ?_
      refine at_seq_k (fun K3 hK3 => ?_)
      refine at_region ?_
      refine at_v (ov_load rfl rfl rfl (fun _ s => s.ld (k := 1) rfl rfl)) rfl rfl rfl ?_
      refine at_v (ov_assign rfl rfl) rfl rfl rfl ?_
      refine at_nil ?_
      refine at_normal ?_
      refine hK3 _ _ _ ?_
      refine at_ret ?_
      refine at_then_ret ?_
      refine at_end ?_
      refine at_fin (rsV rfl (res_tmp rfl)) ?_
      refine ⟨_, ⟨by simp [endsL, h2, hw], rfl⟩, ?_⟩
      exact fun _ s => s.finEq (ks := [1]) (js := [0]) rfl rfl rfl
    | false =>
      rw [hw] at hW
      refine at_t (ot_call (ks := [0]) rfl rfl rfl Tryz.call85 rfl (hW ) rfl) rfl rfl rfl ?_
      rintro v0 _ ⟨m0, hp0, rfl⟩
      obtain ⟨rfl, rfl⟩ := hp0
      simp only [List.cons_append, List.nil_append, splice, spliceL]
      refine at_wanted (j := 3) rfl ?_
      refine at_v (ov_pick_t rfl rfl rfl) rfl rfl rfl ?_
      refine at_v (ov_pick_f rfl rfl rfl) rfl rfl rfl ?_
      refine at_nil ?_
      refine at_normal ?_
      refine hK2 _ _ _ ?_
      refine at_cond_false rfl ?_
      refine at_skip ?_
      refine at_normal ?_
      refine hK1 _ _ _ ?_
      refine at_seq_k (fun K3 hK3 => ?_)
      refine at_region ?_
      refine at_v (ov_assign rfl rfl) rfl rfl rfl ?_
      refine at_nil ?_
      refine at_normal ?_
      refine hK3 _ _ _ ?_
      refine at_ret ?_
      refine at_end ?_
      refine at_fin (rsV rfl (res_tmp rfl)) ?_
      refine ⟨_, ⟨by simp [endsL, h2, hw], rfl⟩, ?_⟩
      exact fun _ s => s.finEq (ks := [1]) (js := [0]) rfl rfl rfl
  · have hi2 : decide ((l.length : Int) = 2) = false := decide_eq_false (by omega)
    refine at_seq_k (fun K0 hK0 => ?_)
    refine at_region ?_
    refine at_v (ov_assign rfl rfl) rfl rfl rfl ?_
    refine at_nil ?_
    refine at_normal ?_
    refine hK0 _ _ _ ?_
    refine at_seq_k (fun K1 hK1 => ?_)
    refine at_seq_k (fun K2 hK2 => ?_)
    refine at_region ?_
    refine at_v (ov_move rfl rfl) rfl rfl rfl ?_
    refine at_v (ov_len_slice rfl Tryz.underlying36 rfl) rfl rfl rfl ?_
    refine at_v (ov_int rfl rfl rfl rfl) rfl rfl rfl ?_
    refine at_v (ov_move rfl rfl) rfl rfl rfl ?_
    refine at_reval 9 (.bool false) rfl (congrArg Value.bool (decide_eq_false (by omega))) ?_
    refine at_wanted (j := 3) rfl ?_
    refine at_v (ov_move rfl rfl) rfl rfl rfl ?_
    refine at_wanted (j := 3) rfl ?_
    refine at_v (ov_len_slice rfl Tryz.underlying36 rfl) rfl rfl rfl ?_
    refine at_wanted (j := 3) rfl ?_
    refine at_v (ov_int rfl rfl rfl rfl) rfl rfl rfl ?_
    refine at_wanted (j := 3) rfl ?_
    refine at_v (ov_move rfl rfl) rfl rfl rfl ?_
    refine at_reval 13 (.bool false) rfl (congrArg Value.bool (decide_eq_false (by omega))) ?_
    refine at_unwanted (j := 7) rfl rfl rfl rfl ?_
    refine at_unwanted (j := 7) rfl rfl rfl rfl ?_
    refine at_unwanted (j := 7) rfl rfl rfl rfl ?_
    refine at_wanted (j := 3) rfl ?_
    refine at_v (ov_pick_f rfl rfl rfl) rfl rfl rfl ?_
    refine at_v (ov_pick_f rfl rfl rfl) rfl rfl rfl ?_
    refine at_nil ?_
    refine at_normal ?_
    refine hK2 _ _ _ ?_
    refine at_cond_false rfl ?_
    refine at_skip ?_
    refine at_normal ?_
    refine hK1 _ _ _ ?_
    refine at_seq_k (fun K3 hK3 => ?_)
    refine at_region ?_
    refine at_v (ov_assign rfl rfl) rfl rfl rfl ?_
    refine at_nil ?_
    refine at_normal ?_
    refine hK3 _ _ _ ?_
    refine at_ret ?_
    refine at_end ?_
    refine at_fin (rsV rfl (res_tmp rfl)) ?_
    refine ⟨_, ⟨by simp [endsL, h1, h2], rfl⟩, ?_⟩
    exact fun _ s => s.finEq (ks := [0]) (js := []) rfl rfl rfl
theorem T87 (w0 : World) (cv lv : Value) {b : Nat} {k : Int} : Tri Tryz.prog w0 87 [cv, lv, ptrTo b] [cl b #[.int .i64 k] 3] fun v m => v = .int .i64 k ∧ m = [cl b #[.int .i64 k] 3] := by
  refine tri_of Tryz.func87 rfl rfl fun F => ?_
  simp only [Tryz.ntmps87, argEnv, List.cons_append, List.nil_append]
  refine at_seq_k (fun K0 hK0 => ?_)
  refine at_region ?_
  refine at_v (ov_assign rfl rfl) rfl rfl rfl ?_
  refine at_nil ?_
  refine at_normal ?_
  refine hK0 _ _ _ ?_
  refine at_seq_k (fun K1 hK1 => ?_)
  refine at_region ?_
  refine at_v (ov_load rfl rfl rfl (fun _ s => s.ld (k := 0) rfl rfl)) rfl rfl rfl ?_
  refine at_v (ov_assign rfl rfl) rfl rfl rfl ?_
  refine at_nil ?_
  refine at_normal ?_
  refine hK1 _ _ _ ?_
  refine at_ret ?_
  refine at_end ?_
  refine at_fin (rsV rfl (res_tmp rfl)) ?_
  refine ⟨_, ⟨rfl, rfl⟩, ?_⟩
  exact fun _ s => s.finEq (ks := [0]) (js := []) rfl rfl rfl
theorem T57 (w0 : World) (k : Int) : Tri Tryz.prog w0 57 [.int .i64 k] [] fun v m => ∃ b, v = .func (.func 87) #[] #[ptrTo b] ∧ m = [cl b #[.int .i64 k] 3] := by
  refine tri_of Tryz.func57 rfl rfl fun F => ?_
  simp only [Tryz.ntmps57, argEnv, List.nil_append]
  refine at_seq_k (fun K0 hK0 => ?_)
  refine at_region ?_
  refine at_t (ot_box1 rfl rfl rfl) rfl rfl rfl ?_
  rintro _ _ ⟨g0, rfl, rfl⟩
  refine at_v (ov_assign rfl rfl) rfl rfl rfl ?_
  refine at_nil ?_
  refine at_normal ?_
  refine hK0 _ _ _ ?_
  refine at_seq_k (fun K1 hK1 => ?_)
  refine at_region ?_
  refine at_v (ov_makeFunc (first := []) rfl rfl rfl) rfl rfl rfl ?_
  refine at_v (ov_assign rfl rfl) rfl rfl rfl ?_
  refine at_nil ?_
  refine at_normal ?_
  refine hK1 _ _ _ ?_
  refine at_ret ?_
  refine at_end ?_
  refine at_fin (rsV rfl (res_tmp rfl)) ?_
  refine ⟨_, ⟨g0, rfl, rfl⟩, ?_⟩
  exact fun _ s => s.finEq (ks := [0]) (js := []) rfl rfl rfl
theorem T55 (w0 : World) (k : Int) : Tri Tryz.prog w0 55 [.int .i64 k] [] fun v m => ∃ b, v = .func (.func 86) #[] #[ptrTo b] ∧ m = [cl b #[.int .i64 k] 3] := by
  refine tri_of Tryz.func55 rfl rfl fun F => ?_
  simp only [Tryz.ntmps55, argEnv, List.nil_append]
  refine at_seq_k (fun K0 hK0 => ?_)
  refine at_region ?_
  refine at_t (ot_box1 rfl rfl rfl) rfl rfl rfl ?_
  rintro _ _ ⟨g0, rfl, rfl⟩
  refine at_v (ov_assign rfl rfl) rfl rfl rfl ?_
  refine at_nil ?_
  refine at_normal ?_
  refine hK0 _ _ _ ?_
  refine at_seq_k (fun K1 hK1 => ?_)
  refine at_region ?_
  refine at_v (ov_makeFunc (first := []) rfl rfl rfl) rfl rfl rfl ?_
  refine at_v (ov_assign rfl rfl) rfl rfl rfl ?_
  refine at_nil ?_
  refine at_normal ?_
  refine hK1 _ _ _ ?_
  refine at_ret ?_
  refine at_end ?_
  refine at_fin (rsV rfl (res_tmp rfl)) ?_
  refine ⟨_, ⟨g0, rfl, rfl⟩, ?_⟩
  exact fun _ s => s.finEq (ks := [0]) (js := []) rfl rfl rfl
theorem T58 (w0 : World) (cv : Value) {A : Option Addr} {c : Nat} {l : List Tok} (hr : Rd tE w0 2 A l) (hm : l.length ≤ 10000) : Tri Tryz.prog w0 58 [cv, .slice A l.length c] [] fun v m => v = .int .i64 (asksL l) ∧ m = [] := by
  refine tri_of Tryz.func58 rfl rfl fun F => ?_
  simp only [Tryz.ntmps58, argEnv, List.nil_append]
  refine at_seq_k (fun K0 hK0 => ?_)
  refine at_region ?_
  refine at_v (ov_assign rfl rfl) rfl rfl rfl ?_
  refine at_nil ?_
  refine at_normal ?_
  refine hK0 _ _ _ ?_
  refine at_seq_k (fun K1 hK1 => ?_)
  refine at_block ?_
  refine at_seq_k (fun K2 hK2 => ?_)
  refine at_region ?_
  refine at_v (ov_move rfl rfl) rfl rfl rfl ?_
  refine at_t (ot_buildSlice (cs := [_, _, _, _, _, _]) rfl Tryz.underlying73 rfl rfl rfl rfl rfl rfl) rfl rfl rfl ?_
  rintro _ _ ⟨g0, rfl, rfl⟩
  refine at_rowOf bsE 0 (size := 1) (c := 6) writesW rfl (fun _ _ => rfl) (by decide) (by decide) (by decide) rfl ?_
  simp only [setAt]
  refine at_reval 7 (.slice (some ⟨g0, 0, none⟩) writesW.length 6) rfl rfl ?_
  have hH := fun {B} {d} {d'} => T88a w0 (B := B) (c := c) (d := d) (d' := d') (ws := writesW) hr hm (by decide)
  have hH2 := fun {B} {d} {d'} => T88a w0 (B := B) (c := c) (d := d) (d' := d') (ws := [wSELECT]) hr hm (by decide)
  have hW : ∀ {B : Option Addr} {d d' : Nat}, Tri Tryz.prog w0 85 [.slice A l.length c, .int .i64 0, .slice B ([wWITH] : List BL).length d] [Row bsE 9 1 B d' [wWITH]] fun v m => v = .bool (wordIn l 0 [wWITH]) ∧ m = [Row bsE 9 1 B d' [wWITH]] := fun {B} {d} {d'} => T85a w0 (B := B) (c := c) (d := d) (d' := d') (ws := [wWITH]) hr hm (by decide) 0 (by decide)
  cases hh : hasIn l writesW with
  | true =>
    rw [hh] at hH
    refine at_t (ot_call (ks := [0]) rfl rfl rfl Tryz.call88 rfl (hH ) rfl) rfl rfl rfl ?_
    rintro v0 _ ⟨m0, hp0, rfl⟩
    obtain ⟨rfl, rfl⟩ := hp0
    simp only [List.cons_append, List.nil_append, splice, spliceL]
    refine at_v (ov_assign rfl rfl) rfl rfl rfl ?_
    refine at_nil ?_
    refine at_normal ?_
    refine hK2 _ _ _ ?_
    refine at_cond_true rfl ?_
    refine at_seq_k (fun K3 hK3 => ?_)
    refine at_region ?_
    refine at_v (ov_assign rfl rfl) rfl rfl rfl ?_
    refine at_nil ?_
    refine at_normal ?_
    refine hK3 _ _ _ ?_
    refine at_ret ?_
    refine at_inb_ret ?_
    refine at_then_ret ?_
    refine at_end ?_
    refine at_fin (rsV rfl (res_tmp rfl)) ?_
    refine ⟨_, ⟨by simp [asksL, hh], rfl⟩, ?_⟩
    exact fun _ s => s.finEq (ks := []) (js := [0]) rfl rfl rfl
  | false =>
    rw [hh] at hH
    refine at_t (ot_call (ks := [0]) rfl rfl rfl Tryz.call88 rfl (hH ) rfl) rfl rfl rfl ?_
    rintro v0 _ ⟨m0, hp0, rfl⟩
    obtain ⟨rfl, rfl⟩ := hp0
    simp only [List.cons_append, List.nil_append, splice, spliceL]
    refine at_v (ov_assign rfl rfl) rfl rfl rfl ?_
    refine at_nil ?_
    refine at_normal ?_
    refine hK2 _ _ _ ?_
    refine at_cond_false rfl ?_
    refine at_seq_k (fun K3 hK3 => ?_)
    refine at_region ?_
    refine at_v (ov_move rfl rfl) rfl rfl rfl ?_
    refine at_t (ot_buildSlice (cs := [_]) rfl Tryz.underlying73 rfl rfl rfl rfl rfl rfl) rfl rfl rfl ?_
    rintro _ _ ⟨g1, rfl, rfl⟩
    refine at_rowOf bsE 0 (size := 1) (c := 1) [wWITH] rfl (fun _ _ => rfl) (by decide) (by decide) (by decide) rfl ?_
    simp only [setAt]
    refine at_reval 11 (.slice (some ⟨g1, 0, none⟩) ([wWITH] : List BL).length 1) rfl rfl ?_
    cases hw : wordIn l 0 [wWITH] with
    | false =>
      rw [hw] at hW
      refine at_t (ot_call (ks := [0]) rfl rfl rfl Tryz.call85 rfl (hW ) rfl) rfl rfl rfl ?_
      rintro v0 _ ⟨m0, hp0, rfl⟩
      obtain ⟨rfl, rfl⟩ := hp0
      simp only [List.cons_append, List.nil_append, splice, spliceL]
      refine at_v (ov_move rfl rfl) rfl rfl rfl ?_
      refine at_unwanted (j := 3) rfl rfl rfl rfl ?_
      refine at_unwanted (j := 3) rfl rfl rfl rfl ?_
      refine at_unwanted (j := 3) rfl rfl rfl rfl ?_
      refine at_unwanted (j := 3) rfl rfl rfl rfl ?_
      refine at_v (ov_pick_f rfl rfl rfl) rfl rfl rfl ?_
      refine at_v (ov_assign rfl rfl) rfl rfl rfl ?_
      refine at_nil ?_
      refine at_normal ?_
      refine hK3 _ _ _ ?_
      refine at_cond_false rfl ?_
      refine at_skip ?_
      refine at_inb_normal ?_
      refine at_normal ?_
      refine hK1 _ _ _ ?_
      refine at_seq_k (fun K4 hK4 => ?_)
      refine at_region ?_
      refine at_v (ov_assign rfl rfl) rfl rfl rfl ?_
      refine at_nil ?_
      refine at_normal ?_
      refine hK4 _ _ _ ?_
      refine at_ret ?_
      refine at_end ?_
      refine at_fin (rsV rfl (res_tmp rfl)) ?_
      refine ⟨_, ⟨by simp [asksL, hh, hw], rfl⟩, ?_⟩
      exact fun _ s => s.finEq (ks := []) (js := [0, 0]) rfl rfl rfl
    | true =>
      rw [hw] at hW
      refine at_t (ot_call (ks := [0]) rfl rfl rfl Tryz.call85 rfl (hW ) rfl) rfl rfl rfl ?_
      rintro v0 _ ⟨m0, hp0, rfl⟩
      obtain ⟨rfl, rfl⟩ := hp0
      simp only [List.cons_append, List.nil_append, splice, spliceL]
      refine at_v (ov_move rfl rfl) rfl rfl rfl ?_
      refine at_wanted (j := 3) rfl ?_
      refine at_v (ov_move rfl rfl) rfl rfl rfl ?_
      refine at_wanted (j := 3) rfl ?_
      refine at_t (ot_buildSlice (cs := [_]) rfl Tryz.underlying73 rfl rfl rfl rfl rfl rfl) rfl rfl rfl ?_
      rintro _ _ ⟨g2, rfl, rfl⟩
      refine at_wanted (j := 3) rfl ?_
      refine at_rowOf bsE 0 (size := 1) (c := 1) [wSELECT] rfl (fun _ _ => rfl) (by decide) (by decide) (by decide) rfl ?_
      simp only [setAt]
      refine at_reval 15 (.slice (some ⟨g2, 0, none⟩) ([wSELECT] : List BL).length 1) rfl rfl ?_
      cases hs : hasIn l [wSELECT] with
      | true =>
        rw [hs] at hH2
        refine at_t (ot_call (ks := [0]) rfl rfl rfl Tryz.call88 rfl (hH2 ) rfl) rfl rfl rfl ?_
        rintro v0 _ ⟨m0, hp0, rfl⟩
        obtain ⟨rfl, rfl⟩ := hp0
        simp only [List.cons_append, List.nil_append, splice, spliceL]
        refine at_wanted (j := 3) rfl ?_
        refine at_v (ov_not rfl rfl) rfl rfl rfl ?_
        refine at_v (ov_pick_t rfl rfl rfl) rfl rfl rfl ?_
        refine at_v (ov_assign rfl rfl) rfl rfl rfl ?_
        refine at_nil ?_
        refine at_normal ?_
        refine hK3 _ _ _ ?_
        refine at_cond_false rfl ?_
        refine at_skip ?_
        refine at_inb_normal ?_
        refine at_normal ?_
        refine hK1 _ _ _ ?_
        refine at_seq_k (fun K4 hK4 => ?_)
        refine at_region ?_
        refine at_v (ov_assign rfl rfl) rfl rfl rfl ?_
        refine at_nil ?_
        refine at_normal ?_
        refine hK4 _ _ _ ?_
        refine at_ret ?_
        refine at_end ?_
        refine at_fin (rsV rfl (res_tmp rfl)) ?_
        refine ⟨_, ⟨by simp [asksL, hh, hw, hs], rfl⟩, ?_⟩
        exact fun _ s => s.finEq (ks := []) (js := [0, 0, 0]) rfl rfl rfl
      | false =>
        rw [hs] at hH2
        refine at_t (ot_call (ks := [0]) rfl rfl rfl Tryz.call88 rfl (hH2 ) rfl) rfl rfl rfl ?_
        rintro v0 _ ⟨m0, hp0, rfl⟩
        obtain ⟨rfl, rfl⟩ := hp0
        simp only [List.cons_append, List.nil_append, splice, spliceL]
        refine at_wanted (j := 3) rfl ?_
        refine at_v (ov_not rfl rfl) rfl rfl rfl ?_
        refine at_v (ov_pick_t rfl rfl rfl) rfl rfl rfl ?_
        refine at_v (ov_assign rfl rfl) rfl rfl rfl ?_
        refine at_nil ?_
        refine at_normal ?_
        refine hK3 _ _ _ ?_
        refine at_cond_true rfl ?_
        refine at_seq_k (fun K4 hK4 => ?_)
        refine at_region ?_
        refine at_v (ov_assign rfl rfl) rfl rfl rfl ?_
        refine at_nil ?_
        refine at_normal ?_
        refine hK4 _ _ _ ?_
        refine at_ret ?_
        refine at_inb_ret ?_
        refine at_then_ret ?_
        refine at_end ?_
        refine at_fin (rsV rfl (res_tmp rfl)) ?_
        refine ⟨_, ⟨by simp [asksL, hh, hw, hs], rfl⟩, ?_⟩
        exact fun _ s => s.finEq (ks := []) (js := [0, 0, 0]) rfl rfl rfl
end Go.Proofs.YtgclahlbifbgdaaGreatDoor
