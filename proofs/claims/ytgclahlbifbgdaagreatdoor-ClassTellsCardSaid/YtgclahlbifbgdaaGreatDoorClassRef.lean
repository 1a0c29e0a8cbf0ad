/- The reference of classing, walked: in, word, has, sign. -/
import Derived.Test.YtgclahlbifbgdaaGreatDoorProg
import Derived.Test.YtgclahlbifbgdaaGreatDoorClass2
import Derived.Test.YtgclahlbifbgdaaGreatDoorSLStr
import Derived.KernelRfl
set_option linter.unusedSimpArgs false
set_option linter.unusedVariables false
set_option maxRecDepth 100000
set_option maxHeartbeats 2000000
namespace Go.Proofs.YtgclahlbifbgdaaGreatDoor
open Go Go.Proofs.YtgclahlbifbgdaaGreatDoor.SL Go.RowKit
/-- Words, each between two spaces. -/
def spaced (ws : List BL) : BL := 32 :: ws.flatMap (· ++ [32])
def inL (w l : BL) : Bool := decide (w ≠ []) && Lib.contains l (32 :: (w ++ [32]))
theorem T48 (w0 : World) (w l : BL) (hw : w.length ≤ 10000) (hl : l.length ≤ 10000) : Tri Tryz.prog w0 48 [SV w, SV l] [] fun v m => v = .bool (inL w l) ∧ m = [] := by
  refine tri_of Tryz.func48 rfl rfl fun F => ?_
  simp only [Tryz.ntmps48, argEnv, List.nil_append]
  by_cases h0 : w = []
  · subst h0
    have hi0 : decide (([] : BL) = []) = true := by simp
    refine at_seq_k (fun K0 hK0 => ?_)
    refine at_region ?_
    refine at_v (ov_assign rfl rfl) rfl rfl rfl ?_
    refine at_nil ?_
    refine at_normal ?_
    refine hK0 _ _ _ ?_
    refine at_seq_k (fun K1 hK1 => ?_)
    refine at_seq_k (fun K2 hK2 => ?_)
    refine at_region ?_
    refine at_v (ov_move rfl rfl) rfl rfl rfl ?_
    refine at_v (ov_strL rfl rfl rfl rfl) rfl rfl rfl ?_
    refine at_nil ?_
    refine at_normal ?_
    refine hK2 _ _ _ ?_
    refine at_cond_true rfl ?_
    refine at_seq_k (fun K3 hK3 => ?_)
    refine at_region ?_
    refine at_v (ov_assign rfl rfl) rfl rfl rfl ?_
    refine at_nil ?_
    refine at_normal ?_
    refine hK3 _ _ _ ?_
    refine at_ret ?_
    refine at_then_ret ?_
    refine at_end ?_
    refine at_fin (rsV rfl (res_tmp rfl)) ?_
    refine ⟨_, ⟨by simp [inL], rfl⟩, ?_⟩
    exact fun _ s => s.finEq (ks := []) (js := []) rfl rfl rfl
  have hi0 : decide (w = ([] : BL)) = false := by simp [h0]
  have e : inL w l = !decide (findL l ([32] ++ w ++ [32]) 0 < 0) := by
    rw [← contains_find]
    simp [inL, h0]
  have ht : ([32] ++ w ++ [32]).length = w.length + 2 := by simp
  obtain ⟨t, htd⟩ : ∃ t, [32] ++ w ++ [32] = t := ⟨_, rfl⟩
  rw [htd] at e ht
  rw [e]
  refine at_seq_k (fun K0 hK0 => ?_)
  refine at_region ?_
  refine at_v (ov_assign rfl rfl) rfl rfl rfl ?_
  refine at_nil ?_
  refine at_normal ?_
  refine hK0 _ _ _ ?_
  refine at_seq_k (fun K1 hK1 => ?_)
  refine at_seq_k (fun K2 hK2 => ?_)
  refine at_region ?_
  refine at_v (ov_move rfl rfl) rfl rfl rfl ?_
  refine at_v (ov_strL rfl rfl rfl rfl) rfl rfl rfl ?_
  refine at_nil ?_
  refine at_normal ?_
  refine hK2 _ _ _ ?_
  refine at_cond_false (congrArg (fun b => some (Value.bool b)) (show _ = false from decide_eq_false (by omega))) ?_
  refine at_skip ?_
  refine at_normal ?_
  refine hK1 _ _ _ ?_
  refine at_seq_k (fun K3 hK3 => ?_)
  refine at_region ?_
  refine at_v (ov_move rfl rfl) rfl rfl rfl ?_
  refine at_v (ov_catL rfl rfl rfl (by first | omega | (simp only [List.length_append, List.length_cons, List.length_nil]; omega))) rfl rfl rfl ?_
  refine at_v (ov_catL rfl rfl rfl (by first | omega | (simp only [List.length_append, List.length_cons, List.length_nil]; omega))) rfl rfl rfl ?_
  refine at_v (ov_assign rfl rfl) rfl rfl rfl ?_
  refine at_nil ?_
  refine at_normal ?_
  refine hK3 _ _ _ ?_
  refine at_seq_k (fun K4 hK4 => ?_)
  refine at_seq_k (fun K5 hK5 => ?_)
  refine at_region ?_
  refine at_v (ov_assign rfl rfl) rfl rfl rfl ?_
  refine at_nil ?_
  refine at_normal ?_
  refine hK5 _ _ _ ?_
  refine at_block ?_
  rw [htd]
  clear htd e
  refine at_loopE [11, 12, 13, 14, 15, 16, 17, 20, 21, 22, 23, 24, 25, 26, 27, 28, 4, 18, 19, 5] (fun k => k ≤ l.length ∧ findL l t 0 = findL l t k) (fun k => [(5, .int .i64 (k : Nat))]) (fun _ m => m) (fun k => l.length - k) 0 ⟨Nat.zero_le _, rfl⟩ ⟨rfl, trivial⟩ (fun _ s => s) ?_
  rintro k ⟨hk, hf⟩
  by_cases h : k + t.length ≤ l.length
  · have hi1 : decide ((k : Int) + t.length ≤ l.length) = true := decide_eq_true (by omega)
    have e : ((k : Int) + t.length).toNat = k + t.length := by omega
    have hpa := hasPrefix_at l t k (by omega)
    simp only [h, decide_true, Bool.true_and] at hpa
    cases hp : Lib.hasPrefix (l.drop k) t with
    | true =>
      rw [hp] at hpa
      have hi2 : decide ((l.take ((k : Int) + t.length).toNat).drop k = t) = true := by rw [e]; exact hpa.symm
      refine at_seq_k (fun K6 hK6 => ?_)
      refine at_seq_k (fun K7 hK7 => ?_)
      refine at_region ?_
      refine at_v (ov_move rfl rfl) rfl rfl rfl ?_
      refine at_v (ov_move rfl rfl) rfl rfl rfl ?_
      refine at_v (ov_len_strL rfl Tryz.underlying9 rfl) rfl rfl rfl ?_
      refine at_v ((ov_int rfl rfl rfl rfl).eq (congrArg (Value.int .i64) (inK_i64 (by omega) (by omega)))) rfl rfl rfl ?_
      refine at_v (ov_move rfl rfl) rfl rfl rfl ?_
      refine at_v (ov_len_strL rfl Tryz.underlying9 rfl) rfl rfl rfl ?_
      refine at_v (ov_int rfl rfl rfl rfl) rfl rfl rfl ?_
      refine at_nil ?_
      refine at_normal ?_
      refine hK7 _ _ _ ?_
      refine at_cond_true (congrArg (fun b => some (Value.bool b)) (show _ = true from decide_eq_true (by omega))) ?_
      refine at_skip ?_
      refine at_normal ?_
      refine hK6 _ _ _ ?_
      refine at_seq_k (fun K8 hK8 => ?_)
      refine at_block ?_
      refine at_seq_k (fun K9 hK9 => ?_)
      refine at_region ?_
      refine at_v (ov_move rfl rfl) rfl rfl rfl ?_
      refine at_v (ov_move rfl rfl) rfl rfl rfl ?_
      refine at_v (ov_move rfl rfl) rfl rfl rfl ?_
      refine at_v (ov_move rfl rfl) rfl rfl rfl ?_
      refine at_v (ov_len_strL rfl Tryz.underlying9 rfl) rfl rfl rfl ?_
      refine at_v ((ov_int rfl rfl rfl rfl).eq (congrArg (Value.int .i64) (inK_i64 (by omega) (by omega)))) rfl rfl rfl ?_
      refine at_v (ov_sliceMidL rfl Tryz.underlying9 rfl rfl rfl rfl rfl (by first | assumption | omega | (simp only [List.length_append, List.length_cons, List.length_nil]; omega) | (simp; done) | (simp; omega)) (by first | assumption | omega | (simp only [List.length_append, List.length_cons, List.length_nil]; omega) | (simp; done) | (simp; omega))) rfl rfl rfl ?_
      refine at_v (ov_move rfl rfl) rfl rfl rfl ?_
      refine at_v (ov_strL rfl rfl rfl rfl) rfl rfl rfl ?_
      refine at_nil ?_
      refine at_normal ?_
      refine hK9 _ _ _ ?_
      refine at_cond_true (congrArg (fun b => some (Value.bool b)) (show _ = true from by first | assumption | (rw [Bool.not_eq_true']; exact decide_eq_false (by omega)))) ?_
      refine at_seq_k (fun K10 hK10 => ?_)
      refine at_region ?_
      refine at_v (ov_assign rfl rfl) rfl rfl rfl ?_
      refine at_nil ?_
      refine at_normal ?_
      refine hK10 _ _ _ ?_
      refine at_ret ?_
      refine at_inb_ret ?_
      refine at_then_ret ?_
      refine at_then_ret ?_
      refine at_inb_ret ?_
      refine at_then_ret ?_
      refine at_end ?_
      refine at_fin (rsV rfl (res_tmp rfl)) ?_
      refine ⟨_, ⟨by rw [hf, findL_hit (by omega) hp, decide_eq_false (by omega)]; rfl, rfl⟩, ?_⟩
      exact fun _ s => s.finEq (ks := []) (js := []) rfl rfl rfl
    | false =>
      rw [hp] at hpa
      have hi2 : decide ((l.take ((k : Int) + t.length).toNat).drop k = t) = false := by rw [e]; exact hpa.symm
      have hst := findL_step (by omega) hp
      refine at_seq_k (fun K6 hK6 => ?_)
      refine at_seq_k (fun K7 hK7 => ?_)
      refine at_region ?_
      refine at_v (ov_move rfl rfl) rfl rfl rfl ?_
      refine at_v (ov_move rfl rfl) rfl rfl rfl ?_
      refine at_v (ov_len_strL rfl Tryz.underlying9 rfl) rfl rfl rfl ?_
      refine at_v ((ov_int rfl rfl rfl rfl).eq (congrArg (Value.int .i64) (inK_i64 (by omega) (by omega)))) rfl rfl rfl ?_
      refine at_v (ov_move rfl rfl) rfl rfl rfl ?_
      refine at_v (ov_len_strL rfl Tryz.underlying9 rfl) rfl rfl rfl ?_
      refine at_v (ov_int rfl rfl rfl rfl) rfl rfl rfl ?_
      refine at_nil ?_
      refine at_normal ?_
      refine hK7 _ _ _ ?_
      refine at_cond_true (congrArg (fun b => some (Value.bool b)) (show _ = true from decide_eq_true (by omega))) ?_
      refine at_skip ?_
      refine at_normal ?_
      refine hK6 _ _ _ ?_
      refine at_seq_k (fun K8 hK8 => ?_)
      refine at_block ?_
      refine at_seq_k (fun K9 hK9 => ?_)
      refine at_region ?_
      refine at_v (ov_move rfl rfl) rfl rfl rfl ?_
      refine at_v (ov_move rfl rfl) rfl rfl rfl ?_
      refine at_v (ov_move rfl rfl) rfl rfl rfl ?_
      refine at_v (ov_move rfl rfl) rfl rfl rfl ?_
      refine at_v (ov_len_strL rfl Tryz.underlying9 rfl) rfl rfl rfl ?_
      refine at_v ((ov_int rfl rfl rfl rfl).eq (congrArg (Value.int .i64) (inK_i64 (by omega) (by omega)))) rfl rfl rfl ?_
      refine at_v (ov_sliceMidL rfl Tryz.underlying9 rfl rfl rfl rfl rfl (by first | assumption | omega | (simp only [List.length_append, List.length_cons, List.length_nil]; omega) | (simp; done) | (simp; omega)) (by first | assumption | omega | (simp only [List.length_append, List.length_cons, List.length_nil]; omega) | (simp; done) | (simp; omega))) rfl rfl rfl ?_
      refine at_v (ov_move rfl rfl) rfl rfl rfl ?_
      refine at_v (ov_strL rfl rfl rfl rfl) rfl rfl rfl ?_
      refine at_nil ?_
      refine at_normal ?_
      refine hK9 _ _ _ ?_
      refine at_cond_false (congrArg (fun b => some (Value.bool b)) (show _ = false from by first | assumption | (rw [Bool.not_eq_false']; exact decide_eq_true (by omega)))) ?_
      refine at_skip ?_
      refine at_inb_normal ?_
      refine at_normal ?_
      refine hK8 _ _ _ ?_
      refine at_region ?_
      refine at_v (ov_move rfl rfl) rfl rfl rfl ?_
      refine at_v ((ov_int rfl rfl rfl rfl).eq (congrArg (Value.int .i64) (inK_i64 (by omega) (by omega)))) rfl rfl rfl ?_
      refine at_v (ov_assign rfl rfl) rfl rfl rfl ?_
      refine at_nil ?_
      refine at_normal ?_
      refine at_roundF (k + 1) ⟨by omega, by rw [hf, hst]⟩ (by omega) ⟨rfl, trivial⟩ rfl ?_
      exact fun _ s => s.finEq (ks := []) (js := []) rfl rfl rfl
  · have hi1 : decide ((k : Int) + t.length ≤ l.length) = false := decide_eq_false (by omega)
    refine at_seq_k (fun K6 hK6 => ?_)
    refine at_seq_k (fun K7 hK7 => ?_)
    refine at_region ?_
    refine at_v (ov_move rfl rfl) rfl rfl rfl ?_
    refine at_v (ov_move rfl rfl) rfl rfl rfl ?_
    refine at_v (ov_len_strL rfl Tryz.underlying9 rfl) rfl rfl rfl ?_
    refine at_v ((ov_int rfl rfl rfl rfl).eq (congrArg (Value.int .i64) (inK_i64 (by omega) (by omega)))) rfl rfl rfl ?_
    refine at_v (ov_move rfl rfl) rfl rfl rfl ?_
    refine at_v (ov_len_strL rfl Tryz.underlying9 rfl) rfl rfl rfl ?_
    refine at_v (ov_int rfl rfl rfl rfl) rfl rfl rfl ?_
    refine at_nil ?_
    refine at_normal ?_
    refine hK7 _ _ _ ?_
    refine at_cond_false (congrArg (fun b => some (Value.bool b)) (show _ = false from decide_eq_false (by omega))) ?_
    refine at_exit ?_
    refine at_then_exit ?_
    refine at_then_exit ?_
    refine at_exit_eq ?_
    refine at_normal ?_
    refine hK4 _ _ _ ?_
    refine at_seq_k (fun K8 hK8 => ?_)
    refine at_region ?_
    refine at_v (ov_assign rfl rfl) rfl rfl rfl ?_
    refine at_nil ?_
    refine at_normal ?_
    refine hK8 _ _ _ ?_
    refine at_ret ?_
    refine at_end ?_
    refine at_fin (rsV rfl (res_tmp rfl)) ?_
    refine ⟨_, ⟨by rw [hf, findL_miss (s := l) (t := t) (i := k) (by omega) (by omega)]; rfl, rfl⟩, ?_⟩
    exact fun _ s => s.finEq (ks := []) (js := []) rfl rfl rfl
/-- The word of a place; or nothing. -/
def wordAt (l : List Tok) (i : Nat) : BL := match l[i]? with | some t => if t.1 = 1 then t.2 else [] | none => []
theorem T47 (w0 : World) {A : Option Addr} {c : Nat} {l : List Tok} (hr : Rd tE w0 2 A l) (hm : l.length ≤ 10000) (i : Nat) (hi : i ≤ 10000) : Tri Tryz.prog w0 47 [.slice A l.length c, .int .i64 (i : Nat)] [] fun v m => v = SV (wordAt l i) ∧ m = [] := by
  refine tri_of Tryz.func47 rfl rfl fun F => ?_
  simp only [Tryz.ntmps47, argEnv, List.nil_append]
  rcases Nat.lt_or_ge i l.length with hlt | hge
  · have hi1 : decide ((i : Int) ≥ l.length) = false := decide_eq_false (by omega)
    obtain ⟨x, hget⟩ : ∃ x, l[i]? = some x := ⟨_, List.getElem?_eq_getElem hlt⟩
    by_cases hk : x.1 = 1
    · have hi2 : (!decide (x.1 = 1)) = false := by simp [hk]
      have e : wordAt l i = x.2 := by unfold wordAt; rw [hget]; simp [hk]
      rw [e]
      refine at_seq_k (fun K0 hK0 => ?_)
      refine at_region ?_
      refine at_v (ov_assign rfl rfl) rfl rfl rfl ?_
      refine at_nil ?_
      refine at_normal ?_
      refine hK0 _ _ _ ?_
      refine at_seq_k (fun K1 hK1 => ?_)
      refine at_seq_k (fun K2 hK2 => ?_)
      refine at_region ?_
      refine at_v (ov_move rfl rfl) rfl rfl rfl ?_
      refine at_v (ov_move rfl rfl) rfl rfl rfl ?_
      refine at_v (ov_len_slice rfl Tryz.underlying28 rfl) rfl rfl rfl ?_
      refine at_v (ov_int rfl rfl rfl rfl) rfl rfl rfl ?_
      refine at_v (ov_move rfl rfl) rfl rfl rfl ?_
      refine at_reval 9 (.bool false) rfl (congrArg Value.bool (decide_eq_false (by omega))) ?_
      refine at_wanted (j := 4) rfl ?_
      refine at_v (ov_move rfl rfl) rfl rfl rfl ?_
      refine at_wanted (j := 4) rfl ?_
      refine at_v (ov_move rfl rfl) rfl rfl rfl ?_
      refine at_wanted (j := 4) rfl ?_
      refine at_v (ov_indexRd (fun _ s => hr.up s) rfl Tryz.underlying28 rfl rfl rfl hget) rfl rfl rfl ?_
      refine at_wanted (j := 4) rfl ?_
      refine at_v (ov_fieldRd0 (k := 0) (fun _ s => hr.up s) rfl rfl hget rfl) rfl rfl rfl ?_
      refine at_wanted (j := 4) rfl ?_
      refine at_v (ov_loadRd0 (fun _ s => hr.up s) rfl rfl rfl hget rfl) rfl rfl rfl ?_
      refine at_wanted (j := 4) rfl ?_
      refine at_v (ov_int rfl rfl rfl rfl) rfl rfl rfl ?_
      refine at_v (ov_pick_f rfl rfl rfl) rfl rfl rfl ?_
      refine at_nil ?_
      refine at_normal ?_
      refine hK2 _ _ _ ?_
      refine at_cond_false (congrArg (fun b => some (Value.bool b)) (show _ = false from by first | assumption | (rw [Bool.not_eq_false']; exact decide_eq_true (by omega)))) ?_
      refine at_skip ?_
      refine at_normal ?_
      refine hK1 _ _ _ ?_
      refine at_seq_k (fun K3 hK3 => ?_)
      refine at_region ?_
      refine at_v (ov_move rfl rfl) rfl rfl rfl ?_
      refine at_v (ov_move rfl rfl) rfl rfl rfl ?_
      refine at_v (ov_indexRd (fun _ s => hr.up s) rfl Tryz.underlying28 rfl rfl rfl hget) rfl rfl rfl ?_
      refine at_v (ov_fieldRd0 (k := 1) (fun _ s => hr.up s) rfl rfl hget rfl) rfl rfl rfl ?_
      refine at_v (ov_loadRd (fun _ s => hr.up s) rfl rfl rfl hget rfl) rfl rfl rfl ?_
      refine at_v (ov_assign rfl rfl) rfl rfl rfl ?_
      refine at_nil ?_
      refine at_normal ?_
      refine hK3 _ _ _ ?_
      refine at_ret ?_
      refine at_end ?_
      refine at_fin (rsV rfl (res_tmp rfl)) ?_
      refine ⟨_, ⟨rfl, rfl⟩, ?_⟩
      exact fun _ s => s.finEq (ks := []) (js := []) rfl rfl rfl
    · have hi2 : (!decide (x.1 = 1)) = true := by simp [hk]
      have e : wordAt l i = [] := by unfold wordAt; rw [hget]; simp [hk]
      rw [e]
      refine at_seq_k (fun K0 hK0 => ?_)
      refine at_region ?_
      refine at_v (ov_assign rfl rfl) rfl rfl rfl ?_
      refine at_nil ?_
      refine at_normal ?_
      refine hK0 _ _ _ ?_
      refine at_seq_k (fun K1 hK1 => ?_)
      refine at_seq_k (fun K2 hK2 => ?_)
      refine at_region ?_
      refine at_v (ov_move rfl rfl) rfl rfl rfl ?_
      refine at_v (ov_move rfl rfl) rfl rfl rfl ?_
      refine at_v (ov_len_slice rfl Tryz.underlying28 rfl) rfl rfl rfl ?_
      refine at_v (ov_int rfl rfl rfl rfl) rfl rfl rfl ?_
      refine at_v (ov_move rfl rfl) rfl rfl rfl ?_
      refine at_reval 9 (.bool false) rfl (congrArg Value.bool (decide_eq_false (by omega))) ?_
      refine at_wanted (j := 4) rfl ?_
      refine at_v (ov_move rfl rfl) rfl rfl rfl ?_
      refine at_wanted (j := 4) rfl ?_
      refine at_v (ov_move rfl rfl) rfl rfl rfl ?_
      refine at_wanted (j := 4) rfl ?_
      refine at_v (ov_indexRd (fun _ s => hr.up s) rfl Tryz.underlying28 rfl rfl rfl hget) rfl rfl rfl ?_
      refine at_wanted (j := 4) rfl ?_
      refine at_v (ov_fieldRd0 (k := 0) (fun _ s => hr.up s) rfl rfl hget rfl) rfl rfl rfl ?_
      refine at_wanted (j := 4) rfl ?_
      refine at_v (ov_loadRd0 (fun _ s => hr.up s) rfl rfl rfl hget rfl) rfl rfl rfl ?_
      refine at_wanted (j := 4) rfl ?_
      refine at_v (ov_int rfl rfl rfl rfl) rfl rfl rfl ?_
      refine at_v (ov_pick_f rfl rfl rfl) rfl rfl rfl ?_
      refine at_nil ?_
      refine at_normal ?_
      refine hK2 _ _ _ ?_
      refine at_cond_true (congrArg (fun b => some (Value.bool b)) (show _ = true from by first | assumption | (rw [Bool.not_eq_true']; exact decide_eq_false (by omega)))) ?_
      refine at_seq_k (fun K3 hK3 => ?_)
      refine at_region ?_
      refine at_v (ov_assign rfl rfl) rfl rfl rfl ?_
      refine at_nil ?_
      refine at_normal ?_
      refine hK3 _ _ _ ?_
      refine at_ret ?_
      refine at_then_ret ?_
      refine at_end ?_
      refine at_fin (rsV rfl (res_tmp rfl)) ?_
      refine ⟨_, ⟨rfl, rfl⟩, ?_⟩
      exact fun _ s => s.finEq (ks := []) (js := []) rfl rfl rfl
  · have hi1 : decide ((i : Int) ≥ l.length) = true := decide_eq_true (by omega)
    have e : wordAt l i = [] := by unfold wordAt; rw [List.getElem?_eq_none hge]
    rw [e]
    refine at_seq_k (fun K0 hK0 => ?_)
    refine at_region ?_
    refine at_v (ov_assign rfl rfl) rfl rfl rfl ?_
    refine at_nil ?_
    refine at_normal ?_
    refine hK0 _ _ _ ?_
    refine at_seq_k (fun K1 hK1 => ?_)
    refine at_seq_k (fun K2 hK2 => ?_)
    refine at_region ?_
    refine at_v (ov_move rfl rfl) rfl rfl rfl ?_
    refine at_v (ov_move rfl rfl) rfl rfl rfl ?_
    refine at_v (ov_len_slice rfl Tryz.underlying28 rfl) rfl rfl rfl ?_
    refine at_v (ov_int rfl rfl rfl rfl) rfl rfl rfl ?_
    refine at_v (ov_move rfl rfl) rfl rfl rfl ?_
    refine at_reval 9 (.bool true) rfl (congrArg Value.bool (decide_eq_true (by omega))) ?_
    refine at_unwanted (j := 4) rfl rfl rfl rfl ?_
    refine at_unwanted (j := 4) rfl rfl rfl rfl ?_
    refine at_unwanted (j := 4) rfl rfl rfl rfl ?_
    refine at_unwanted (j := 4) rfl rfl rfl rfl ?_
    refine at_unwanted (j := 4) rfl rfl rfl rfl ?_
    refine at_unwanted (j := 4) rfl rfl rfl rfl ?_
    refine at_v (ov_pick_t rfl rfl rfl) rfl rfl rfl ?_
    refine at_nil ?_
    refine at_normal ?_
    refine hK2 _ _ _ ?_
    refine at_cond_true rfl ?_
    refine at_seq_k (fun K3 hK3 => ?_)
    refine at_region ?_
    refine at_v (ov_assign rfl rfl) rfl rfl rfl ?_
    refine at_nil ?_
    refine at_normal ?_
    refine hK3 _ _ _ ?_
    refine at_ret ?_
    refine at_then_ret ?_
    refine at_end ?_
    refine at_fin (rsV rfl (res_tmp rfl)) ?_
    refine ⟨_, ⟨rfl, rfl⟩, ?_⟩
    exact fun _ s => s.finEq (ks := []) (js := []) rfl rfl rfl
def hasW (l : List Tok) (s : BL) : Bool := (List.range l.length).any fun i => inL (wordAt l i) s
theorem T49 (w0 : World) {A : Option Addr} {c : Nat} {l : List Tok} (hr : Rd tE w0 2 A l) (hm : l.length ≤ 10000) (ht : ∀ t ∈ l, t.2.length ≤ 10000) (s : BL) (hs : s.length ≤ 10000) : Tri Tryz.prog w0 49 [.slice A l.length c, SV s] [] fun v m => v = .bool (hasW l s) ∧ m = [] := by
  refine tri_of Tryz.func49 rfl rfl fun F => ?_
  simp only [Tryz.ntmps49, argEnv, List.nil_append]
  have hwl : ∀ i, (wordAt l i).length ≤ 10000 := fun i => by
    unfold wordAt
    cases h : l[i]? with
    | none => simp
    | some x => simp only; split; exact ht x (List.mem_of_getElem? h); simp
  refine at_seq_k (fun K0 hK0 => ?_)
  refine at_region ?_
  refine at_v (ov_assign rfl rfl) rfl rfl rfl ?_
  refine at_nil ?_
  refine at_normal ?_
  refine hK0 _ _ _ ?_
  refine at_seq_k (fun K1 hK1 => ?_)
  refine at_seq_k (fun K2 hK2 => ?_)
  refine at_region ?_
  refine at_v (ov_assign rfl rfl) rfl rfl rfl ?_
  refine at_nil ?_
  refine at_normal ?_
  refine hK2 _ _ _ ?_
  refine at_block ?_
  refine at_loopE [6, 7, 8, 9, 12, 13, 14, 15, 16, 4, 10, 11, 5] (fun k => k ≤ l.length ∧ ((List.range k).any fun i => inL (wordAt l i) s) = false) (fun k => [(5, .int .i64 (k : Nat))]) (fun _ m => m) (fun k => l.length - k) 0 ⟨Nat.zero_le _, rfl⟩ ⟨rfl, trivial⟩ (fun _ s => s) ?_
  rintro k ⟨hk, hb⟩
  rcases Nat.lt_or_ge k l.length with hlt | hge
  · have hi1 : decide ((k : Int) < l.length) = true := decide_eq_true (by omega)
    have hW := T47 w0 (c := c) hr hm k (by omega)
    have hI := T48 w0 (wordAt l k) s (hwl k) hs
    cases hw : inL (wordAt l k) s with
    | true =>
      rw [hw] at hI
      have hall : hasW l s = true := by
        unfold hasW
        rw [List.any_eq_true]
        exact ⟨k, List.mem_range.2 hlt, hw⟩
      refine at_seq_k (fun K3 hK3 => ?_)
      refine at_seq_k (fun K4 hK4 => ?_)
      refine at_region ?_
      refine at_v (ov_move rfl rfl) rfl rfl rfl ?_
      refine at_v (ov_move rfl rfl) rfl rfl rfl ?_
      refine at_v (ov_len_slice rfl Tryz.underlying28 rfl) rfl rfl rfl ?_
      refine at_v (ov_int rfl rfl rfl rfl) rfl rfl rfl ?_
      refine at_nil ?_
      refine at_normal ?_
      refine hK4 _ _ _ ?_
      refine at_cond_true (congrArg (fun b => some (Value.bool b)) (show _ = true from decide_eq_true (by omega))) ?_
      refine at_skip ?_
      refine at_normal ?_
      refine hK3 _ _ _ ?_
      refine at_seq_k (fun K5 hK5 => ?_)
      refine at_block ?_
      refine at_seq_k (fun K6 hK6 => ?_)
      refine at_region ?_
      refine at_v (ov_move rfl rfl) rfl rfl rfl ?_
      refine at_v (ov_move rfl rfl) rfl rfl rfl ?_
      refine at_t (ot_call (ks := []) rfl rfl rfl Tryz.call47 rfl (hW ) rfl) rfl rfl rfl ?_
      rintro v0 _ ⟨m0, hp0, rfl⟩
      obtain ⟨rfl, rfl⟩ := hp0
      simp only [List.cons_append, List.nil_append, splice, spliceL]
      refine at_v (ov_move rfl rfl) rfl rfl rfl ?_
      refine at_t (ot_call (ks := []) rfl rfl rfl Tryz.call48 rfl (hI ) rfl) rfl rfl rfl ?_
      rintro v0 _ ⟨m0, hp0, rfl⟩
      obtain ⟨rfl, rfl⟩ := hp0
      simp only [List.cons_append, List.nil_append, splice, spliceL]
      refine at_nil ?_
      refine at_normal ?_
      refine hK6 _ _ _ ?_
      refine at_cond_true rfl ?_
      refine at_seq_k (fun K7 hK7 => ?_)
      refine at_region ?_
      refine at_v (ov_assign rfl rfl) rfl rfl rfl ?_
      refine at_nil ?_
      refine at_normal ?_
      refine hK7 _ _ _ ?_
      refine at_ret ?_
      refine at_inb_ret ?_
      refine at_then_ret ?_
      refine at_then_ret ?_
      refine at_inb_ret ?_
      refine at_then_ret ?_
      refine at_end ?_
      refine at_fin (rsV rfl (res_tmp rfl)) ?_
      refine ⟨_, ⟨by rw [hall], rfl⟩, ?_⟩
      exact fun _ s => s.finEq (ks := []) (js := []) rfl rfl rfl
    | false =>
      rw [hw] at hI
      refine at_seq_k (fun K3 hK3 => ?_)
      refine at_seq_k (fun K4 hK4 => ?_)
      refine at_region ?_
      refine at_v (ov_move rfl rfl) rfl rfl rfl ?_
      refine at_v (ov_move rfl rfl) rfl rfl rfl ?_
      refine at_v (ov_len_slice rfl Tryz.underlying28 rfl) rfl rfl rfl ?_
      refine at_v (ov_int rfl rfl rfl rfl) rfl rfl rfl ?_
      refine at_nil ?_
      refine at_normal ?_
      refine hK4 _ _ _ ?_
      refine at_cond_true (congrArg (fun b => some (Value.bool b)) (show _ = true from decide_eq_true (by omega))) ?_
      refine at_skip ?_
      refine at_normal ?_
      refine hK3 _ _ _ ?_
      refine at_seq_k (fun K5 hK5 => ?_)
      refine at_block ?_
      refine at_seq_k (fun K6 hK6 => ?_)
      refine at_region ?_
      refine at_v (ov_move rfl rfl) rfl rfl rfl ?_
      refine at_v (ov_move rfl rfl) rfl rfl rfl ?_
      refine at_t (ot_call (ks := []) rfl rfl rfl Tryz.call47 rfl (hW ) rfl) rfl rfl rfl ?_
      rintro v0 _ ⟨m0, hp0, rfl⟩
      obtain ⟨rfl, rfl⟩ := hp0
      simp only [List.cons_append, List.nil_append, splice, spliceL]
      refine at_v (ov_move rfl rfl) rfl rfl rfl ?_
      refine at_t (ot_call (ks := []) rfl rfl rfl Tryz.call48 rfl (hI ) rfl) rfl rfl rfl ?_
      rintro v0 _ ⟨m0, hp0, rfl⟩
      obtain ⟨rfl, rfl⟩ := hp0
      simp only [List.cons_append, List.nil_append, splice, spliceL]
      refine at_nil ?_
      refine at_normal ?_
      refine hK6 _ _ _ ?_
      refine at_cond_false rfl ?_
      refine at_skip ?_
      refine at_inb_normal ?_
      refine at_normal ?_
      refine hK5 _ _ _ ?_
      refine at_region ?_
      refine at_v (ov_move rfl rfl) rfl rfl rfl ?_
      refine at_v ((ov_int rfl rfl rfl rfl).eq (congrArg (Value.int .i64) (inK_i64 (by omega) (by omega)))) rfl rfl rfl ?_
      refine at_v (ov_assign rfl rfl) rfl rfl rfl ?_
      refine at_nil ?_
      refine at_normal ?_
      refine at_roundF (k + 1) ⟨hlt, by rw [List.range_succ, List.any_append, hb]; simp [hw]⟩ (by omega) ⟨rfl, trivial⟩ rfl ?_
      exact fun _ s => s.finEq (ks := []) (js := []) rfl rfl rfl
  · have hi1 : decide ((k : Int) < l.length) = false := decide_eq_false (by omega)
    have hkl : k = l.length := by omega
    subst hkl
    refine at_seq_k (fun K3 hK3 => ?_)
    refine at_seq_k (fun K4 hK4 => ?_)
    refine at_region ?_
    refine at_v (ov_move rfl rfl) rfl rfl rfl ?_
    refine at_v (ov_move rfl rfl) rfl rfl rfl ?_
    refine at_v (ov_len_slice rfl Tryz.underlying28 rfl) rfl rfl rfl ?_
    refine at_v (ov_int rfl rfl rfl rfl) rfl rfl rfl ?_
    refine at_nil ?_
    refine at_normal ?_
    refine hK4 _ _ _ ?_
    refine at_cond_false (congrArg (fun b => some (Value.bool b)) (show _ = false from decide_eq_false (by omega))) ?_
    refine at_exit ?_
    refine at_then_exit ?_
    refine at_then_exit ?_
    refine at_exit_eq ?_
    refine at_normal ?_
    refine hK1 _ _ _ ?_
    refine at_seq_k (fun K5 hK5 => ?_)
    refine at_region ?_
    refine at_v (ov_assign rfl rfl) rfl rfl rfl ?_
    refine at_nil ?_
    refine at_normal ?_
    refine hK5 _ _ _ ?_
    refine at_ret ?_
    refine at_end ?_
    refine at_fin (rsV rfl (res_tmp rfl)) ?_
    refine ⟨_, ⟨by unfold hasW; rw [hb], rfl⟩, ?_⟩
    exact fun _ s => s.finEq (ks := []) (js := []) rfl rfl rfl
theorem T28 (w0 : World) (t : Tok) : Tri Tryz.prog w0 28 [.agg #[.int .i64 t.1, SV t.2]] [] fun v m => v = .bool (decide (t = signL)) ∧ m = [] := by
  refine tri_of Tryz.func28 rfl rfl fun F => ?_
  simp only [Tryz.ntmps28, argEnv, List.nil_append]
  obtain ⟨k, s⟩ := t
  by_cases h1 : k = 6
  · have hi1 : decide (k = 6) = true := decide_eq_true h1
    have e : decide ((k, s) = signL) = decide (s = [59]) := by subst h1; exact decide_eq_decide.2 ⟨fun h => (Prod.mk.inj h).2, fun h => by rw [h]; rfl⟩
    rw [e]
    refine at_seq_k (fun K0 hK0 => ?_)
    refine at_region ?_
    refine at_t (ot_boxA rfl rfl) rfl rfl rfl ?_
    rintro _ _ ⟨g0, rfl, rfl⟩
    refine at_v (ov_assign rfl rfl) rfl rfl rfl ?_
    refine at_nil ?_
    refine at_normal ?_
    refine hK0 _ _ _ ?_
    refine at_seq_k (fun K1 hK1 => ?_)
    refine at_region ?_
    refine at_v (ov_fieldAddr (k := 0) (r := 0) rfl rfl rfl rfl) rfl rfl rfl ?_
    refine at_v (ov_load rfl rfl rfl (fun _ s => s.ld (k := 0) rfl rfl)) rfl rfl rfl ?_
    refine at_v (ov_int rfl rfl rfl rfl) rfl rfl rfl ?_
    refine at_v (ov_move rfl rfl) rfl rfl rfl ?_
    refine at_reval 6 (.bool true) rfl (congrArg Value.bool (decide_eq_true (by omega))) ?_
    refine at_wanted (j := 3) rfl ?_
    refine at_v (ov_fieldAddr (k := 1) (r := 1) rfl rfl rfl rfl) rfl rfl rfl ?_
    refine at_wanted (j := 3) rfl ?_
    refine at_v (ov_load rfl rfl rfl (fun _ s => s.ld (k := 0) rfl rfl)) rfl rfl rfl ?_
    refine at_wanted (j := 3) rfl ?_
    refine at_v (ov_strL rfl rfl rfl rfl) rfl rfl rfl ?_
    refine at_v (ov_pick_t rfl rfl rfl) rfl rfl rfl ?_
    refine at_v (ov_assign rfl rfl) rfl rfl rfl ?_
    refine at_nil ?_
    refine at_normal ?_
    refine hK1 _ _ _ ?_
    refine at_ret ?_
    refine at_end ?_
    refine at_fin (rsV rfl (res_tmp rfl)) ?_
    refine ⟨_, ⟨rfl, rfl⟩, ?_⟩
    exact fun _ s => s.finEq (ks := []) (js := [0]) rfl rfl rfl
  · have hi1 : decide (k = 6) = false := decide_eq_false h1
    have e : decide ((k, s) = signL) = false := decide_eq_false fun h => h1 (Prod.mk.inj h).1
    rw [e]
    refine at_seq_k (fun K0 hK0 => ?_)
    refine at_region ?_
    refine at_t (ot_boxA rfl rfl) rfl rfl rfl ?_
    rintro _ _ ⟨g0, rfl, rfl⟩
    refine at_v (ov_assign rfl rfl) rfl rfl rfl ?_
    refine at_nil ?_
    refine at_normal ?_
    refine hK0 _ _ _ ?_
    refine at_seq_k (fun K1 hK1 => ?_)
    refine at_region ?_
    refine at_v (ov_fieldAddr (k := 0) (r := 0) rfl rfl rfl rfl) rfl rfl rfl ?_
    refine at_v (ov_load rfl rfl rfl (fun _ s => s.ld (k := 0) rfl rfl)) rfl rfl rfl ?_
    refine at_v (ov_int rfl rfl rfl rfl) rfl rfl rfl ?_
    refine at_v (ov_move rfl rfl) rfl rfl rfl ?_
    refine at_reval 6 (.bool false) rfl (congrArg Value.bool (decide_eq_false (by omega))) ?_
    refine at_unwanted (j := 3) rfl rfl rfl rfl ?_
    refine at_unwanted (j := 3) rfl rfl rfl rfl ?_
    refine at_unwanted (j := 3) rfl rfl rfl rfl ?_
    refine at_v (ov_pick_f rfl rfl rfl) rfl rfl rfl ?_
    refine at_v (ov_assign rfl rfl) rfl rfl rfl ?_
    refine at_nil ?_
    refine at_normal ?_
    refine hK1 _ _ _ ?_
    refine at_ret ?_
    refine at_end ?_
    refine at_fin (rsV rfl (res_tmp rfl)) ?_
    refine ⟨_, ⟨rfl, rfl⟩, ?_⟩
    exact fun _ s => s.finEq (ks := []) (js := [0]) rfl rfl rfl
end Go.Proofs.YtgclahlbifbgdaaGreatDoor
