/- The reference of lexing, walked: Same, Large; the law's tokens, may. -/
import Derived.Test.YtgclahlbifbgdaaGreatDoorProg
import Derived.Test.YtgclahlbifbgdaaGreatDoorRefLex3
import Derived.Test.YtgclahlbifbgdaaGreatDoorSLStr
import Derived.KernelRfl
set_option linter.unusedSimpArgs false
set_option linter.unusedVariables false
set_option maxRecDepth 100000
namespace Go.Proofs.YtgclahlbifbgdaaGreatDoor
open Go Go.Proofs.YtgclahlbifbgdaaGreatDoor.SL Go.RowKit
def sumT (l : List Tok) : Nat := (l.map fun t => t.2.length + 1).sum
def largeT (l : List Tok) : Bool := decide (2000 < sumT l)
theorem sumT_succ {l : List Tok} {k : Nat} {x : Tok} (h : l[k]? = some x) : sumT (l.take (k + 1)) = sumT (l.take k) + x.2.length + 1 := by
  unfold sumT
  rw [map_take_succ (fun t : Tok => t.2.length + 1) h, List.sum_append]
  simp; omega
theorem sumT_take (l : List Tok) (k : Nat) : sumT (l.take k) ≤ sumT l := by
  unfold sumT
  have : l = l.take k ++ l.drop k := (List.take_append_drop k l).symm
  conv => rhs; rw [this]
  rw [List.map_append, List.sum_append]; omega
theorem sumT_mem {l : List Tok} {t : Tok} (h : t ∈ l) : t.2.length + 1 ≤ sumT l := by
  unfold sumT
  induction l with
  | nil => cases h
  | cons a l ih =>
    simp only [List.map_cons, List.sum_cons]
    rcases List.mem_cons.1 h with rfl | h
    · omega
    · have := ih h; omega
theorem sumT_len (l : List Tok) : l.length ≤ sumT l := by
  unfold sumT
  induction l with
  | nil => simp
  | cons a l ih => simp only [List.map_cons, List.sum_cons, List.length_cons]; omega
theorem T17 (w0 : World) {A : Option Addr} {c : Nat} {l : List Tok} (hr : Rd tE w0 2 A l) (hm : l.length ≤ 1000000000000000000) (hb : ∀ t ∈ l, t.2.length ≤ 1000000000000000000) :
    Tri Tryz.prog w0 17 [.slice A l.length c] [] fun v m => v = .bool (largeT l) ∧ m = [] := by
  refine tri_of Tryz.func17 rfl rfl fun F => ?_
  simp only [Tryz.ntmps17, argEnv, List.nil_append]
  refine at_seq_k (fun K0 hK0 => ?_)
  refine at_region ?_
  refine at_v (ov_assign rfl rfl) rfl rfl rfl ?_
  refine at_nil ?_
  refine at_normal ?_
  refine hK0 _ _ _ ?_
  refine at_seq_k (fun K1 hK1 => ?_)
  refine at_region ?_
  refine at_v (ov_assign rfl rfl) rfl rfl rfl ?_
  refine at_nil ?_
  refine at_normal ?_
  refine hK1 _ _ _ ?_
  refine at_seq_k (fun K2 hK2 => ?_)
  refine at_seq_k (fun K3 hK3 => ?_)
  refine at_region ?_
  refine at_v (ov_assign rfl rfl) rfl rfl rfl ?_
  refine at_nil ?_
  refine at_normal ?_
  refine hK3 _ _ _ ?_
  refine at_block ?_
  refine at_loopE [5, 6, 7, 8, 9, 10, 11, 12, 15, 16, 17, 18, 19, 20, 21, 22, 23, 3, 13, 14, 4] (fun k => k ≤ l.length ∧ sumT (l.take k) ≤ 1000000000000003000) (fun k => [(4, .int .i64 (k : Nat)), (3, .int .i64 (sumT (l.take k) : Nat))]) (fun _ l => l) (fun k => l.length - k) 0 ⟨Nat.zero_le _, by simp [sumT]⟩ ⟨rfl, rfl, trivial⟩ (fun _ s => s) ?_
  rintro k ⟨hk, hs⟩
  rcases Nat.lt_or_ge k l.length with hlt | hge
  · have hi1 : decide ((k : Int) < l.length) = true := decide_eq_true (by omega)
    by_cases hle : sumT (l.take k) ≤ 2000
    · have hi2 : decide ((sumT (l.take k) : Int) ≤ 2000) = true := decide_eq_true (by omega)
      obtain ⟨x, hget⟩ : ∃ x, l[k]? = some x := ⟨_, List.getElem?_eq_getElem hlt⟩
      have hbx := hb x (List.mem_of_getElem? hget)
      have hss := sumT_succ hget
      refine at_seq_k (fun K4 hK4 => ?_)
      refine at_seq_k (fun K5 hK5 => ?_)
      refine at_region ?_
      refine at_v (ov_move rfl rfl) rfl rfl rfl ?_
      refine at_v (ov_move rfl rfl) rfl rfl rfl ?_
      refine at_v (ov_len_slice rfl Tryz.underlying28 rfl) rfl rfl rfl ?_
      refine at_v (ov_int rfl rfl rfl rfl) rfl rfl rfl ?_
      refine at_v (ov_move rfl rfl) rfl rfl rfl ?_
      refine at_reval 9 (.bool true) rfl (congrArg Value.bool (decide_eq_true (by omega))) ?_
      refine at_wanted (j := 4) rfl ?_
      refine at_v (ov_move rfl rfl) rfl rfl rfl ?_
      refine at_wanted (j := 4) rfl ?_
      refine at_v (ov_int rfl rfl rfl rfl) rfl rfl rfl ?_
      refine at_v (ov_pick_t rfl rfl rfl) rfl rfl rfl ?_
      refine at_nil ?_
      refine at_normal ?_
      refine hK5 _ _ _ ?_
      refine at_cond_true (congrArg (fun b => some (Value.bool b)) (show _ = true from decide_eq_true (by omega))) ?_
      refine at_skip ?_
      refine at_normal ?_
      refine hK4 _ _ _ ?_
      refine at_seq_k (fun K6 hK6 => ?_)
      refine at_block ?_
      refine at_region ?_
      refine at_v (ov_move rfl rfl) rfl rfl rfl ?_
      refine at_v (ov_move rfl rfl) rfl rfl rfl ?_
      refine at_v (ov_move rfl rfl) rfl rfl rfl ?_
      refine at_v (ov_indexRd (fun _ s => hr.up s) rfl Tryz.underlying28 rfl rfl rfl hget) rfl rfl rfl ?_
      refine at_v (ov_fieldRd0 (k := 1) (fun _ s => hr.up s) rfl rfl hget rfl) rfl rfl rfl ?_
      refine at_v (ov_loadRd (fun _ s => hr.up s) rfl rfl rfl hget rfl) rfl rfl rfl ?_
      refine at_v (ov_len_strL rfl Tryz.underlying9 rfl) rfl rfl rfl ?_
      refine at_v ((ov_int rfl rfl rfl rfl).eq (congrArg (Value.int .i64) (inK_i64 (by omega) (by omega)))) rfl rfl rfl ?_
      refine at_v ((ov_int rfl rfl rfl rfl).eq (congrArg (Value.int .i64) (inK_i64 (by omega) (by omega)))) rfl rfl rfl ?_
      refine at_v (ov_assign rfl rfl) rfl rfl rfl ?_
      refine at_nil ?_
      refine at_inb_normal ?_
      refine at_normal ?_
      refine hK6 _ _ _ ?_
      refine at_region ?_
      refine at_v (ov_move rfl rfl) rfl rfl rfl ?_
      refine at_v ((ov_int rfl rfl rfl rfl).eq (congrArg (Value.int .i64) (inK_i64 (by omega) (by omega)))) rfl rfl rfl ?_
      refine at_v (ov_assign rfl rfl) rfl rfl rfl ?_
      refine at_nil ?_
      refine at_normal ?_
      refine at_roundF (k + 1) ⟨hlt, by omega⟩ (by omega) ⟨rfl, look_eq rfl (congrArg (Value.int .i64) (by omega)), trivial⟩ rfl ?_
      exact fun _ s => s.finEq (ks := []) (js := []) rfl rfl rfl
    · have hi2 : decide ((sumT (l.take k) : Int) ≤ 2000) = false := decide_eq_false (by omega)
      have hi3 : decide ((sumT (l.take k) : Int) > 2000) = true := decide_eq_true (by omega)
      have := sumT_take l k
      refine at_seq_k (fun K4 hK4 => ?_)
      refine at_seq_k (fun K5 hK5 => ?_)
      refine at_region ?_
      refine at_v (ov_move rfl rfl) rfl rfl rfl ?_
      refine at_v (ov_move rfl rfl) rfl rfl rfl ?_
      refine at_v (ov_len_slice rfl Tryz.underlying28 rfl) rfl rfl rfl ?_
      refine at_v (ov_int rfl rfl rfl rfl) rfl rfl rfl ?_
      refine at_v (ov_move rfl rfl) rfl rfl rfl ?_
      refine at_reval 9 (.bool true) rfl (congrArg Value.bool (decide_eq_true (by omega))) ?_
      refine at_wanted (j := 4) rfl ?_
      refine at_v (ov_move rfl rfl) rfl rfl rfl ?_
      refine at_wanted (j := 4) rfl ?_
      refine at_v (ov_int rfl rfl rfl rfl) rfl rfl rfl ?_
      refine at_v (ov_pick_t rfl rfl rfl) rfl rfl rfl ?_
      refine at_nil ?_
      refine at_normal ?_
      refine hK5 _ _ _ ?_
      refine at_cond_false (congrArg (fun b => some (Value.bool b)) (show _ = false from decide_eq_false (by omega))) ?_
      refine at_exit ?_
      refine at_then_exit ?_
      refine at_then_exit ?_
      refine at_exit_eq ?_
      refine at_normal ?_
      refine hK2 _ _ _ ?_
      refine at_seq_k (fun K6 hK6 => ?_)
      refine at_region ?_
      refine at_v (ov_move rfl rfl) rfl rfl rfl ?_
      refine at_v (ov_int rfl rfl rfl rfl) rfl rfl rfl ?_
      refine at_v (ov_assign rfl rfl) rfl rfl rfl ?_
      refine at_nil ?_
      refine at_normal ?_
      refine hK6 _ _ _ ?_
      refine at_ret ?_
      refine at_end ?_
      refine at_fin (rsV rfl (res_tmp rfl)) ?_
      refine ⟨_, ⟨congrArg Value.bool (hi3.trans (show largeT l = true from decide_eq_true (by omega)).symm), rfl⟩, ?_⟩
      exact fun _ s => s.finEq (ks := []) (js := []) rfl rfl rfl
  · have hi1 : decide ((k : Int) < l.length) = false := decide_eq_false (by omega)
    rw [List.take_of_length_le hge]
    refine at_seq_k (fun K4 hK4 => ?_)
    refine at_seq_k (fun K5 hK5 => ?_)
    refine at_region ?_
    refine at_v (ov_move rfl rfl) rfl rfl rfl ?_
    refine at_v (ov_move rfl rfl) rfl rfl rfl ?_
    refine at_v (ov_len_slice rfl Tryz.underlying28 rfl) rfl rfl rfl ?_
    refine at_v (ov_int rfl rfl rfl rfl) rfl rfl rfl ?_
    refine at_v (ov_move rfl rfl) rfl rfl rfl ?_
    refine at_reval 9 (.bool false) rfl (congrArg Value.bool (decide_eq_false (by omega))) ?_
    refine at_unwanted (j := 4) rfl rfl rfl rfl ?_
    refine at_unwanted (j := 4) rfl rfl rfl rfl ?_
    refine at_v (ov_pick_f rfl rfl rfl) rfl rfl rfl ?_
    refine at_nil ?_
    refine at_normal ?_
    refine hK5 _ _ _ ?_
    refine at_cond_false rfl ?_
    refine at_exit ?_
    refine at_then_exit ?_
    refine at_then_exit ?_
    refine at_exit_eq ?_
    refine at_normal ?_
    refine hK2 _ _ _ ?_
    refine at_seq_k (fun K6 hK6 => ?_)
    refine at_region ?_
    refine at_v (ov_move rfl rfl) rfl rfl rfl ?_
    refine at_v (ov_int rfl rfl rfl rfl) rfl rfl rfl ?_
    refine at_v (ov_assign rfl rfl) rfl rfl rfl ?_
    refine at_nil ?_
    refine at_normal ?_
    refine hK6 _ _ _ ?_
    refine at_ret ?_
    refine at_end ?_
    refine at_fin (rsV rfl (res_tmp rfl)) ?_
    refine ⟨_, ⟨congrArg Value.bool (decide_eq_decide.2 (by omega)), rfl⟩, ?_⟩
    exact fun _ s => s.finEq (ks := []) (js := []) rfl rfl rfl
theorem T17a (w0 : World) {A : Option Addr} {c c' : Nat} {l : List Tok} (hm : l.length ≤ 1000000000000000000) (hb : ∀ t ∈ l, t.2.length ≤ 1000000000000000000) :
    Tri Tryz.prog w0 17 [.slice A l.length c] [Row tE 33 2 A c' l] fun v m => v = .bool (largeT l) ∧ m = [Row tE 33 2 A c' l] :=
  (Tri.of_all fun w s => T17 w (s.rd (k := 0) rfl) hm hb).post fun v m ⟨m', ⟨h1, h2⟩, h3⟩ => ⟨h1, by rw [h3, h2]; rfl⟩
theorem all_take_succ {p : Tok → Bool} {l : List Tok} {k : Nat} {x : Tok} (h : l[k]? = some x) : (l.take (k + 1)).all p = ((l.take k).all p && p x) := by
  rw [List.take_add_one, h]; simp
end Go.Proofs.YtgclahlbifbgdaaGreatDoor
