/- The reference of lexing, walked: Same, Large; the law's tokens, may. -/
import Derived.Test.YtfnbdgmeieilhaaDoorProg
import Derived.Test.YtfnbdgmeieilhaaDoorRefLex3
import Derived.Test.YtfnbdgmeieilhaaDoorSLStr
import Derived.KernelRfl
set_option linter.unusedSimpArgs false
set_option linter.unusedVariables false
set_option maxRecDepth 100000
namespace Go.Proofs.YtfnbdgmeieilhaaDoor
open Go Go.Proofs.YtfnbdgmeieilhaaDoor.SL Go.RowKit
theorem T11 (w0 : World) {A B : Option Addr} {c d : Nat} {xs ys : List Tok} (hr : Rd tE w0 2 A xs) (hr2 : Rd tE w0 2 B ys) (hm : xs.length ≤ 1000000000000000000) (hm2 : ys.length ≤ 1000000000000000000) :
    Tri Tryd.prog w0 11 [.slice A xs.length c, .slice B ys.length d] [] fun v m => v = .bool (decide (xs = ys)) ∧ m = [] := by
  refine tri_of Tryd.func11 rfl rfl fun F => ?_
  simp only [Tryd.ntmps11, argEnv, List.nil_append]
  by_cases hil : xs.length = ys.length
  · refine at_seq_k (fun K0 hK0 => ?_)
    refine at_region ?_
    refine at_v (ov_assign rfl rfl) rfl rfl rfl ?_
    refine at_nil ?_
    refine at_normal ?_
    refine hK0 _ _ _ ?_
    refine at_seq_k (fun K1 hK1 => ?_)
    refine at_seq_k (fun K2 hK2 => ?_)
    refine at_region ?_
    refine at_v (ov_move rfl rfl) rfl rfl rfl ?_
    refine at_v (ov_len_slice rfl Tryd.underlying27 rfl) rfl rfl rfl ?_
    refine at_v (ov_move rfl rfl) rfl rfl rfl ?_
    refine at_v (ov_len_slice rfl Tryd.underlying27 rfl) rfl rfl rfl ?_
    refine at_v (ov_int rfl rfl rfl rfl) rfl rfl rfl ?_
    refine at_nil ?_
    refine at_normal ?_
    refine hK2 _ _ _ ?_
    refine at_cond_false (congrArg (fun b => some (Value.bool b)) (show _ = false from by first | assumption | (rw [Bool.not_eq_false']; exact decide_eq_true (by omega)))) ?_
    refine at_skip ?_
    refine at_normal ?_
    refine hK1 _ _ _ ?_
    refine at_seq_k (fun K3 hK3 => ?_)
    refine at_seq_k (fun K4 hK4 => ?_)
    refine at_region ?_
    refine at_v (ov_assign rfl rfl) rfl rfl rfl ?_
    refine at_nil ?_
    refine at_normal ?_
    refine hK4 _ _ _ ?_
    refine at_block ?_
    refine at_loopE [11, 12, 13, 14, 17, 18, 19, 20, 21, 22, 23, 24, 25, 4, 15, 16, 5] (fun k => k ≤ xs.length ∧ xs.take k = ys.take k) (fun k => [(5, .int .i64 (k : Nat))]) (fun _ l => l) (fun k => xs.length - k) 0 ⟨Nat.zero_le _, rfl⟩ ⟨rfl, trivial⟩ (fun _ s => s) ?_
    rintro k ⟨hk, hb⟩
    rcases Nat.lt_or_ge k xs.length with hlt | hge
    · have hi1 : decide ((k : Int) < xs.length) = true := decide_eq_true (by omega)
      obtain ⟨x, hget⟩ : ∃ x, xs[k]? = some x := ⟨_, List.getElem?_eq_getElem hlt⟩
      obtain ⟨y, hget2⟩ : ∃ y, ys[k]? = some y := ⟨_, List.getElem?_eq_getElem (by omega)⟩
      have hd : (decide (x.1 = y.1) && decide ((⟨x.2.toArray⟩ : ByteArray) = ⟨y.2.toArray⟩)) = decide (x = y) := by
        rw [ba_dec, tok_eq]
      by_cases he : x = y
      · have hi2 : (!(decide (x.1 = y.1) && decide ((⟨x.2.toArray⟩ : ByteArray) = ⟨y.2.toArray⟩))) = false := by rw [hd, decide_eq_true he]; rfl
        refine at_seq_k (fun K5 hK5 => ?_)
        refine at_seq_k (fun K6 hK6 => ?_)
        refine at_region ?_
        refine at_v (ov_move rfl rfl) rfl rfl rfl ?_
        refine at_v (ov_move rfl rfl) rfl rfl rfl ?_
        refine at_v (ov_len_slice rfl Tryd.underlying27 rfl) rfl rfl rfl ?_
        refine at_v (ov_int rfl rfl rfl rfl) rfl rfl rfl ?_
        refine at_nil ?_
        refine at_normal ?_
        refine hK6 _ _ _ ?_
        refine at_cond_true (congrArg (fun b => some (Value.bool b)) (show _ = true from decide_eq_true (by omega))) ?_
        refine at_skip ?_
        refine at_normal ?_
        refine hK5 _ _ _ ?_
        refine at_seq_k (fun K7 hK7 => ?_)
        refine at_block ?_
        refine at_seq_k (fun K8 hK8 => ?_)
        refine at_draw _ [] 1000 [(2, 0), (2, 1), (1, 2), (1, 3), (2, 4), (2, 5), (1, 6), (1, 7), (2, 8)] (by kernel_rfl) (by kernel_rfl) (fun _ s => (s.pulls (ks := []) rfl).left) ?_
        refine aq_p (ov_move rfl rfl) rfl rfl rfl ?_
        refine aq_p (ov_move rfl rfl) rfl rfl rfl ?_
        refine aq_v (ov_indexRd (fun _ s => hr.up s) rfl Tryd.underlying27 rfl rfl rfl hget) rfl rfl rfl ?_
        refine aq_v (ov_loadRdS (vs := [_, _]) (fun _ s => hr.up s) rfl rfl rfl hget rfl rfl) rfl rfl rfl ?_
        refine aq_p (ov_move rfl rfl) rfl rfl rfl ?_
        refine aq_p (ov_move rfl rfl) rfl rfl rfl ?_
        refine aq_v (ov_indexRd (fun _ s => hr2.up s) rfl Tryd.underlying27 rfl rfl rfl hget2) rfl rfl rfl ?_
        refine aq_v (ov_loadRdS (vs := [_, _]) (fun _ s => hr2.up s) rfl rfl rfl hget2 rfl rfl) rfl rfl rfl ?_
        refine aq_p (ov_neS rfl (by kernel_rfl) rfl rfl rfl rfl) rfl rfl rfl ?_
        refine aq_nil ?_
        refine at_normal ?_
        refine hK8 _ _ _ ?_
        refine at_cond_false (congrArg (fun b => some (Value.bool b)) (show _ = false from by first | assumption | (rw [Bool.not_eq_false']; exact decide_eq_true (by omega)))) ?_
        refine at_skip ?_
        refine at_inb_normal ?_
        refine at_normal ?_
        refine hK7 _ _ _ ?_
        refine at_region ?_
        refine at_v (ov_move rfl rfl) rfl rfl rfl ?_
        refine at_v ((ov_int rfl rfl rfl rfl).eq (congrArg (Value.int .i64) (inK_i64 (by omega) (by omega)))) rfl rfl rfl ?_
        refine at_v (ov_assign rfl rfl) rfl rfl rfl ?_
        refine at_nil ?_
        refine at_normal ?_
        refine at_roundF (k + 1) ⟨hlt, by rw [List.take_add_one, List.take_add_one, hget, hget2, he, hb]⟩ (by omega) ⟨rfl, trivial⟩ rfl ?_
        exact fun _ s => s.finEq (ks := []) (js := []) rfl rfl rfl
      · have hi2 : (!(decide (x.1 = y.1) && decide ((⟨x.2.toArray⟩ : ByteArray) = ⟨y.2.toArray⟩))) = true := by rw [hd, decide_eq_false he]; rfl
        have hne : ¬ xs = ys := fun e => by subst e; rw [hget] at hget2; exact he (Option.some.inj hget2)
        refine at_seq_k (fun K5 hK5 => ?_)
        refine at_seq_k (fun K6 hK6 => ?_)
        refine at_region ?_
        refine at_v (ov_move rfl rfl) rfl rfl rfl ?_
        refine at_v (ov_move rfl rfl) rfl rfl rfl ?_
        refine at_v (ov_len_slice rfl Tryd.underlying27 rfl) rfl rfl rfl ?_
        refine at_v (ov_int rfl rfl rfl rfl) rfl rfl rfl ?_
        refine at_nil ?_
        refine at_normal ?_
        refine hK6 _ _ _ ?_
        refine at_cond_true (congrArg (fun b => some (Value.bool b)) (show _ = true from decide_eq_true (by omega))) ?_
        refine at_skip ?_
        refine at_normal ?_
        refine hK5 _ _ _ ?_
        refine at_seq_k (fun K7 hK7 => ?_)
        refine at_block ?_
        refine at_seq_k (fun K8 hK8 => ?_)
        refine at_draw _ [] 1000 [(2, 0), (2, 1), (1, 2), (1, 3), (2, 4), (2, 5), (1, 6), (1, 7), (2, 8)] (by kernel_rfl) (by kernel_rfl) (fun _ s => (s.pulls (ks := []) rfl).left) ?_
        refine aq_p (ov_move rfl rfl) rfl rfl rfl ?_
        refine aq_p (ov_move rfl rfl) rfl rfl rfl ?_
        refine aq_v (ov_indexRd (fun _ s => hr.up s) rfl Tryd.underlying27 rfl rfl rfl hget) rfl rfl rfl ?_
        refine aq_v (ov_loadRdS (vs := [_, _]) (fun _ s => hr.up s) rfl rfl rfl hget rfl rfl) rfl rfl rfl ?_
        refine aq_p (ov_move rfl rfl) rfl rfl rfl ?_
        refine aq_p (ov_move rfl rfl) rfl rfl rfl ?_
        refine aq_v (ov_indexRd (fun _ s => hr2.up s) rfl Tryd.underlying27 rfl rfl rfl hget2) rfl rfl rfl ?_
        refine aq_v (ov_loadRdS (vs := [_, _]) (fun _ s => hr2.up s) rfl rfl rfl hget2 rfl rfl) rfl rfl rfl ?_
        refine aq_p (ov_neS rfl (by kernel_rfl) rfl rfl rfl rfl) rfl rfl rfl ?_
        refine aq_nil ?_
        refine at_normal ?_
        refine hK8 _ _ _ ?_
        refine at_cond_true (congrArg (fun b => some (Value.bool b)) (show _ = true from by first | assumption | (rw [Bool.not_eq_true']; exact decide_eq_false (by omega)))) ?_
        refine at_seq_k (fun K9 hK9 => ?_)
        refine at_region ?_
        refine at_v (ov_assign rfl rfl) rfl rfl rfl ?_
        refine at_nil ?_
        refine at_normal ?_
        refine hK9 _ _ _ ?_
        refine at_ret ?_
        refine at_inb_ret ?_
        refine at_then_ret ?_
        refine at_then_ret ?_
        refine at_inb_ret ?_
        refine at_then_ret ?_
        refine at_end ?_
        refine at_fin (rsV rfl (res_tmp rfl)) ?_
        refine ⟨_, ⟨by simp [hne], rfl⟩, ?_⟩
        exact fun _ s => s.finEq (ks := []) (js := []) rfl rfl rfl
    · have hi1 : decide ((k : Int) < xs.length) = false := decide_eq_false (by omega)
      rw [List.take_of_length_le hge, List.take_of_length_le (by omega)] at hb
      refine at_seq_k (fun K5 hK5 => ?_)
      refine at_seq_k (fun K6 hK6 => ?_)
      refine at_region ?_
      refine at_v (ov_move rfl rfl) rfl rfl rfl ?_
      refine at_v (ov_move rfl rfl) rfl rfl rfl ?_
      refine at_v (ov_len_slice rfl Tryd.underlying27 rfl) rfl rfl rfl ?_
      refine at_v (ov_int rfl rfl rfl rfl) rfl rfl rfl ?_
      refine at_nil ?_
      refine at_normal ?_
      refine hK6 _ _ _ ?_
      refine at_cond_false (congrArg (fun b => some (Value.bool b)) (show _ = false from decide_eq_false (by omega))) ?_
      refine at_exit ?_
      refine at_then_exit ?_
      refine at_then_exit ?_
      refine at_exit_eq ?_
      refine at_normal ?_
      refine hK3 _ _ _ ?_
      refine at_seq_k (fun K7 hK7 => ?_)
      refine at_region ?_
      refine at_v (ov_assign rfl rfl) rfl rfl rfl ?_
      refine at_nil ?_
      refine at_normal ?_
      refine hK7 _ _ _ ?_
      refine at_ret ?_
      refine at_end ?_
      refine at_fin (rsV rfl (res_tmp rfl)) ?_
      refine ⟨_, ⟨by simp [hb], rfl⟩, ?_⟩
      exact fun _ s => s.finEq (ks := []) (js := []) rfl rfl rfl
  · have hne : ¬ xs = ys := fun e => hil (by rw [e])
    have hi1 : (!decide ((xs.length : Int) = ys.length)) = true := by simp; omega
    refine at_seq_k (fun K0 hK0 => ?_)
    refine at_region ?_
    refine at_v (ov_assign rfl rfl) rfl rfl rfl ?_
    refine at_nil ?_
    refine at_normal ?_
    refine hK0 _ _ _ ?_
    refine at_seq_k (fun K1 hK1 => ?_)
    refine at_seq_k (fun K2 hK2 => ?_)
    refine at_region ?_
    refine at_v (ov_move rfl rfl) rfl rfl rfl ?_
    refine at_v (ov_len_slice rfl Tryd.underlying27 rfl) rfl rfl rfl ?_
    refine at_v (ov_move rfl rfl) rfl rfl rfl ?_
    refine at_v (ov_len_slice rfl Tryd.underlying27 rfl) rfl rfl rfl ?_
    refine at_v (ov_int rfl rfl rfl rfl) rfl rfl rfl ?_
    refine at_nil ?_
    refine at_normal ?_
    refine hK2 _ _ _ ?_
    refine at_cond_true (congrArg (fun b => some (Value.bool b)) (show _ = true from by first | assumption | (rw [Bool.not_eq_true']; exact decide_eq_false (by omega)))) ?_
    refine at_seq_k (fun K3 hK3 => ?_)
    refine at_region ?_
    refine at_v (ov_assign rfl rfl) rfl rfl rfl ?_
    refine at_nil ?_
    refine at_normal ?_
    refine hK3 _ _ _ ?_
    refine at_ret ?_
    refine at_then_ret ?_
    refine at_end ?_
    refine at_fin (rsV rfl (res_tmp rfl)) ?_
    refine ⟨_, ⟨by simp [hne], rfl⟩, ?_⟩
    exact fun _ s => s.finEq (ks := []) (js := []) rfl rfl rfl
theorem T11a (w0 : World) {A B : Option Addr} {c d c' d' : Nat} {xs ys : List Tok} (hm : xs.length ≤ 1000000000000000000) (hm2 : ys.length ≤ 1000000000000000000) :
    Tri Tryd.prog w0 11 [.slice A xs.length c, .slice B ys.length d] [Row tE 37 2 A c' xs, Row tE 37 2 B d' ys] fun v m => v = .bool (decide (xs = ys)) ∧ m = [Row tE 37 2 A c' xs, Row tE 37 2 B d' ys] :=
  (Tri.of_all fun w s => T11 w (s.rd (k := 0) rfl) (s.rd (k := 1) rfl) hm hm2).post fun v m ⟨m', ⟨h1, h2⟩, h3⟩ => ⟨h1, by rw [h3, h2]; rfl⟩
def sumT (l : List Tok) : Nat := (l.map fun t => t.2.length + 1).sum
def largeT (l : List Tok) : Bool := decide (2000 < sumT l)
theorem sumT_succ {l : List Tok} {k : Nat} {x : Tok} (h : l[k]? = some x) : sumT (l.take (k + 1)) = sumT (l.take k) + x.2.length + 1 := by
  unfold sumT
  rw [map_take_succ (fun t : Tok => t.2.length + 1) h, List.sum_append]
  simp; omega
theorem sumT_take (l : List Tok) (k : Nat) : sumT (l.take k) ≤ sumT l := by
  unfold sumT
  have : l = l.take k ++ l.drop k := (List.take_append_drop k l).symm
  conv => rhs; rw [this]
  rw [List.map_append, List.sum_append]; omega
theorem sumT_mem {l : List Tok} {t : Tok} (h : t ∈ l) : t.2.length + 1 ≤ sumT l := by
  unfold sumT
  induction l with
  | nil => cases h
  | cons a l ih =>
    simp only [List.map_cons, List.sum_cons]
    rcases List.mem_cons.1 h with rfl | h
    · omega
    · have := ih h; omega
theorem sumT_len (l : List Tok) : l.length ≤ sumT l := by
  unfold sumT
  induction l with
  | nil => simp
  | cons a l ih => simp only [List.map_cons, List.sum_cons, List.length_cons]; omega
theorem T7 (w0 : World) {A : Option Addr} {c : Nat} {l : List Tok} (hr : Rd tE w0 2 A l) (hm : l.length ≤ 1000000000000000000) (hb : ∀ t ∈ l, t.2.length ≤ 1000000000000000000) :
    Tri Tryd.prog w0 7 [.slice A l.length c] [] fun v m => v = .bool (largeT l) ∧ m = [] := by
  refine tri_of Tryd.func7 rfl rfl fun F => ?_
  simp only [Tryd.ntmps7, argEnv, List.nil_append]
  refine at_seq_k (fun K0 hK0 => ?_)
  refine at_region ?_
  refine at_v (ov_assign rfl rfl) rfl rfl rfl ?_
  refine at_nil ?_
  refine at_normal ?_
  refine hK0 _ _ _ ?_
  refine at_seq_k (fun K1 hK1 => ?_)
  refine at_region ?_
  refine at_v (ov_assign rfl rfl) rfl rfl rfl ?_
  refine at_nil ?_
  refine at_normal ?_
  refine hK1 _ _ _ ?_
  refine at_seq_k (fun K2 hK2 => ?_)
  refine at_seq_k (fun K3 hK3 => ?_)
  refine at_region ?_
  refine at_v (ov_assign rfl rfl) rfl rfl rfl ?_
  refine at_nil ?_
  refine at_normal ?_
  refine hK3 _ _ _ ?_
  refine at_block ?_
  refine at_loopE [5, 6, 7, 8, 9, 10, 11, 12, 15, 16, 17, 18, 19, 20, 21, 22, 23, 3, 13, 14, 4] (fun k => k ≤ l.length ∧ sumT (l.take k) ≤ 1000000000000003000) (fun k => [(4, .int .i64 (k : Nat)), (3, .int .i64 (sumT (l.take k) : Nat))]) (fun _ l => l) (fun k => l.length - k) 0 ⟨Nat.zero_le _, by simp [sumT]⟩ ⟨rfl, rfl, trivial⟩ (fun _ s => s) ?_
  rintro k ⟨hk, hs⟩
  rcases Nat.lt_or_ge k l.length with hlt | hge
  · have hi1 : decide ((k : Int) < l.length) = true := decide_eq_true (by omega)
    by_cases hle : sumT (l.take k) ≤ 2000
    · have hi2 : decide ((sumT (l.take k) : Int) ≤ 2000) = true := decide_eq_true (by omega)
      obtain ⟨x, hget⟩ : ∃ x, l[k]? = some x := ⟨_, List.getElem?_eq_getElem hlt⟩
      have hbx := hb x (List.mem_of_getElem? hget)
      have hss := sumT_succ hget
      refine at_seq_k (fun K4 hK4 => ?_)
      refine at_seq_k (fun K5 hK5 => ?_)
      refine at_region ?_
      refine at_v (ov_move rfl rfl) rfl rfl rfl ?_
      refine at_v (ov_move rfl rfl) rfl rfl rfl ?_
      refine at_v (ov_len_slice rfl Tryd.underlying27 rfl) rfl rfl rfl ?_
      refine at_v (ov_int rfl rfl rfl rfl) rfl rfl rfl ?_
      refine at_v (ov_move rfl rfl) rfl rfl rfl ?_
      refine at_reval 9 (.bool true) rfl (congrArg Value.bool (decide_eq_true (by omega))) ?_
      refine at_wanted (j := 4) rfl ?_
      refine at_v (ov_move rfl rfl) rfl rfl rfl ?_
      refine at_wanted (j := 4) rfl ?_
      refine at_v (ov_int rfl rfl rfl rfl) rfl rfl rfl ?_
      refine at_v (ov_pick_t rfl rfl rfl) rfl rfl rfl ?_
      refine at_nil ?_
      refine at_normal ?_
      refine hK5 _ _ _ ?_
      refine at_cond_true (congrArg (fun b => some (Value.bool b)) (show _ = true from decide_eq_true (by omega))) ?_
      refine at_skip ?_
      refine at_normal ?_
      refine hK4 _ _ _ ?_
      refine at_seq_k (fun K6 hK6 => ?_)
      refine at_block ?_
      refine at_region ?_
      refine at_v (ov_move rfl rfl) rfl rfl rfl ?_
      refine at_v (ov_move rfl rfl) rfl rfl rfl ?_
      refine at_v (ov_move rfl rfl) rfl rfl rfl ?_
      refine at_v (ov_indexRd (fun _ s => hr.up s) rfl Tryd.underlying27 rfl rfl rfl hget) rfl rfl rfl ?_
      refine at_v (ov_fieldRd0 (k := 1) (fun _ s => hr.up s) rfl rfl hget rfl) rfl rfl rfl ?_
      refine at_v (ov_loadRd (fun _ s => hr.up s) rfl rfl rfl hget rfl) rfl rfl rfl ?_
      refine at_v (ov_len_strL rfl Tryd.underlying9 rfl) rfl rfl rfl ?_
      refine at_v ((ov_int rfl rfl rfl rfl).eq (congrArg (Value.int .i64) (inK_i64 (by omega) (by omega)))) rfl rfl rfl ?_
      refine at_v ((ov_int rfl rfl rfl rfl).eq (congrArg (Value.int .i64) (inK_i64 (by omega) (by omega)))) rfl rfl rfl ?_
      refine at_v (ov_assign rfl rfl) rfl rfl rfl ?_
      refine at_nil ?_
      refine at_inb_normal ?_
      refine at_normal ?_
      refine hK6 _ _ _ ?_
      refine at_region ?_
      refine at_v (ov_move rfl rfl) rfl rfl rfl ?_
      refine at_v ((ov_int rfl rfl rfl rfl).eq (congrArg (Value.int .i64) (inK_i64 (by omega) (by omega)))) rfl rfl rfl ?_
      refine at_v (ov_assign rfl rfl) rfl rfl rfl ?_
      refine at_nil ?_
      refine at_normal ?_
      refine at_roundF (k + 1) ⟨hlt, by omega⟩ (by omega) ⟨rfl, look_eq rfl (congrArg (Value.int .i64) (by omega)), trivial⟩ rfl ?_
      exact fun _ s => s.finEq (ks := []) (js := []) rfl rfl rfl
    · have hi2 : decide ((sumT (l.take k) : Int) ≤ 2000) = false := decide_eq_false (by omega)
      have hi3 : decide ((sumT (l.take k) : Int) > 2000) = true := decide_eq_true (by omega)
      have := sumT_take l k
      refine at_seq_k (fun K4 hK4 => ?_)
      refine at_seq_k (fun K5 hK5 => ?_)
      refine at_region ?_
      refine at_v (ov_move rfl rfl) rfl rfl rfl ?_
      refine at_v (ov_move rfl rfl) rfl rfl rfl ?_
      refine at_v (ov_len_slice rfl Tryd.underlying27 rfl) rfl rfl rfl ?_
      refine at_v (ov_int rfl rfl rfl rfl) rfl rfl rfl ?_
      refine at_v (ov_move rfl rfl) rfl rfl rfl ?_
      refine at_reval 9 (.bool true) rfl (congrArg Value.bool (decide_eq_true (by omega))) ?_
      refine at_wanted (j := 4) rfl ?_
      refine at_v (ov_move rfl rfl) rfl rfl rfl ?_
      refine at_wanted (j := 4) rfl ?_
      refine at_v (ov_int rfl rfl rfl rfl) rfl rfl rfl ?_
      refine at_v (ov_pick_t rfl rfl rfl) rfl rfl rfl ?_
      refine at_nil ?_
      refine at_normal ?_
      refine hK5 _ _ _ ?_
      refine at_cond_false (congrArg (fun b => some (Value.bool b)) (show _ = false from decide_eq_false (by omega))) ?_
      refine at_exit ?_
      refine at_then_exit ?_
      refine at_then_exit ?_
      refine at_exit_eq ?_
      refine at_normal ?_
      refine hK2 _ _ _ ?_
      refine at_seq_k (fun K6 hK6 => ?_)
      refine at_region ?_
      refine at_v (ov_move rfl rfl) rfl rfl rfl ?_
      refine at_v (ov_int rfl rfl rfl rfl) rfl rfl rfl ?_
      refine at_v (ov_assign rfl rfl) rfl rfl rfl ?_
      refine at_nil ?_
      refine at_normal ?_
      refine hK6 _ _ _ ?_
      refine at_ret ?_
      refine at_end ?_
      refine at_fin (rsV rfl (res_tmp rfl)) ?_
      refine ⟨_, ⟨congrArg Value.bool (hi3.trans (show largeT l = true from decide_eq_true (by omega)).symm), rfl⟩, ?_⟩
      exact fun _ s => s.finEq (ks := []) (js := []) rfl rfl rfl
  · have hi1 : decide ((k : Int) < l.length) = false := decide_eq_false (by omega)
    rw [List.take_of_length_le hge]
    refine at_seq_k (fun K4 hK4 => ?_)
    refine at_seq_k (fun K5 hK5 => ?_)
    refine at_region ?_
    refine at_v (ov_move rfl rfl) rfl rfl rfl ?_
    refine at_v (ov_move rfl rfl) rfl rfl rfl ?_
    refine at_v (ov_len_slice rfl Tryd.underlying27 rfl) rfl rfl rfl ?_
    refine at_v (ov_int rfl rfl rfl rfl) rfl rfl rfl ?_
    refine at_v (ov_move rfl rfl) rfl rfl rfl ?_
    refine at_reval 9 (.bool false) rfl (congrArg Value.bool (decide_eq_false (by omega))) ?_
    refine at_unwanted (j := 4) rfl rfl rfl rfl ?_
    refine at_unwanted (j := 4) rfl rfl rfl rfl ?_
    refine at_v (ov_pick_f rfl rfl rfl) rfl rfl rfl ?_
    refine at_nil ?_
    refine at_normal ?_
    refine hK5 _ _ _ ?_
    refine at_cond_false rfl ?_
    refine at_exit ?_
    refine at_then_exit ?_
    refine at_then_exit ?_
    refine at_exit_eq ?_
    refine at_normal ?_
    refine hK2 _ _ _ ?_
    refine at_seq_k (fun K6 hK6 => ?_)
    refine at_region ?_
    refine at_v (ov_move rfl rfl) rfl rfl rfl ?_
    refine at_v (ov_int rfl rfl rfl rfl) rfl rfl rfl ?_
    refine at_v (ov_assign rfl rfl) rfl rfl rfl ?_
    refine at_nil ?_
    refine at_normal ?_
    refine hK6 _ _ _ ?_
    refine at_ret ?_
    refine at_end ?_
    refine at_fin (rsV rfl (res_tmp rfl)) ?_
    refine ⟨_, ⟨congrArg Value.bool (decide_eq_decide.2 (by omega)), rfl⟩, ?_⟩
    exact fun _ s => s.finEq (ks := []) (js := []) rfl rfl rfl
theorem T7a (w0 : World) {A : Option Addr} {c c' : Nat} {l : List Tok} (hm : l.length ≤ 1000000000000000000) (hb : ∀ t ∈ l, t.2.length ≤ 1000000000000000000) :
    Tri Tryd.prog w0 7 [.slice A l.length c] [Row tE 37 2 A c' l] fun v m => v = .bool (largeT l) ∧ m = [Row tE 37 2 A c' l] :=
  (Tri.of_all fun w s => T7 w (s.rd (k := 0) rfl) hm hb).post fun v m ⟨m', ⟨h1, h2⟩, h3⟩ => ⟨h1, by rw [h3, h2]; rfl⟩
theorem T8 (w0 : World) {A : Option Addr} {c : Nat} {l : List Tok} (hr : Rd tE w0 2 A l) (hm : l.length ≤ 5864062014805) :
    Tri Tryd.prog w0 8 [.slice A l.length c] [] fun v m => ∃ B e, v = .slice B l.length e ∧ m = [Row tE 37 2 B e l] := by
  refine tri_of Tryd.func8 rfl rfl fun F => ?_
  simp only [Tryd.ntmps8, argEnv, List.nil_append]
  refine at_seq_k (fun K0 hK0 => ?_)
  refine at_region ?_
  refine at_v (ov_assign rfl rfl) rfl rfl rfl ?_
  refine at_nil ?_
  refine at_normal ?_
  refine hK0 _ _ _ ?_
  refine at_seq_k (fun K1 hK1 => ?_)
  refine at_region ?_
  refine at_t (ot_buildSlice (cs := []) rfl Tryd.underlying27 rfl rfl rfl rfl rfl rfl) rfl rfl rfl ?_
  rintro _ _ ⟨g0, rfl, rfl⟩
  refine at_v (ov_assign rfl rfl) rfl rfl rfl ?_
  refine at_nil ?_
  refine at_normal ?_
  refine hK1 _ _ _ ?_
  refine at_seq_k (fun K2 hK2 => ?_)
  refine at_seq_k (fun K3 hK3 => ?_)
  refine at_region ?_
  refine at_v (ov_move rfl rfl) rfl rfl rfl ?_
  refine at_v (ov_len_slice rfl Tryd.underlying22 rfl) rfl rfl rfl ?_
  refine at_v (ov_move rfl rfl) rfl rfl rfl ?_
  refine at_nil ?_
  refine at_normal ?_
  refine hK3 _ _ _ ?_
  refine at_block ?_
  refine at_rowOf (c := 0) (size := 2) tE 0 [] rfl (by simp) (by simp) (by decide) (by simp) rfl ?_
  simp only [setAt]
  
  refine at_loopE [10, 11, 12, 5, 13, 14, 15, 16, 3, 17, 9] (fun i : Nat × Option Addr × Nat => i.1 ≤ l.length) (fun i => [(9, .int .i64 (i.1 : Nat)), (3, .slice i.2.1 (l.take i.1).length i.2.2)]) (fun i m => setAt 0 (Row tE 37 2 i.2.1 i.2.2 (l.take i.1)) m) (fun i => l.length - i.1) (0, some ⟨g0, 0, none⟩, 0) (Nat.zero_le _) ⟨rfl, rfl, trivial⟩ (fun _ s => s) ?_
  rintro ⟨k, B, e⟩ hk
  simp only [setAt] at hk ⊢
  have hlk : (l.take k).length = k := by simp; omega
  rcases Nat.lt_or_ge k l.length with hlt | hge
  · have hi1 : decide ((k : Int) < l.length) = true := decide_eq_true (by omega)
    obtain ⟨x, hget⟩ : ∃ x, l[k]? = some x := ⟨_, List.getElem?_eq_getElem hlt⟩
    have hms : l.take (k + 1) = l.take k ++ [x] := by rw [List.take_add_one, hget]; rfl
    refine at_seq_k (fun K4 hK4 => ?_)
    refine at_region ?_
    refine at_v (ov_int rfl rfl rfl rfl) rfl rfl rfl ?_
    refine at_nil ?_
    refine at_normal ?_
    refine hK4 _ _ _ ?_
    refine at_seq_k (fun K5 hK5 => ?_)
    refine at_cond_true (congrArg (fun b => some (Value.bool b)) (show _ = true from decide_eq_true (by omega))) ?_
    refine at_skip ?_
    refine at_normal ?_
    refine hK5 _ _ _ ?_
    refine at_seq_k (fun K6 hK6 => ?_)
    refine at_block ?_
    refine at_seq_k (fun K7 hK7 => ?_)
    refine at_region ?_
    refine at_v (ov_indexRd (fun _ s => hr.up s) rfl Tryd.underlying22 rfl rfl rfl hget) rfl rfl rfl ?_
    refine at_v (ov_loadRdS (vs := [_, _]) (fun _ s => hr.up s) rfl rfl rfl hget rfl rfl) rfl rfl rfl ?_
    refine at_t (ot_allocA rfl Tryd.zeroValue24) rfl rfl rfl ?_
    rintro _ _ ⟨g1, rfl, rfl⟩
    refine at_t0 (ot_store (k := 0) rfl rfl rfl rfl rfl rfl rfl) rfl rfl ?_
    rintro _ _ ⟨rfl, rfl⟩
    simp only [setAt, splice, spliceL, Value.cells]
    refine at_nil ?_
    refine at_normal ?_
    refine hK7 _ _ _ ?_
    refine at_region ?_
    refine at_v (ov_move rfl rfl) rfl rfl rfl ?_
    refine at_v (ov_loadS (cs := [_, _]) rfl rfl rfl rfl (fun _ s => s.lds (k := 0) rfl ⟨rfl, rfl, trivial⟩)) rfl rfl rfl ?_
    refine at_t (ot_buildSlice (cs := [_, _]) rfl Tryd.underlying27 rfl rfl rfl rfl rfl rfl) rfl rfl rfl ?_
    rintro _ _ ⟨g2, rfl, rfl⟩
    refine at_t (ot_append (k := 2) (size := 2) (bytes := 24) (ys := [x]) (fun _ s => s.rdPt (k := 0) rfl rfl (by simp [tE])) rfl Tryd.underlying27 (ti := Tryd.t37) rfl rfl rfl rfl rfl (by decide) rfl rfl rfl (by simp [tE, Value.oneCell']) (by simp; omega) (by decide)) rfl rfl rfl ?_
    rintro _ _ ⟨A0, c0, rfl, rfl⟩
    simp only [setAt]
    refine at_v (ov_assign rfl rfl) rfl rfl rfl ?_
    refine at_nil ?_
    refine at_inb_normal ?_
    refine at_normal ?_
    refine hK6 _ _ _ ?_
    refine at_region ?_
    refine at_v ((ov_int rfl rfl rfl rfl).eq (congrArg (Value.int .i64) (inK_i64 (by omega) (by omega)))) rfl rfl rfl ?_
    refine at_v (ov_move rfl rfl) rfl rfl rfl ?_
    refine at_nil ?_
    refine at_normal ?_
    refine at_roundF (k + 1, A0, c0) hlt (by simp only; omega) ⟨rfl, look_eq rfl (by simp only [hms]), trivial⟩ rfl ?_
    simp only [setAt, hms]
    exact fun _ s => s.finEq (ks := [2]) (js := [0, 0]) rfl rfl rfl
  · have hi1 : decide ((k : Int) < l.length) = false := decide_eq_false (by omega)
    rw [List.take_of_length_le hge]
    refine at_seq_k (fun K4 hK4 => ?_)
    refine at_region ?_
    refine at_v (ov_int rfl rfl rfl rfl) rfl rfl rfl ?_
    refine at_nil ?_
    refine at_normal ?_
    refine hK4 _ _ _ ?_
    refine at_seq_k (fun K5 hK5 => ?_)
    refine at_cond_false (congrArg (fun b => some (Value.bool b)) (show _ = false from decide_eq_false (by omega))) ?_
    refine at_exit ?_
    refine at_then_exit ?_
    refine at_then_exit ?_
    refine at_exit_eq ?_
    refine at_normal ?_
    refine hK2 _ _ _ ?_
    refine at_seq_k (fun K6 hK6 => ?_)
    refine at_region ?_
    refine at_v (ov_move rfl rfl) rfl rfl rfl ?_
    refine at_v (ov_assign rfl rfl) rfl rfl rfl ?_
    refine at_nil ?_
    refine at_normal ?_
    refine hK6 _ _ _ ?_
    refine at_ret ?_
    refine at_end ?_
    refine at_fin (rsV rfl (res_tmp rfl)) ?_
    refine ⟨_, ⟨B, e, rfl, rfl⟩, ?_⟩
    exact fun _ s => s.finEq (ks := [0]) (js := []) rfl rfl rfl
theorem T8a (w0 : World) {A : Option Addr} {c c' : Nat} {l : List Tok} (hm : l.length ≤ 5864062014805) :
    Tri Tryd.prog w0 8 [.slice A l.length c] [Row tE 24 2 A c' l] fun v m => ∃ B e, v = .slice B l.length e ∧ m = [Row tE 37 2 B e l, Row tE 24 2 A c' l] :=
  (Tri.of_all fun w s => T8 w (s.rd (k := 0) rfl) hm).post fun v m ⟨m', ⟨B, e, h1, h2⟩, h3⟩ => ⟨B, e, h1, by rw [h3, h2]; rfl⟩
theorem all_take_succ {p : Tok → Bool} {l : List Tok} {k : Nat} {x : Tok} (h : l[k]? = some x) : (l.take (k + 1)).all p = ((l.take k).all p && p x) := by
  rw [List.take_add_one, h]; simp
theorem T14 (w0 : World) {A : Option Addr} {c : Nat} {l : List Tok} (hr : Rd tE w0 2 A l) (hm : l.length ≤ 10000) (ht : ∀ t ∈ l, t.2.length ≤ 10000) :
    Tri Tryd.prog w0 14 [.slice A l.length c] [] fun v m => v = .bool (l.all rightL) ∧ m = [] := by
  refine tri_of Tryd.func14 rfl rfl fun F => ?_
  simp only [Tryd.ntmps14, argEnv, List.nil_append]
  refine at_seq_k (fun K0 hK0 => ?_)
  refine at_region ?_
  refine at_v (ov_assign rfl rfl) rfl rfl rfl ?_
  refine at_nil ?_
  refine at_normal ?_
  refine hK0 _ _ _ ?_
  refine at_seq_k (fun K1 hK1 => ?_)
  refine at_seq_k (fun K2 hK2 => ?_)
  refine at_region ?_
  refine at_v (ov_move rfl rfl) rfl rfl rfl ?_
  refine at_v (ov_len_slice rfl Tryd.underlying22 rfl) rfl rfl rfl ?_
  refine at_v (ov_move rfl rfl) rfl rfl rfl ?_
  refine at_nil ?_
  refine at_normal ?_
  refine hK2 _ _ _ ?_
  refine at_block ?_
  refine at_loopE [8, 9, 10, 4, 11, 12, 13, 2, 14, 7] (fun k => k ≤ l.length ∧ (l.take k).all rightL = true) (fun k => [(7, .int .i64 (k : Nat))]) (fun _ m => m) (fun k => l.length - k) 0 ⟨Nat.zero_le _, rfl⟩ ⟨rfl, trivial⟩ (fun _ s => s) ?_
  rintro k ⟨hk, hb⟩
  rcases Nat.lt_or_ge k l.length with hlt | hge
  · have hi1 : decide ((k : Int) < l.length) = true := decide_eq_true (by omega)
    obtain ⟨x, hget⟩ : ∃ x, l[k]? = some x := ⟨_, List.getElem?_eq_getElem hlt⟩
    have hms := all_take_succ (p := rightL) hget
    have hR := T13 w0 x (ht x (List.mem_of_getElem? hget))
    cases hi2 : rightL x with
    | true =>
      refine at_seq_k (fun K3 hK3 => ?_)
      refine at_region ?_
      refine at_v (ov_int rfl rfl rfl rfl) rfl rfl rfl ?_
      refine at_nil ?_
      refine at_normal ?_
      refine hK3 _ _ _ ?_
      refine at_seq_k (fun K4 hK4 => ?_)
      refine at_cond_true (congrArg (fun b => some (Value.bool b)) (show _ = true from decide_eq_true (by omega))) ?_
      refine at_skip ?_
      refine at_normal ?_
      refine hK4 _ _ _ ?_
      refine at_seq_k (fun K5 hK5 => ?_)
      refine at_block ?_
      refine at_seq_k (fun K6 hK6 => ?_)
      refine at_region ?_
      refine at_v (ov_indexRd (fun _ s => hr.up s) rfl Tryd.underlying22 rfl rfl rfl hget) rfl rfl rfl ?_
      refine at_v (ov_loadRdS (vs := [_, _]) (fun _ s => hr.up s) rfl rfl rfl hget rfl rfl) rfl rfl rfl ?_
      refine at_t (ot_allocA rfl Tryd.zeroValue24) rfl rfl rfl ?_
      rintro _ _ ⟨g0, rfl, rfl⟩
      refine at_t0 (ot_store (k := 0) rfl rfl rfl rfl rfl rfl rfl) rfl rfl ?_
      rintro _ _ ⟨rfl, rfl⟩
      simp only [setAt, splice, spliceL, Value.cells]
      refine at_nil ?_
      refine at_normal ?_
      refine hK6 _ _ _ ?_
      refine at_seq_k (fun K7 hK7 => ?_)
      refine at_region ?_
      refine at_v (ov_loadS (cs := [_, _]) rfl rfl rfl rfl (fun _ s => s.lds (k := 0) rfl ⟨rfl, rfl, trivial⟩)) rfl rfl rfl ?_
      refine at_t (ot_call (ks := []) rfl rfl rfl Tryd.call13 rfl (hR ) rfl) rfl rfl rfl ?_
      rintro v0 _ ⟨m0, hp0, rfl⟩
      obtain ⟨rfl, rfl⟩ := hp0
      simp only [List.cons_append, List.nil_append, splice, spliceL]
      refine at_v (ov_not rfl rfl) rfl rfl rfl ?_
      refine at_nil ?_
      refine at_normal ?_
      refine hK7 _ _ _ ?_
      refine at_cond_false (congrArg (fun b => some (Value.bool b)) (show _ = false from by simp [hb, hi1, hms, hi2]; done)) ?_
      refine at_skip ?_
      refine at_inb_normal ?_
      refine at_normal ?_
      refine hK5 _ _ _ ?_
      refine at_region ?_
      refine at_v ((ov_int rfl rfl rfl rfl).eq (congrArg (Value.int .i64) (inK_i64 (by omega) (by omega)))) rfl rfl rfl ?_
      refine at_v (ov_move rfl rfl) rfl rfl rfl ?_
      refine at_nil ?_
      refine at_normal ?_
      refine at_roundF (k + 1) ⟨hlt, by rw [hms, hb, hi2]; rfl⟩ (by omega) ⟨rfl, trivial⟩ rfl ?_
      exact fun _ s => s.finEq (ks := []) (js := [0]) rfl rfl rfl
    | false =>
      have hf : l.all rightL = false := by
        cases h : l.all rightL with
        | false => rfl
        | true => have := List.all_eq_true.1 h x (List.mem_of_getElem? hget); rw [hi2] at this; cases this
      refine at_seq_k (fun K3 hK3 => ?_)
      refine at_region ?_
      refine at_v (ov_int rfl rfl rfl rfl) rfl rfl rfl ?_
      refine at_nil ?_
      refine at_normal ?_
      refine hK3 _ _ _ ?_
      refine at_seq_k (fun K4 hK4 => ?_)
      refine at_cond_true (congrArg (fun b => some (Value.bool b)) (show _ = true from decide_eq_true (by omega))) ?_
      refine at_skip ?_
      refine at_normal ?_
      refine hK4 _ _ _ ?_
      refine at_seq_k (fun K5 hK5 => ?_)
      refine at_block ?_
      refine at_seq_k (fun K6 hK6 => ?_)
      refine at_region ?_
      refine at_v (ov_indexRd (fun _ s => hr.up s) rfl Tryd.underlying22 rfl rfl rfl hget) rfl rfl rfl ?_
      refine at_v (ov_loadRdS (vs := [_, _]) (fun _ s => hr.up s) rfl rfl rfl hget rfl rfl) rfl rfl rfl ?_
      refine at_t (ot_allocA rfl Tryd.zeroValue24) rfl rfl rfl ?_
      rintro _ _ ⟨g0, rfl, rfl⟩
      refine at_t0 (ot_store (k := 0) rfl rfl rfl rfl rfl rfl rfl) rfl rfl ?_
      rintro _ _ ⟨rfl, rfl⟩
      simp only [setAt, splice, spliceL, Value.cells]
      refine at_nil ?_
      refine at_normal ?_
      refine hK6 _ _ _ ?_
      refine at_seq_k (fun K7 hK7 => ?_)
      refine at_region ?_
      refine at_v (ov_loadS (cs := [_, _]) rfl rfl rfl rfl (fun _ s => s.lds (k := 0) rfl ⟨rfl, rfl, trivial⟩)) rfl rfl rfl ?_
      refine at_t (ot_call (ks := []) rfl rfl rfl Tryd.call13 rfl (hR ) rfl) rfl rfl rfl ?_
      rintro v0 _ ⟨m0, hp0, rfl⟩
      obtain ⟨rfl, rfl⟩ := hp0
      simp only [List.cons_append, List.nil_append, splice, spliceL]
      refine at_v (ov_not rfl rfl) rfl rfl rfl ?_
      refine at_nil ?_
      refine at_normal ?_
      refine hK7 _ _ _ ?_
      refine at_cond_true (congrArg (fun b => some (Value.bool b)) (show _ = true from by simp [hb, hi1, hms, hi2, hf]; done)) ?_
      refine at_seq_k (fun K8 hK8 => ?_)
      refine at_region ?_
      refine at_v (ov_assign rfl rfl) rfl rfl rfl ?_
      refine at_nil ?_
      refine at_normal ?_
      refine hK8 _ _ _ ?_
      refine at_ret ?_
      refine at_inb_ret ?_
      refine at_then_ret ?_
      refine at_then_ret ?_
      refine at_inb_ret ?_
      refine at_then_ret ?_
      refine at_end ?_
      refine at_fin (rsV rfl (res_tmp rfl)) ?_
      refine ⟨_, ⟨by rw [hf], rfl⟩, ?_⟩
      exact fun _ s => s.finEq (ks := []) (js := [0]) rfl rfl rfl
  · have hi1 : decide ((k : Int) < l.length) = false := decide_eq_false (by omega)
    rw [List.take_of_length_le hge] at hb
    refine at_seq_k (fun K3 hK3 => ?_)
    refine at_region ?_
    refine at_v (ov_int rfl rfl rfl rfl) rfl rfl rfl ?_
    refine at_nil ?_
    refine at_normal ?_
    refine hK3 _ _ _ ?_
    refine at_seq_k (fun K4 hK4 => ?_)
    refine at_cond_false (congrArg (fun b => some (Value.bool b)) (show _ = false from decide_eq_false (by omega))) ?_
    refine at_exit ?_
    refine at_then_exit ?_
    refine at_then_exit ?_
    refine at_exit_eq ?_
    refine at_normal ?_
    refine hK1 _ _ _ ?_
    refine at_seq_k (fun K5 hK5 => ?_)
    refine at_region ?_
    refine at_v (ov_assign rfl rfl) rfl rfl rfl ?_
    refine at_nil ?_
    refine at_normal ?_
    refine hK5 _ _ _ ?_
    refine at_ret ?_
    refine at_end ?_
    refine at_fin (rsV rfl (res_tmp rfl)) ?_
    refine ⟨_, ⟨by rw [hb], rfl⟩, ?_⟩
    exact fun _ s => s.finEq (ks := []) (js := []) rfl rfl rfl
end Go.Proofs.YtfnbdgmeieilhaaDoor
