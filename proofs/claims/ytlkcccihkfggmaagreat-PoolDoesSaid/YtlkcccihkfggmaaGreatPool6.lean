/- Pools: awake, and lists held against one another. -/
import Derived.Test.YtlkcccihkfggmaaGreatProg
import Derived.Test.YtlkcccihkfggmaaGreatPool5
import Derived.Test.YtlkcccihkfggmaaGreatSLBr
import Derived.KernelRfl
set_option linter.unusedSimpArgs false
set_option linter.unusedVariables false
set_option maxRecDepth 100000
namespace Go.Proofs.YtlkcccihkfggmaaGreat
open Go Go.Proofs.YtlkcccihkfggmaaGreat.SL Go.RowKit
theorem T13 (w0 : World) {A B : Option Addr} {c d : Nat} {xs ys : List Int} (hr : Rd wE w0 1 A xs) (hr2 : Rd wE w0 1 B ys) (hm : xs.length ≤ 9223372036854775807) (hm2 : ys.length ≤ 9223372036854775807) :
    Tri Tryz.prog w0 13 [.slice A xs.length c, .slice B ys.length d] [] fun v m => v = .bool (decide (xs = ys)) ∧ m = [] := by
  refine tri_of Tryz.func13 rfl rfl fun F => ?_
  simp only [Tryz.ntmps13, argEnv, List.nil_append]
  by_cases hil : xs.length = ys.length
  · refine at_seq_k (fun K0 hK0 => ?_)
    refine at_region ?_
    refine at_v (ov_assign rfl rfl) rfl rfl rfl ?_
    refine at_nil ?_
    refine at_normal ?_
    refine hK0 _ _ _ ?_
    refine at_seq_k (fun K1 hK1 => ?_)
    refine at_seq_k (fun K2 hK2 => ?_)
    refine at_region ?_
    refine at_v (ov_move rfl rfl) rfl rfl rfl ?_
    refine at_v (ov_len_slice rfl Tryz.underlying45 rfl) rfl rfl rfl ?_
    refine at_v (ov_move rfl rfl) rfl rfl rfl ?_
    refine at_v (ov_len_slice rfl Tryz.underlying45 rfl) rfl rfl rfl ?_
    refine at_v (ov_int rfl rfl rfl rfl) rfl rfl rfl ?_
    refine at_nil ?_
    refine at_normal ?_
    refine hK2 _ _ _ ?_
    refine at_cond_false (congrArg (fun b => some (Value.bool b)) (show _ = false from by first | assumption | (rw [Bool.not_eq_false']; exact decide_eq_true (by omega)))) ?_
    refine at_skip ?_
    refine at_normal ?_
    refine hK1 _ _ _ ?_
    refine at_seq_k (fun K3 hK3 => ?_)
    refine at_seq_k (fun K4 hK4 => ?_)
    refine at_region ?_
    refine at_v (ov_assign rfl rfl) rfl rfl rfl ?_
    refine at_nil ?_
    refine at_normal ?_
    refine hK4 _ _ _ ?_
    refine at_block ?_
    refine at_loopE [11, 12, 13, 14, 17, 18, 19, 20, 21, 22, 23, 24, 25, 4, 15, 16, 5] (fun k => k ≤ xs.length ∧ xs.take k = ys.take k) (fun k => [(5, .int .i64 (k : Nat))]) (fun _ l => l) (fun k => xs.length - k) 0 ⟨Nat.zero_le _, rfl⟩ ⟨rfl, trivial⟩ (fun _ s => s) ?_
    rintro k ⟨hk, hb⟩
    refine at_seq_k (fun K5 hK5 => ?_)
    refine at_seq_k (fun K6 hK6 => ?_)
    refine at_region ?_
    refine at_v (ov_move rfl rfl) rfl rfl rfl ?_
    refine at_v (ov_move rfl rfl) rfl rfl rfl ?_
    refine at_v (ov_len_slice rfl Tryz.underlying45 rfl) rfl rfl rfl ?_
    refine at_v (ov_int rfl rfl rfl rfl) rfl rfl rfl ?_
    refine at_nil ?_
    refine at_normal ?_
    refine hK6 _ _ _ ?_
    refine at_cond rfl (fun hc => ?_) (fun hc => ?_)
    · have hlt : k < xs.length := by simpa using hc
      have hget : xs[k]? = some xs[k] := List.getElem?_eq_getElem hlt
      have hget2 : ys[k]? = some ys[k] := List.getElem?_eq_getElem (by omega)
      by_cases he : xs[k] = ys[k]
      · refine at_skip ?_
        refine at_normal ?_
        refine hK5 _ _ _ ?_
        refine at_seq_k (fun K7 hK7 => ?_)
        refine at_block ?_
        refine at_seq_k (fun K8 hK8 => ?_)
        refine at_draw _ [] 1000 [(2, 0), (2, 1), (1, 2), (1, 3), (2, 4), (2, 5), (1, 6), (1, 7), (2, 8)] (by kernel_rfl) (by kernel_rfl) (fun _ s => (s.pulls (ks := []) rfl).left) ?_
        refine aq_p (ov_move rfl rfl) rfl rfl rfl ?_
        refine aq_p (ov_move rfl rfl) rfl rfl rfl ?_
        refine aq_v (ov_indexRd (fun _ s => hr.up s) rfl Tryz.underlying45 rfl rfl rfl hget) rfl rfl rfl ?_
        refine aq_v (ov_loadRd0 (fun _ s => hr.up s) rfl rfl rfl hget rfl) rfl rfl rfl ?_
        refine aq_p (ov_move rfl rfl) rfl rfl rfl ?_
        refine aq_p (ov_move rfl rfl) rfl rfl rfl ?_
        refine aq_v (ov_indexRd (fun _ s => hr2.up s) rfl Tryz.underlying45 rfl rfl rfl hget2) rfl rfl rfl ?_
        refine aq_v (ov_loadRd0 (fun _ s => hr2.up s) rfl rfl rfl hget2 rfl) rfl rfl rfl ?_
        refine aq_p (ov_int rfl rfl rfl rfl) rfl rfl rfl ?_
        refine aq_nil ?_
        refine at_normal ?_
        refine hK8 _ _ _ ?_
        refine at_cond_false (congrArg (fun b => some (Value.bool b)) (show _ = false from by first | assumption | (rw [Bool.not_eq_false']; exact decide_eq_true (by omega)))) ?_
        refine at_skip ?_
        refine at_inb_normal ?_
        refine at_normal ?_
        refine hK7 _ _ _ ?_
        refine at_region ?_
        refine at_v (ov_move rfl rfl) rfl rfl rfl ?_
        refine at_v ((ov_int rfl rfl rfl rfl).eq (congrArg (Value.int .i64) (inK_i64 (by omega) (by omega)))) rfl rfl rfl ?_
        refine at_v (ov_assign rfl rfl) rfl rfl rfl ?_
        refine at_nil ?_
        refine at_normal ?_
        refine at_roundF (k + 1) ⟨hlt, by rw [List.take_add_one, List.take_add_one, hget, hget2, he, hb]⟩ (by omega) ⟨rfl, trivial⟩ rfl ?_
        exact fun _ s => s.finEq (ks := []) (js := []) rfl rfl rfl
      · have hne : ¬ xs = ys := fun e => by subst e; exact he rfl
        refine at_skip ?_
        refine at_normal ?_
        refine hK5 _ _ _ ?_
        refine at_seq_k (fun K7 hK7 => ?_)
        refine at_block ?_
        refine at_seq_k (fun K8 hK8 => ?_)
        refine at_draw _ [] 1000 [(2, 0), (2, 1), (1, 2), (1, 3), (2, 4), (2, 5), (1, 6), (1, 7), (2, 8)] (by kernel_rfl) (by kernel_rfl) (fun _ s => (s.pulls (ks := []) rfl).left) ?_
        refine aq_p (ov_move rfl rfl) rfl rfl rfl ?_
        refine aq_p (ov_move rfl rfl) rfl rfl rfl ?_
        refine aq_v (ov_indexRd (fun _ s => hr.up s) rfl Tryz.underlying45 rfl rfl rfl hget) rfl rfl rfl ?_
        refine aq_v (ov_loadRd0 (fun _ s => hr.up s) rfl rfl rfl hget rfl) rfl rfl rfl ?_
        refine aq_p (ov_move rfl rfl) rfl rfl rfl ?_
        refine aq_p (ov_move rfl rfl) rfl rfl rfl ?_
        refine aq_v (ov_indexRd (fun _ s => hr2.up s) rfl Tryz.underlying45 rfl rfl rfl hget2) rfl rfl rfl ?_
        refine aq_v (ov_loadRd0 (fun _ s => hr2.up s) rfl rfl rfl hget2 rfl) rfl rfl rfl ?_
        refine aq_p (ov_int rfl rfl rfl rfl) rfl rfl rfl ?_
        refine aq_nil ?_
        refine at_normal ?_
        refine hK8 _ _ _ ?_
        refine at_cond_true (congrArg (fun b => some (Value.bool b)) (show _ = true from by first | assumption | (rw [Bool.not_eq_true']; exact decide_eq_false (by omega)))) ?_
        refine at_seq_k (fun K9 hK9 => ?_)
        refine at_region ?_
        refine at_v (ov_assign rfl rfl) rfl rfl rfl ?_
        refine at_nil ?_
        refine at_normal ?_
        refine hK9 _ _ _ ?_
        refine at_ret ?_
        refine at_inb_ret ?_
        refine at_then_ret ?_
        refine at_then_ret ?_
        refine at_inb_ret ?_
        refine at_then_ret ?_
        refine at_end ?_
        refine at_fin (rsV rfl (res_tmp rfl)) ?_
        refine ⟨_, ⟨by simp [hne], rfl⟩, ?_⟩
        exact fun _ s => s.finEq (ks := []) (js := []) rfl rfl rfl
    · have hk2 : k = xs.length := by
        have : ¬ k < xs.length := by simpa using hc
        omega
      subst hk2
      rw [List.take_length, hil, List.take_length] at hb
      refine at_exit ?_
      refine at_then_exit ?_
      refine at_then_exit ?_
      refine at_exit_eq ?_
      refine at_normal ?_
      refine hK3 _ _ _ ?_
      refine at_seq_k (fun K7 hK7 => ?_)
      refine at_region ?_
      refine at_v (ov_assign rfl rfl) rfl rfl rfl ?_
      refine at_nil ?_
      refine at_normal ?_
      refine hK7 _ _ _ ?_
      refine at_ret ?_
      refine at_end ?_
      refine at_fin (rsV rfl (res_tmp rfl)) ?_
      refine ⟨_, ⟨by simp [hb], rfl⟩, ?_⟩
      exact fun _ s => s.finEq (ks := []) (js := []) rfl rfl rfl
  · have hne : ¬ xs = ys := fun e => hil (by rw [e])
    refine at_seq_k (fun K0 hK0 => ?_)
    refine at_region ?_
    refine at_v (ov_assign rfl rfl) rfl rfl rfl ?_
    refine at_nil ?_
    refine at_normal ?_
    refine hK0 _ _ _ ?_
    refine at_seq_k (fun K1 hK1 => ?_)
    refine at_seq_k (fun K2 hK2 => ?_)
    refine at_region ?_
    refine at_v (ov_move rfl rfl) rfl rfl rfl ?_
    refine at_v (ov_len_slice rfl Tryz.underlying45 rfl) rfl rfl rfl ?_
    refine at_v (ov_move rfl rfl) rfl rfl rfl ?_
    refine at_v (ov_len_slice rfl Tryz.underlying45 rfl) rfl rfl rfl ?_
    refine at_v (ov_int rfl rfl rfl rfl) rfl rfl rfl ?_
    refine at_nil ?_
    refine at_normal ?_
    refine hK2 _ _ _ ?_
    refine at_cond_true (congrArg (fun b => some (Value.bool b)) (show _ = true from by first | assumption | (rw [Bool.not_eq_true']; exact decide_eq_false (by omega)))) ?_
    refine at_seq_k (fun K3 hK3 => ?_)
    refine at_region ?_
    refine at_v (ov_assign rfl rfl) rfl rfl rfl ?_
    refine at_nil ?_
    refine at_normal ?_
    refine hK3 _ _ _ ?_
    refine at_ret ?_
    refine at_then_ret ?_
    refine at_end ?_
    refine at_fin (rsV rfl (res_tmp rfl)) ?_
    refine ⟨_, ⟨by simp [hne], rfl⟩, ?_⟩
    exact fun _ s => s.finEq (ks := []) (js := []) rfl rfl rfl
theorem T13a (w0 : World) {A B : Option Addr} {c d c' d' : Nat} {xs ys : List Int} (hm : xs.length ≤ 1000) (hm2 : ys.length ≤ 1000) :
    Tri Tryz.prog w0 13 [.slice A xs.length c, .slice B ys.length d] [Row wE 3 1 A c' xs, Row wE 3 1 B d' ys] fun v m => v = .bool (decide (xs = ys)) ∧ m = [Row wE 3 1 A c' xs, Row wE 3 1 B d' ys] :=
  (Tri.of_all fun w s => T13 w (s.rd (k := 0) rfl) (s.rd (k := 1) rfl) (by omega) (by omega)).post fun v m ⟨m', ⟨h1, h2⟩, h3⟩ => ⟨h1, by rw [h3, h2]; rfl⟩
/-- What is told of a connection. -/
structure IT where
  id : Int
  st : Int
  ow : Int
  e : Int
  f : Int
  si : Int
deriving DecidableEq
def infoT (x : XM) : IT := ⟨x.1, x.2.1.state, max x.2.1.o 0, x.2.1.e, x.2.1.f, x.2.2⟩
theorem infoT_eq (x y : XM) : (decide (x.1 = y.1) && (decide (x.2.1.state = y.2.1.state) && (decide (max x.2.1.o 0 = max y.2.1.o 0) && (decide (x.2.1.e = y.2.1.e) && (decide (x.2.1.f = y.2.1.f) && decide (x.2.2 = y.2.2)))))) = decide (infoT x = infoT y) := by
  simp [infoT]
theorem T9 (w0 : World) {A B : Option Addr} {c d : Nat} {xs ys : List XM} (hr : Rd infoE w0 6 A xs) (hr2 : Rd infoE w0 6 B ys) (hm : xs.length ≤ 9223372036854775807) (hm2 : ys.length ≤ 9223372036854775807) :
    Tri Tryz.prog w0 9 [.slice A xs.length c, .slice B ys.length d] [] fun v m => v = .bool (decide (xs.map infoT = ys.map infoT)) ∧ m = [] := by
  refine tri_of Tryz.func9 rfl rfl fun F => ?_
  simp only [Tryz.ntmps9, argEnv, List.nil_append]
  by_cases hil : xs.length = ys.length
  · refine at_seq_k (fun K0 hK0 => ?_)
    refine at_region ?_
    refine at_v (ov_assign rfl rfl) rfl rfl rfl ?_
    refine at_nil ?_
    refine at_normal ?_
    refine hK0 _ _ _ ?_
    refine at_seq_k (fun K1 hK1 => ?_)
    refine at_seq_k (fun K2 hK2 => ?_)
    refine at_region ?_
    refine at_v (ov_move rfl rfl) rfl rfl rfl ?_
    refine at_v (ov_len_slice rfl Tryz.underlying39 rfl) rfl rfl rfl ?_
    refine at_v (ov_move rfl rfl) rfl rfl rfl ?_
    refine at_v (ov_len_slice rfl Tryz.underlying39 rfl) rfl rfl rfl ?_
    refine at_v (ov_int rfl rfl rfl rfl) rfl rfl rfl ?_
    refine at_nil ?_
    refine at_normal ?_
    refine hK2 _ _ _ ?_
    refine at_cond_false (congrArg (fun b => some (Value.bool b)) (show _ = false from by first | assumption | (rw [Bool.not_eq_false']; exact decide_eq_true (by omega)))) ?_
    refine at_skip ?_
    refine at_normal ?_
    refine hK1 _ _ _ ?_
    refine at_seq_k (fun K3 hK3 => ?_)
    refine at_seq_k (fun K4 hK4 => ?_)
    refine at_region ?_
    refine at_v (ov_assign rfl rfl) rfl rfl rfl ?_
    refine at_nil ?_
    refine at_normal ?_
    refine hK4 _ _ _ ?_
    refine at_block ?_
    refine at_loopE [11, 12, 13, 14, 17, 18, 19, 20, 21, 22, 23, 24, 25, 4, 15, 16, 5] (fun k => k ≤ xs.length ∧ (xs.take k).map infoT = (ys.take k).map infoT) (fun k => [(5, .int .i64 (k : Nat))]) (fun _ l => l) (fun k => xs.length - k) 0 ⟨Nat.zero_le _, rfl⟩ ⟨rfl, trivial⟩ (fun _ s => s) ?_
    rintro k ⟨hk, hb⟩
    refine at_seq_k (fun K5 hK5 => ?_)
    refine at_seq_k (fun K6 hK6 => ?_)
    refine at_region ?_
    refine at_v (ov_move rfl rfl) rfl rfl rfl ?_
    refine at_v (ov_move rfl rfl) rfl rfl rfl ?_
    refine at_v (ov_len_slice rfl Tryz.underlying39 rfl) rfl rfl rfl ?_
    refine at_v (ov_int rfl rfl rfl rfl) rfl rfl rfl ?_
    refine at_nil ?_
    refine at_normal ?_
    refine hK6 _ _ _ ?_
    refine at_cond rfl (fun hc => ?_) (fun hc => ?_)
    · have hlt : k < xs.length := by simpa using hc
      have hget : xs[k]? = some xs[k] := List.getElem?_eq_getElem hlt
      have hget2 : ys[k]? = some ys[k] := List.getElem?_eq_getElem (by omega)
      obtain ⟨x, hx⟩ : ∃ x, xs[k] = x := ⟨_, rfl⟩
      obtain ⟨y, hy⟩ : ∃ y, ys[k] = y := ⟨_, rfl⟩
      rw [hx] at hget
      rw [hy] at hget2
      have hti := infoT_eq x y
      refine at_skip ?_
      refine at_normal ?_
      refine hK5 _ _ _ ?_
      refine at_seq_k (fun K7 hK7 => ?_)
      refine at_block ?_
      refine at_seq_k (fun K8 hK8 => ?_)
      refine at_draw _ [] 1000 [(2, 0), (2, 1), (1, 2), (1, 3), (2, 4), (2, 5), (1, 6), (1, 7), (2, 8)] (by kernel_rfl) (by kernel_rfl) (fun _ s => (s.pulls (ks := []) rfl).left) ?_
      refine aq_p (ov_move rfl rfl) rfl rfl rfl ?_
      refine aq_p (ov_move rfl rfl) rfl rfl rfl ?_
      refine aq_v (ov_indexRd (fun _ s => hr.up s) rfl Tryz.underlying39 rfl rfl rfl hget) rfl rfl rfl ?_
      refine aq_v (ov_loadRdS (vs := [_, _, _, _, _, _]) (fun _ s => hr.up s) rfl rfl rfl hget rfl rfl) rfl rfl rfl ?_
      refine aq_p (ov_move rfl rfl) rfl rfl rfl ?_
      refine aq_p (ov_move rfl rfl) rfl rfl rfl ?_
      refine aq_v (ov_indexRd (fun _ s => hr2.up s) rfl Tryz.underlying39 rfl rfl rfl hget2) rfl rfl rfl ?_
      refine aq_v (ov_loadRdS (vs := [_, _, _, _, _, _]) (fun _ s => hr2.up s) rfl rfl rfl hget2 rfl rfl) rfl rfl rfl ?_
      refine aq_p (ov_neS rfl (by kernel_rfl) rfl rfl rfl rfl) rfl rfl rfl ?_
      refine aq_nil ?_
      refine at_normal ?_
      refine hK8 _ _ _ ?_
      by_cases he : infoT x = infoT y
      · refine at_cond_false (congrArg (fun b => some (Value.bool (!b))) (hti.trans (decide_eq_true he))) ?_
        refine at_skip ?_
        refine at_inb_normal ?_
        refine at_normal ?_
        refine hK7 _ _ _ ?_
        refine at_region ?_
        refine at_v (ov_move rfl rfl) rfl rfl rfl ?_
        refine at_v ((ov_int rfl rfl rfl rfl).eq (congrArg (Value.int .i64) (inK_i64 (by omega) (by omega)))) rfl rfl rfl ?_
        refine at_v (ov_assign rfl rfl) rfl rfl rfl ?_
        refine at_nil ?_
        refine at_normal ?_
        refine at_roundF (k + 1) ⟨hlt, by rw [List.take_add_one, List.take_add_one, hget, hget2, List.map_append, List.map_append, hb]; simp [he]⟩ (by omega) ⟨rfl, trivial⟩ rfl ?_
        exact fun _ s => s.finEq (ks := []) (js := []) rfl rfl rfl
      · have hne : ¬ xs.map infoT = ys.map infoT := fun e => by
          have e1 : (xs.map infoT)[k]? = (ys.map infoT)[k]? := by rw [e]
          rw [List.getElem?_map, List.getElem?_map, hget, hget2] at e1
          exact he (by simpa using e1)
        refine at_cond_true (congrArg (fun b => some (Value.bool (!b))) (hti.trans (decide_eq_false he))) ?_
        refine at_seq_k (fun K9 hK9 => ?_)
        refine at_region ?_
        refine at_v (ov_assign rfl rfl) rfl rfl rfl ?_
        refine at_nil ?_
        refine at_normal ?_
        refine hK9 _ _ _ ?_
        refine at_ret ?_
        refine at_inb_ret ?_
        refine at_then_ret ?_
        refine at_then_ret ?_
        refine at_inb_ret ?_
        refine at_then_ret ?_
        refine at_end ?_
        refine at_fin (rsV rfl (res_tmp rfl)) ?_
        refine ⟨_, ⟨by simp [hne], rfl⟩, ?_⟩
        exact fun _ s => s.finEq (ks := []) (js := []) rfl rfl rfl
    · have hk2 : k = xs.length := by
        have : ¬ k < xs.length := by simpa using hc
        omega
      subst hk2
      rw [List.take_length, hil, List.take_length] at hb
      refine at_exit ?_
      refine at_then_exit ?_
      refine at_then_exit ?_
      refine at_exit_eq ?_
      refine at_normal ?_
      refine hK3 _ _ _ ?_
      refine at_seq_k (fun K7 hK7 => ?_)
      refine at_region ?_
      refine at_v (ov_assign rfl rfl) rfl rfl rfl ?_
      refine at_nil ?_
      refine at_normal ?_
      refine hK7 _ _ _ ?_
      refine at_ret ?_
      refine at_end ?_
      refine at_fin (rsV rfl (res_tmp rfl)) ?_
      refine ⟨_, ⟨by simp [hb], rfl⟩, ?_⟩
      exact fun _ s => s.finEq (ks := []) (js := []) rfl rfl rfl
  · have hne : ¬ xs.map infoT = ys.map infoT := fun e => hil (by simpa using congrArg List.length e)
    have hil2 : ¬ ((xs.length : Int) = (ys.length : Int)) := by omega
    refine at_seq_k (fun K0 hK0 => ?_)
    refine at_region ?_
    refine at_v (ov_assign rfl rfl) rfl rfl rfl ?_
    refine at_nil ?_
    refine at_normal ?_
    refine hK0 _ _ _ ?_
    refine at_seq_k (fun K1 hK1 => ?_)
    refine at_seq_k (fun K2 hK2 => ?_)
    refine at_region ?_
    refine at_v (ov_move rfl rfl) rfl rfl rfl ?_
    refine at_v (ov_len_slice rfl Tryz.underlying39 rfl) rfl rfl rfl ?_
    refine at_v (ov_move rfl rfl) rfl rfl rfl ?_
    refine at_v (ov_len_slice rfl Tryz.underlying39 rfl) rfl rfl rfl ?_
    refine at_v (ov_int rfl rfl rfl rfl) rfl rfl rfl ?_
    refine at_nil ?_
    refine at_normal ?_
    refine hK2 _ _ _ ?_
    refine at_cond_true (congrArg (fun b => some (Value.bool b)) (show _ = true from by first | assumption | (rw [Bool.not_eq_true']; exact decide_eq_false (by omega)))) ?_
    refine at_seq_k (fun K3 hK3 => ?_)
    refine at_region ?_
    refine at_v (ov_assign rfl rfl) rfl rfl rfl ?_
    refine at_nil ?_
    refine at_normal ?_
    refine hK3 _ _ _ ?_
    refine at_ret ?_
    refine at_then_ret ?_
    refine at_end ?_
    refine at_fin (rsV rfl (res_tmp rfl)) ?_
    refine ⟨_, ⟨by simp [hne], rfl⟩, ?_⟩
    exact fun _ s => s.finEq (ks := []) (js := []) rfl rfl rfl
theorem T9a (w0 : World) {A B : Option Addr} {c d c' d' : Nat} {xs ys : List XM} (hm : xs.length ≤ 1000) (hm2 : ys.length ≤ 1000) :
    Tri Tryz.prog w0 9 [.slice A xs.length c, .slice B ys.length d] [Row infoE 75 6 A c' xs, Row infoE 75 6 B d' ys] fun v m => v = .bool (decide (xs.map infoT = ys.map infoT)) ∧ m = [Row infoE 75 6 A c' xs, Row infoE 75 6 B d' ys] :=
  (Tri.of_all fun w s => T9 w (s.rd (k := 0) rfl) (s.rd (k := 1) rfl) (by omega) (by omega)).post fun v m ⟨m', ⟨h1, h2⟩, h3⟩ => ⟨h1, by rw [h3, h2]; rfl⟩
theorem T10 (w0 : World) {A : Option Addr} {c d : Nat} {xs : List XM} (hm : xs.length ≤ 1000) :
    Tri Tryz.prog w0 10 [.slice A xs.length c] [Row infoE 61 6 A d xs] fun v m => ∃ B e, v = .slice B xs.length e ∧ m = [Row infoE 75 6 B e xs, Row infoE 61 6 A d xs] := by
  refine tri_of Tryz.func10 rfl rfl fun F => ?_
  simp only [Tryz.ntmps10, argEnv, List.cons_append, List.nil_append]
  refine at_seq_k (fun K0 hK0 => ?_)
  refine at_region ?_
  refine at_v (ov_assign rfl rfl) rfl rfl rfl ?_
  refine at_nil ?_
  refine at_normal ?_
  refine hK0 _ _ _ ?_
  refine at_seq_k (fun K1 hK1 => ?_)
  refine at_region ?_
  refine at_t (ot_buildSlice (cs := []) rfl Tryz.underlying39 rfl rfl rfl rfl rfl rfl) rfl rfl rfl ?_
  rintro _ _ ⟨g0, rfl, rfl⟩
  refine at_v (ov_assign rfl rfl) rfl rfl rfl ?_
  refine at_nil ?_
  refine at_normal ?_
  refine hK1 _ _ _ ?_
  refine at_seq_k (fun K2 hK2 => ?_)
  refine at_seq_k (fun K3 hK3 => ?_)
  refine at_region ?_
  refine at_v (ov_move rfl rfl) rfl rfl rfl ?_
  refine at_v (ov_len_slice rfl Tryz.underlying41 rfl) rfl rfl rfl ?_
  refine at_v (ov_move rfl rfl) rfl rfl rfl ?_
  refine at_nil ?_
  refine at_normal ?_
  refine hK3 _ _ _ ?_
  refine at_block ?_
  refine at_rowOf infoE 0 (size := 6) (c := 0) [] rfl (by simp) (Nat.le_refl _) (by decide) (by simp) (by simp) ?_
  simp only [setAt]
  refine at_loopE [10, 11, 12, 5, 13, 14, 15, 16, 3, 17, 9] (ι := Nat × Option Addr × Nat) (fun i => i.1 ≤ xs.length) (fun i => [(9, .int .i64 (i.1 : Nat)), (3, .slice i.2.1 (xs.take i.1).length i.2.2)]) (fun i l => setAt 0 (Row infoE 75 6 i.2.1 i.2.2 (xs.take i.1)) l) (fun i => xs.length - i.1) (0, some ⟨g0, 0, none⟩, 0) (Nat.zero_le _) ⟨rfl, rfl, trivial⟩ (fun _ s => s) ?_
  rintro ⟨k, B, e⟩ hk
  simp only at hk
  simp only [setAt]
  refine at_seq_k (fun K4 hK4 => ?_)
  refine at_region ?_
  refine at_v (ov_int rfl rfl rfl rfl) rfl rfl rfl ?_
  refine at_nil ?_
  refine at_normal ?_
  refine hK4 _ _ _ ?_
  refine at_seq_k (fun K5 hK5 => ?_)
  refine at_cond rfl (fun hc => ?_) (fun hc => ?_)
  · have hlt : k < xs.length := by simpa using hc
    have hget : xs[k]? = some xs[k] := List.getElem?_eq_getElem hlt
    have htk : xs.take (k + 1) = xs.take k ++ [xs[k]] := by rw [List.take_add_one, hget]; rfl
    have hl0 : (xs.take k).length ≤ 1000 := by rw [List.length_take]; omega
    refine at_skip ?_
    refine at_normal ?_
    refine hK5 _ _ _ ?_
    refine at_seq_k (fun K6 hK6 => ?_)
    refine at_block ?_
    refine at_seq_k (fun K7 hK7 => ?_)
    refine at_region ?_
    refine at_v (ov_indexRd (fun _ s => s.rd (k := 1) rfl) rfl Tryz.underlying41 rfl rfl rfl hget) rfl rfl rfl ?_
    refine at_v (ov_loadRdS (vs := [_, _, _, _, _, _]) (fun _ s => s.rd (k := 1) rfl) rfl rfl rfl hget rfl rfl) rfl rfl rfl ?_
    refine at_t (ot_allocA rfl Tryz.zeroValue61) rfl rfl rfl ?_
    rintro _ _ ⟨g1, rfl, rfl⟩
    refine at_t0 (ot_store (k := 0) rfl rfl rfl rfl rfl rfl rfl) rfl rfl ?_
    rintro _ _ ⟨rfl, rfl⟩
    simp only [setAt, splice, spliceL, Value.cells]
    refine at_nil ?_
    refine at_normal ?_
    refine hK7 _ _ _ ?_
    refine at_region ?_
    refine at_v (ov_move rfl rfl) rfl rfl rfl ?_
    refine at_v (ov_loadS (cs := [_, _, _, _, _, _]) rfl rfl rfl rfl (fun _ s => s.lds (k := 0) rfl ⟨rfl, rfl, rfl, rfl, rfl, rfl, trivial⟩)) rfl rfl rfl ?_
    refine at_t (ot_buildSlice (cs := [_, _, _, _, _, _]) rfl Tryz.underlying39 rfl rfl rfl rfl rfl rfl) rfl rfl rfl ?_
    rintro _ _ ⟨g2, rfl, rfl⟩
    refine at_t (ot_append (k := 2) (size := 6) (bytes := 48) (ys := [xs[k]]) (fun _ s => s.rdPt (k := 0) rfl rfl (by simp [infoE])) rfl Tryz.underlying39 (ti := Tryz.t75) rfl rfl rfl rfl rfl (by decide) rfl rfl rfl (by simp [infoE, Value.oneCell']) (by simp; omega) (by decide)) rfl rfl rfl ?_
    rintro _ _ ⟨A0, c0, rfl, rfl⟩
    simp only [setAt]
    rw [← htk]
    refine at_v (ov_assign rfl rfl) rfl rfl rfl ?_
    refine at_nil ?_
    refine at_inb_normal ?_
    refine at_normal ?_
    refine hK6 _ _ _ ?_
    refine at_region ?_
    refine at_v ((ov_int rfl rfl rfl rfl).eq (congrArg (Value.int .i64) (inK_i64 (by omega) (by omega)))) rfl rfl rfl ?_
    refine at_v (ov_move rfl rfl) rfl rfl rfl ?_
    refine at_nil ?_
    refine at_normal ?_
    refine at_roundF (k + 1, _, _) hlt (by simp only; omega) ⟨rfl, rfl, trivial⟩ rfl ?_
    exact fun _ s => s.finEq (ks := [2, 2]) (js := [0, 0]) rfl rfl rfl
  · have hk2 : k = xs.length := by
      have : ¬ k < xs.length := by simpa using hc
      omega
    subst hk2
    simp only [List.take_length]
    refine at_exit ?_
    refine at_then_exit ?_
    refine at_then_exit ?_
    refine at_exit_eq ?_
    refine at_normal ?_
    refine hK2 _ _ _ ?_
    refine at_seq_k (fun K6 hK6 => ?_)
    refine at_region ?_
    refine at_v (ov_move rfl rfl) rfl rfl rfl ?_
    refine at_v (ov_assign rfl rfl) rfl rfl rfl ?_
    refine at_nil ?_
    refine at_normal ?_
    refine hK6 _ _ _ ?_
    refine at_ret ?_
    refine at_end ?_
    refine at_fin (rsV rfl (res_tmp rfl)) ?_
    refine ⟨_, ⟨_, _, rfl, rfl⟩, ?_⟩
    exact fun _ s => s.finEq (ks := [0, 0]) (js := []) rfl rfl rfl
theorem T4 (w0 : World) : Tri Tryz.prog w0 4 [] [] fun v m => v = .bool true ∧ m = [] := by
  refine tri_of Tryz.func4 rfl rfl fun F => ?_
  simp only [Tryz.ntmps4, argEnv, List.cons_append, List.nil_append]
  refine at_seq_k (fun K0 hK0 => ?_)
  refine at_region ?_
  refine at_v (ov_assign rfl rfl) rfl rfl rfl ?_
  refine at_nil ?_
  refine at_normal ?_
  refine hK0 _ _ _ ?_
  refine at_seq_k (fun K1 hK1 => ?_)
  refine at_region ?_
  refine at_t (ot_call (ks := []) rfl rfl rfl Tryz.call5 rfl (T5 _ _ _ _) rfl) rfl rfl rfl ?_
  rintro v0 _ ⟨m0, hp0, rfl⟩
  obtain ⟨b0, hp0⟩ := hp0
  obtain ⟨hq0, hp0⟩ := hp0
  obtain ⟨hq1, hp0⟩ := hp0
  cases b0 with
  | false => simp at hq0
  | true =>
    obtain ⟨g, rfl, rfl⟩ := hp0 rfl
    simp only [List.cons_append, List.nil_append]
    have c1 : Tri Tryz.prog w0 15 [ptrTo g, .int .i64 5, .int .u64 1, .int .u64 0] [PoolA g 1 5 1 0 [] []] fun v m => v = .tuple #[.int .i64 1, .int .i64 0] ∧ m = [PoolA g 1 5 1 1 [] [(1, ⟨1, 0, 5, 0, false, false⟩, 0)]] := T15 w0 5 1 0 (by simp) (by simp) (by simp [Open4]) (by omega) (by simp)
    have c2 : Tri Tryz.prog w0 15 [ptrTo g, .int .i64 6, .int .u64 1, .int .u64 0] [PoolA g 1 5 1 1 [] [(1, ⟨1, 0, 5, 0, false, false⟩, 0)]] fun v m => v = .tuple #[.int .i64 0, .int .i64 13] ∧ m = [PoolA g 1 5 1 1 [6] [(1, ⟨1, 0, 5, 0, false, false⟩, 0)]] := T15 w0 6 1 0 (by simp) (by simp) (by simp [Open4, CM.state]) (by omega) (by simp)
    have c3 : Tri Tryz.prog w0 15 [ptrTo g, .int .i64 7, .int .u64 1, .int .u64 0] [PoolA g 1 5 1 1 [6] [(1, ⟨1, 0, 5, 0, false, false⟩, 0)]] fun v m => v = .tuple #[.int .i64 0, .int .i64 5] ∧ m = [PoolA g 1 5 1 1 [6] [(1, ⟨1, 0, 5, 0, false, false⟩, 0)]] := T15 w0 7 1 0 (by simp) (by simp) (by simp [Open4, CM.state]) (by omega) (by simp)
    have c4 : Tri Tryz.prog w0 16 [ptrTo g, .int .i64 1, .int .u64 9] [PoolA g 1 5 1 1 [6] [(1, ⟨1, 0, 5, 0, false, false⟩, 0)]] fun v m => v = .int .i64 0 ∧ m = [PoolA g 1 5 1 1 [6] [(1, ⟨1, 9, 5, 1, false, false⟩, 0)]] := T16 w0 1 9
    have c5 : Tri Tryz.prog w0 17 [ptrTo g, .int .i64 1, .int .u64 9] [PoolA g 1 5 1 1 [6] [(1, ⟨1, 9, 5, 1, false, false⟩, 0)]] fun v m => v = .bool true ∧ m = [PoolA g 1 5 1 1 [6] [(1, ⟨1, 0, 5, 1, false, false⟩, 0)]] := T17 w0 1 9
    have c6 : Tri Tryz.prog w0 18 [ptrTo g, .int .i64 1, .int .u64 2] [PoolA g 1 5 1 1 [6] [(1, ⟨1, 0, 5, 1, false, false⟩, 0)]] fun v m => v = .bool true ∧ m = [PoolA g 1 5 1 1 [6] [(1, ⟨1, 0, 0, 1, false, false⟩, 2)]] := T18 w0 1 2
    have c7 : Tri Tryz.prog w0 19 [ptrTo g, .int .u64 1, .int .u64 3] [PoolA g 1 5 1 1 [6] [(1, ⟨1, 0, 0, 1, false, false⟩, 2)]] fun v m => v = .tuple #[.int .i64 6, .int .i64 1, .bool true] ∧ m = [PoolA g 1 5 1 1 [] [(1, ⟨1, 0, 6, 1, false, false⟩, 2)]] := T19 w0 1 3 (by simp) (by simp) (by simp [Open4, CM.state]) (by omega) (by simp)
    have c8 : Tri Tryz.prog w0 11 [ptrTo g] [PoolA g 1 5 1 1 [6] [(1, ⟨1, 9, 5, 1, false, false⟩, 0)]] fun v m => ∃ A c, v = .slice A 1 c ∧ m = [Row infoE 61 6 A c [(1, ⟨1, 9, 5, 1, false, false⟩, 0)], PoolA g 1 5 1 1 [6] [(1, ⟨1, 9, 5, 1, false, false⟩, 0)]] := T11 w0 (by simp) (by simp) (by simp [Open4, CM.state])
    have hat : ([(1, ⟨1, 9, 5, 1, false, false⟩, 0)] : List XM)[0]? = some (1, ⟨1, 9, 5, 1, false, false⟩, 0) := rfl
    refine at_v (ov_move rfl rfl) rfl rfl rfl ?_
    refine at_v (ov_extract rfl rfl rfl) rfl rfl rfl ?_
    refine at_v (ov_extract rfl rfl rfl) rfl rfl rfl ?_
    refine at_v (ov_assign rfl rfl) rfl rfl rfl ?_
    refine at_v (ov_assign rfl rfl) rfl rfl rfl ?_
    refine at_nil ?_
    refine at_normal ?_
    refine hK1 _ _ _ ?_
    refine at_seq_k (fun K2 hK2 => ?_)
    refine at_seq_k (fun K3 hK3 => ?_)
    refine at_region ?_
    refine at_v (ov_move rfl rfl) rfl rfl rfl ?_
    refine at_v (ov_ptr_nil (q := none) rfl Tryz.underlying25 rfl rfl) rfl rfl rfl ?_
    refine at_v (ov_move rfl rfl) rfl rfl rfl ?_
    refine at_wanted (j := 2) rfl ?_
    refine at_v (ov_move rfl rfl) rfl rfl rfl ?_
    refine at_wanted (j := 2) rfl ?_
    refine at_v (ov_int rfl rfl rfl rfl) rfl rfl rfl ?_
    refine at_v (ov_pick_f rfl rfl rfl) rfl rfl rfl ?_
    refine at_nil ?_
    refine at_normal ?_
    refine hK3 _ _ _ ?_
    refine at_cond_false rfl ?_
    refine at_skip ?_
    refine at_normal ?_
    refine hK2 _ _ _ ?_
    refine at_seq_k (fun K4 hK4 => ?_)
    refine at_region ?_
    refine at_v (ov_move rfl rfl) rfl rfl rfl ?_
    refine at_t (ot_call (ks := [0]) rfl rfl rfl Tryz.call15 rfl (c1 ) rfl) rfl rfl rfl ?_
    rintro v0 _ ⟨m0, hp1, rfl⟩
    obtain ⟨rfl, rfl⟩ := hp1
    simp only [List.cons_append, List.nil_append, splice, spliceL]
    refine at_v (ov_move rfl rfl) rfl rfl rfl ?_
    refine at_v (ov_extract rfl rfl rfl) rfl rfl rfl ?_
    refine at_v (ov_extract rfl rfl rfl) rfl rfl rfl ?_
    refine at_v (ov_assign rfl rfl) rfl rfl rfl ?_
    refine at_v (ov_assign rfl rfl) rfl rfl rfl ?_
    refine at_nil ?_
    refine at_normal ?_
    refine hK4 _ _ _ ?_
    refine at_seq_k (fun K5 hK5 => ?_)
    refine at_region ?_
    refine at_v (ov_move rfl rfl) rfl rfl rfl ?_
    refine at_t (ot_call (ks := [0]) rfl rfl rfl Tryz.call15 rfl (c2 ) rfl) rfl rfl rfl ?_
    rintro v0 _ ⟨m0, hp1, rfl⟩
    obtain ⟨rfl, rfl⟩ := hp1
    simp only [List.cons_append, List.nil_append, splice, spliceL]
    refine at_v (ov_move rfl rfl) rfl rfl rfl ?_
    refine at_v (ov_extract rfl rfl rfl) rfl rfl rfl ?_
    refine at_v (ov_extract rfl rfl rfl) rfl rfl rfl ?_
    refine at_v (ov_assign rfl rfl) rfl rfl rfl ?_
    refine at_v (ov_assign rfl rfl) rfl rfl rfl ?_
    refine at_nil ?_
    refine at_normal ?_
    refine hK5 _ _ _ ?_
    refine at_seq_k (fun K6 hK6 => ?_)
    refine at_region ?_
    refine at_v (ov_move rfl rfl) rfl rfl rfl ?_
    refine at_t (ot_call (ks := [0]) rfl rfl rfl Tryz.call15 rfl (c3 ) rfl) rfl rfl rfl ?_
    rintro v0 _ ⟨m0, hp1, rfl⟩
    obtain ⟨rfl, rfl⟩ := hp1
    simp only [List.cons_append, List.nil_append, splice, spliceL]
    refine at_v (ov_move rfl rfl) rfl rfl rfl ?_
    refine at_v (ov_extract rfl rfl rfl) rfl rfl rfl ?_
    refine at_v (ov_extract rfl rfl rfl) rfl rfl rfl ?_
    refine at_v (ov_assign rfl rfl) rfl rfl rfl ?_
    refine at_v (ov_assign rfl rfl) rfl rfl rfl ?_
    refine at_nil ?_
    refine at_normal ?_
    refine hK6 _ _ _ ?_
    refine at_seq_k (fun K7 hK7 => ?_)
    refine at_region ?_
    refine at_v (ov_move rfl rfl) rfl rfl rfl ?_
    refine at_t (ot_call (ks := [0]) rfl rfl rfl Tryz.call16 rfl (c4 ) rfl) rfl rfl rfl ?_
    rintro v0 _ ⟨m0, hp1, rfl⟩
    obtain ⟨rfl, rfl⟩ := hp1
    simp only [List.cons_append, List.nil_append, splice, spliceL]
    refine at_v (ov_assign rfl rfl) rfl rfl rfl ?_
    refine at_nil ?_
    refine at_normal ?_
    refine hK7 _ _ _ ?_
    refine at_seq_k (fun K8 hK8 => ?_)
    refine at_region ?_
    refine at_v (ov_move rfl rfl) rfl rfl rfl ?_
    refine at_t (ot_call (ks := [0]) rfl rfl rfl Tryz.call11 rfl (c8 ) rfl) rfl rfl rfl ?_
    rintro v0 _ ⟨m0, hp1, rfl⟩
    obtain ⟨A0, hp1⟩ := hp1
    obtain ⟨c0, hp1⟩ := hp1
    obtain ⟨rfl, rfl⟩ := hp1
    simp only [List.cons_append, List.nil_append, splice, spliceL]
    refine at_v (ov_assign rfl rfl) rfl rfl rfl ?_
    refine at_nil ?_
    refine at_normal ?_
    refine hK8 _ _ _ ?_
    refine at_seq_k (fun K9 hK9 => ?_)
    refine at_region ?_
    refine at_v (ov_move rfl rfl) rfl rfl rfl ?_
    refine at_t (ot_call (ks := [1]) rfl rfl rfl Tryz.call17 rfl (c5 ) rfl) rfl rfl rfl ?_
    rintro v0 _ ⟨m0, hp1, rfl⟩
    obtain ⟨rfl, rfl⟩ := hp1
    simp only [List.cons_append, List.nil_append, splice, spliceL]
    refine at_v (ov_move rfl rfl) rfl rfl rfl ?_
    refine at_wanted (j := 2) rfl ?_
    refine at_v (ov_move rfl rfl) rfl rfl rfl ?_
    refine at_wanted (j := 2) rfl ?_
    refine at_t (ot_call (ks := [0]) rfl rfl rfl Tryz.call18 rfl (c6 ) rfl) rfl rfl rfl ?_
    rintro v0 _ ⟨m0, hp1, rfl⟩
    obtain ⟨rfl, rfl⟩ := hp1
    simp only [List.cons_append, List.nil_append, splice, spliceL]
    refine at_v (ov_pick_t rfl rfl rfl) rfl rfl rfl ?_
    refine at_v (ov_assign rfl rfl) rfl rfl rfl ?_
    refine at_nil ?_
    refine at_normal ?_
    refine hK9 _ _ _ ?_
    refine at_seq_k (fun K10 hK10 => ?_)
    refine at_region ?_
    refine at_v (ov_move rfl rfl) rfl rfl rfl ?_
    refine at_t (ot_call (ks := [0]) rfl rfl rfl Tryz.call19 rfl (c7 ) rfl) rfl rfl rfl ?_
    rintro v0 _ ⟨m0, hp1, rfl⟩
    obtain ⟨rfl, rfl⟩ := hp1
    simp only [List.cons_append, List.nil_append, splice, spliceL]
    refine at_v (ov_move rfl rfl) rfl rfl rfl ?_
    refine at_v (ov_extract rfl rfl rfl) rfl rfl rfl ?_
    refine at_v (ov_extract rfl rfl rfl) rfl rfl rfl ?_
    refine at_v (ov_extract rfl rfl rfl) rfl rfl rfl ?_
    refine at_v (ov_assign rfl rfl) rfl rfl rfl ?_
    refine at_v (ov_assign rfl rfl) rfl rfl rfl ?_
    refine at_v (ov_assign rfl rfl) rfl rfl rfl ?_
    refine at_nil ?_
    refine at_normal ?_
    refine hK10 _ _ _ ?_
    refine at_seq_k (fun K11 hK11 => ?_)
    refine at_region ?_
    refine at_v (ov_move rfl rfl) rfl rfl rfl ?_
    refine at_v (ov_int rfl rfl rfl rfl) rfl rfl rfl ?_
    refine at_v (ov_move rfl rfl) rfl rfl rfl ?_
    refine at_wanted (j := 2) rfl ?_
    refine at_v (ov_move rfl rfl) rfl rfl rfl ?_
    refine at_wanted (j := 2) rfl ?_
    refine at_v (ov_int rfl rfl rfl rfl) rfl rfl rfl ?_
    refine at_v (ov_pick_t rfl rfl rfl) rfl rfl rfl ?_
    refine at_v (ov_move rfl rfl) rfl rfl rfl ?_
    refine at_wanted (j := 6) rfl ?_
    refine at_v (ov_move rfl rfl) rfl rfl rfl ?_
    refine at_wanted (j := 6) rfl ?_
    refine at_v (ov_int rfl rfl rfl rfl) rfl rfl rfl ?_
    refine at_v (ov_pick_t rfl rfl rfl) rfl rfl rfl ?_
    refine at_v (ov_move rfl rfl) rfl rfl rfl ?_
    refine at_wanted (j := 10) rfl ?_
    refine at_v (ov_move rfl rfl) rfl rfl rfl ?_
    refine at_wanted (j := 10) rfl ?_
    refine at_v (ov_int rfl rfl rfl rfl) rfl rfl rfl ?_
    refine at_v (ov_pick_t rfl rfl rfl) rfl rfl rfl ?_
    refine at_v (ov_move rfl rfl) rfl rfl rfl ?_
    refine at_wanted (j := 14) rfl ?_
    refine at_v (ov_move rfl rfl) rfl rfl rfl ?_
    refine at_wanted (j := 14) rfl ?_
    refine at_v (ov_int rfl rfl rfl rfl) rfl rfl rfl ?_
    refine at_v (ov_pick_t rfl rfl rfl) rfl rfl rfl ?_
    refine at_v (ov_move rfl rfl) rfl rfl rfl ?_
    refine at_wanted (j := 18) rfl ?_
    refine at_v (ov_move rfl rfl) rfl rfl rfl ?_
    refine at_wanted (j := 18) rfl ?_
    refine at_v (ov_len_slice rfl Tryz.underlying41 rfl) rfl rfl rfl ?_
    refine at_wanted (j := 18) rfl ?_
    refine at_v (ov_int rfl rfl rfl rfl) rfl rfl rfl ?_
    refine at_v (ov_pick_t rfl rfl rfl) rfl rfl rfl ?_
    refine at_v (ov_move rfl rfl) rfl rfl rfl ?_
    refine at_wanted (j := 23) rfl ?_
    refine at_v (ov_move rfl rfl) rfl rfl rfl ?_
    refine at_wanted (j := 23) rfl ?_
    refine at_v (ov_indexRd (fun _ s => s.rd (k := 1) rfl) rfl Tryz.underlying41 rfl rfl rfl hat) rfl rfl rfl ?_
    refine at_wanted (j := 23) rfl ?_
    refine at_v (ov_loadRdS (vs := [_, _, _, _, _, _]) (fun _ s => s.rd (k := 1) rfl) rfl rfl rfl hat rfl rfl) rfl rfl rfl ?_
    refine at_wanted (j := 23) rfl ?_
    refine at_v (ov_build (cs := [_, _, _, _, _, _]) rfl rfl rfl rfl) rfl rfl rfl ?_
    refine at_wanted (j := 23) rfl ?_
    refine at_v (ov_eqS rfl (by kernel_rfl) rfl rfl rfl rfl) rfl rfl rfl ?_
    refine at_v (ov_pick_t rfl rfl rfl) rfl rfl rfl ?_
    refine at_v (ov_move rfl rfl) rfl rfl rfl ?_
    refine at_wanted (j := 30) rfl ?_
    refine at_v (ov_move rfl rfl) rfl rfl rfl ?_
    refine at_v (ov_pick_t rfl rfl rfl) rfl rfl rfl ?_
    refine at_v (ov_move rfl rfl) rfl rfl rfl ?_
    refine at_wanted (j := 33) rfl ?_
    refine at_v (ov_move rfl rfl) rfl rfl rfl ?_
    refine at_wanted (j := 33) rfl ?_
    refine at_v (ov_int rfl rfl rfl rfl) rfl rfl rfl ?_
    refine at_v (ov_pick_t rfl rfl rfl) rfl rfl rfl ?_
    refine at_v (ov_move rfl rfl) rfl rfl rfl ?_
    refine at_wanted (j := 37) rfl ?_
    refine at_v (ov_move rfl rfl) rfl rfl rfl ?_
    refine at_wanted (j := 37) rfl ?_
    refine at_v (ov_int rfl rfl rfl rfl) rfl rfl rfl ?_
    refine at_v (ov_pick_t rfl rfl rfl) rfl rfl rfl ?_
    refine at_v (ov_move rfl rfl) rfl rfl rfl ?_
    refine at_wanted (j := 41) rfl ?_
    refine at_v (ov_move rfl rfl) rfl rfl rfl ?_
    refine at_v (ov_pick_t rfl rfl rfl) rfl rfl rfl ?_
    refine at_v (ov_move rfl rfl) rfl rfl rfl ?_
    refine at_wanted (j := 44) rfl ?_
    refine at_v (ov_move rfl rfl) rfl rfl rfl ?_
    refine at_wanted (j := 44) rfl ?_
    refine at_t (ot_call (ks := [0]) rfl rfl rfl Tryz.call14 rfl (T14 _) rfl) rfl rfl rfl ?_
    rintro v0 _ ⟨m0, hp1, rfl⟩
    obtain ⟨A1, hp1⟩ := hp1
    obtain ⟨c9, hp1⟩ := hp1
    obtain ⟨rfl, rfl⟩ := hp1
    simp only [List.cons_append, List.nil_append, splice, spliceL]
    refine at_wanted (j := 44) rfl ?_
    refine at_v (ov_len_slice rfl Tryz.underlying45 rfl) rfl rfl rfl ?_
    refine at_wanted (j := 44) rfl ?_
    refine at_v (ov_int rfl rfl rfl rfl) rfl rfl rfl ?_
    refine at_v (ov_pick_t rfl rfl rfl) rfl rfl rfl ?_
    refine at_v (ov_assign rfl rfl) rfl rfl rfl ?_
    refine at_nil ?_
    refine at_normal ?_
    refine hK11 _ _ _ ?_
    refine at_ret ?_
    refine at_end ?_
    refine at_fin (rsV rfl (res_tmp rfl)) ?_
    refine ⟨_, ⟨rfl, rfl⟩, ?_⟩
    exact fun _ s => s.finEq (ks := []) (js := [0, 0, 0]) rfl rfl rfl
