/- Package plan: the law's large and awake, walked. -/
import Derived.Test.YtmedbdcjniggcaaDoorProg
import Derived.Test.YtmedbdcjniggcaaDoorPlan6
import Derived.Test.YtmedbdcjniggcaaDoorPlan4
import Derived.Test.YtmedbdcjniggcaaDoorRefPlan3
import Derived.Test.YtmedbdcjniggcaaDoorSLCopy
import Derived.Test.YtmedbdcjniggcaaDoorSLStr
import Derived.KernelRfl
set_option linter.unusedSimpArgs false
set_option linter.unusedVariables false
set_option maxRecDepth 100000
set_option maxHeartbeats 4000000
namespace Go.Proofs.YtmedbdcjniggcaaDoor
open Go Go.Proofs.YtmedbdcjniggcaaDoor.SL Go.RowKit
theorem T7 (w0 : World) {A : Option Addr} {c : Nat} {l : List PR} (hr : Rd pE w0 2 A l) (hm : l.length ≤ 4398046511000) (hb : ∀ x ∈ l, x.1.length ≤ 140737488351232 ∧ x.2.length ≤ 140737488351232) : Tri Tryd.prog w0 7 [.slice A l.length c] [] fun v m => v = .bool (largeP l) ∧ m = [] := by
  refine tri_of Tryd.func7 rfl rfl fun F => ?_
  simp only [Tryd.ntmps7, argEnv, List.cons_append, List.nil_append]
  by_cases hbig : 100 < l.length
  · have hi2 : decide ((l.length : Int) > 100) = true := decide_eq_true (by omega)
    have hlg : largeP l = true := by unfold largeP; rw [decide_eq_true hbig]; rfl
    refine at_seq_k (fun K0 hK0 => ?_)
    refine at_region ?_
    refine at_v (ov_assign rfl rfl) rfl rfl rfl ?_
    refine at_nil ?_
    refine at_normal ?_
    refine hK0 _ _ _ ?_
    refine at_seq_k (fun K1 hK1 => ?_)
    refine at_region ?_
    refine at_v (ov_assign rfl rfl) rfl rfl rfl ?_
    refine at_nil ?_
    refine at_normal ?_
    refine hK1 _ _ _ ?_
    refine at_seq_k (fun K2 hK2 => ?_)
    refine at_seq_k (fun K3 hK3 => ?_)
    refine at_region ?_
    refine at_v (ov_move rfl rfl) rfl rfl rfl ?_
    refine at_v (ov_len_slice rfl Tryd.underlying24 rfl) rfl rfl rfl ?_
    refine at_v (ov_move rfl rfl) rfl rfl rfl ?_
    refine at_nil ?_
    refine at_normal ?_
    refine hK3 _ _ _ ?_
    refine at_block ?_
    refine at_loopE [9, 10, 11, 5, 12, 13, 14, 15, 16, 17, 18, 19, 20, 21, 3, 22, 8] (fun i : Nat × Int => i.1 ≤ l.length) (fun i => [(8, .int .i64 (i.1 : Nat)), (3, .int .i64 i.2)]) (fun i q => q) (fun i => l.length - i.1) (0, 0) (Nat.zero_le _) ⟨rfl, rfl, trivial⟩ (fun _ s => s) ?_
    rintro ⟨k, n⟩ hk
    dsimp only at hk
    dsimp only
    rcases Nat.lt_or_ge k l.length with hlt | hge
    · have hi1 : decide ((k : Int) < l.length) = true := decide_eq_true (by omega)
      obtain ⟨x, hget⟩ : ∃ x, l[k]? = some x := ⟨_, List.getElem?_eq_getElem hlt⟩
      obtain ⟨hb1, hb2⟩ := hb x (List.mem_of_getElem? hget)
      refine at_seq_k (fun K4 hK4 => ?_)
      refine at_region ?_
      refine at_v (ov_int rfl rfl rfl rfl) rfl rfl rfl ?_
      refine at_nil ?_
      refine at_normal ?_
      refine hK4 _ _ _ ?_
      refine at_seq_k (fun K5 hK5 => ?_)
      refine at_cond_true (congrArg (fun b => some (Value.bool b)) (show _ = true from decide_eq_true (by omega))) ?_
      refine at_skip ?_
      refine at_normal ?_
      refine hK5 _ _ _ ?_
      refine at_seq_k (fun K6 hK6 => ?_)
      refine at_block ?_
      refine at_seq_k (fun K7 hK7 => ?_)
      refine at_region ?_
      refine at_v (ov_indexRd (fun _ s => hr.up s) rfl Tryd.underlying24 rfl rfl rfl hget) rfl rfl rfl ?_
      refine at_v (ov_loadRdS (vs := [_, _]) (fun _ s => hr.up s) rfl rfl rfl hget rfl rfl) rfl rfl rfl ?_
      refine at_t (ot_allocA rfl Tryd.zeroValue48) rfl rfl rfl ?_
      rintro _ _ ⟨g0, rfl, rfl⟩
      refine at_t0 (ot_store (k := 0) rfl rfl rfl rfl rfl rfl rfl) rfl rfl ?_
      rintro _ _ ⟨rfl, rfl⟩
      simp only [setAt, splice, spliceL, Value.cells]
      refine at_nil ?_
      refine at_normal ?_
      refine hK7 _ _ _ ?_
      refine at_region ?_
      refine at_v (ov_move rfl rfl) rfl rfl rfl ?_
      refine at_v (ov_fieldAddr (k := 0) (r := 0) rfl rfl rfl rfl) rfl rfl rfl ?_
      refine at_v (ov_load rfl rfl rfl (fun _ s => s.ld (k := 0) rfl rfl)) rfl rfl rfl ?_
      refine at_v (ov_len_strL rfl Tryd.underlying9 rfl) rfl rfl rfl ?_
      refine at_v (ov_fieldAddr (k := 1) (r := 1) rfl rfl rfl rfl) rfl rfl rfl ?_
      refine at_v (ov_load rfl rfl rfl (fun _ s => s.ld (k := 0) rfl rfl)) rfl rfl rfl ?_
      refine at_v (ov_len_strL rfl Tryd.underlying9 rfl) rfl rfl rfl ?_
      refine at_v ((ov_int rfl rfl rfl rfl).eq (congrArg (Value.int .i64) (inK_i64 (by omega) (by omega)))) rfl rfl rfl ?_
      refine at_v ((ov_int rfl rfl rfl rfl).eq (congrArg (Value.int .i64) (inK_i64 (by omega) (by omega)))) rfl rfl rfl ?_
      refine at_v (ov_int rfl rfl rfl rfl) rfl rfl rfl ?_
      refine at_v (ov_assign rfl rfl) rfl rfl rfl ?_
      refine at_nil ?_
      refine at_inb_normal ?_
      refine at_normal ?_
      refine hK6 _ _ _ ?_
      refine at_region ?_
      refine at_v ((ov_int rfl rfl rfl rfl).eq (congrArg (Value.int .i64) (inK_i64 (by omega) (by omega)))) rfl rfl rfl ?_
      refine at_v (ov_move rfl rfl) rfl rfl rfl ?_
      refine at_nil ?_
      refine at_normal ?_
      refine at_roundF (k + 1, _) hlt (by simp only; omega) ⟨rfl, rfl, trivial⟩ rfl ?_
      exact fun _ s => s.finEq (ks := []) (js := [0]) rfl rfl rfl
    · have hi1 : decide ((k : Int) < l.length) = false := decide_eq_false (by omega)
      refine at_seq_k (fun K4 hK4 => ?_)
      refine at_region ?_
      refine at_v (ov_int rfl rfl rfl rfl) rfl rfl rfl ?_
      refine at_nil ?_
      refine at_normal ?_
      refine hK4 _ _ _ ?_
      refine at_seq_k (fun K5 hK5 => ?_)
      refine at_cond_false (congrArg (fun b => some (Value.bool b)) (show _ = false from decide_eq_false (by omega))) ?_
      refine at_exit ?_
      refine at_then_exit ?_
      refine at_then_exit ?_
      refine at_exit_eq ?_
      refine at_normal ?_
      refine hK2 _ _ _ ?_
      refine at_seq_k (fun K6 hK6 => ?_)
      refine at_region ?_
      refine at_v (ov_move rfl rfl) rfl rfl rfl ?_
      refine at_v (ov_len_slice rfl Tryd.underlying24 rfl) rfl rfl rfl ?_
      refine at_v (ov_int rfl rfl rfl rfl) rfl rfl rfl ?_
      refine at_v (ov_move rfl rfl) rfl rfl rfl ?_
      refine at_reval 26 (.bool true) rfl (congrArg Value.bool (decide_eq_true (by omega))) ?_
      refine at_unwanted (j := 3) rfl rfl rfl rfl ?_
      refine at_unwanted (j := 3) rfl rfl rfl rfl ?_
      refine at_v (ov_pick_t rfl rfl rfl) rfl rfl rfl ?_
      refine at_v (ov_move rfl rfl) rfl rfl rfl ?_
      refine at_unwanted (j := 7) rfl rfl rfl rfl ?_
      refine at_unwanted (j := 7) rfl rfl rfl rfl ?_
      refine at_unwanted (j := 7) rfl rfl rfl rfl ?_
      refine at_unwanted (j := 7) rfl rfl rfl rfl ?_
      refine at_v (ov_pick_t rfl rfl rfl) rfl rfl rfl ?_
      refine at_v (ov_assign rfl rfl) rfl rfl rfl ?_
      refine at_nil ?_
      refine at_normal ?_
      refine hK6 _ _ _ ?_
      refine at_ret ?_
      refine at_end ?_
      refine at_fin (rsV rfl (res_tmp rfl)) ?_
      refine ⟨_, ⟨by rw [hlg], rfl⟩, ?_⟩
      exact fun _ s => s.finEq (ks := []) (js := []) rfl rfl rfl
  have hsum : sumP l ≤ 4611686018427387904 := by
    have key : ∀ (q : List PR), (∀ x ∈ q, x ∈ l) → sumP q ≤ q.length * 281474976702465 := by
      intro q
      induction q with
      | nil => intro _; simp [sumP]
      | cons a q ih =>
        intro hq
        have h1 := hb a (hq a (by simp))
        have h2 := ih fun x hx => hq x (by simp [hx])
        have e : sumP (a :: q) = a.1.length + a.2.length + 1 + sumP q := by unfold sumP; rw [List.map_cons, List.sum_cons]
        rw [e, List.length_cons, Nat.succ_mul]
        omega
    have h1 := key l fun x hx => hx
    have h2 : l.length * 281474976702465 ≤ 100 * 281474976702465 := Nat.mul_le_mul_right _ (by omega)
    omega
  refine at_seq_k (fun K0 hK0 => ?_)
  refine at_region ?_
  refine at_v (ov_assign rfl rfl) rfl rfl rfl ?_
  refine at_nil ?_
  refine at_normal ?_
  refine hK0 _ _ _ ?_
  refine at_seq_k (fun K1 hK1 => ?_)
  refine at_region ?_
  refine at_v (ov_assign rfl rfl) rfl rfl rfl ?_
  refine at_nil ?_
  refine at_normal ?_
  refine hK1 _ _ _ ?_
  refine at_seq_k (fun K2 hK2 => ?_)
  refine at_seq_k (fun K3 hK3 => ?_)
  refine at_region ?_
  refine at_v (ov_move rfl rfl) rfl rfl rfl ?_
  refine at_v (ov_len_slice rfl Tryd.underlying24 rfl) rfl rfl rfl ?_
  refine at_v (ov_move rfl rfl) rfl rfl rfl ?_
  refine at_nil ?_
  refine at_normal ?_
  refine hK3 _ _ _ ?_
  refine at_block ?_
  refine at_loopE [9, 10, 11, 5, 12, 13, 14, 15, 16, 17, 18, 19, 20, 21, 3, 22, 8] (fun i : Nat => i ≤ l.length) (fun i => [(8, .int .i64 (i : Nat)), (3, .int .i64 (sumP (l.take i) : Nat))]) (fun i q => q) (fun i => l.length - i) 0 (Nat.zero_le _) ⟨rfl, rfl, trivial⟩ (fun _ s => s) ?_
  intro k hk
  have hst := sumP_take l k
  rcases Nat.lt_or_ge k l.length with hlt | hge
  · have hi1 : decide ((k : Int) < l.length) = true := decide_eq_true (by omega)
    obtain ⟨x, hget⟩ : ∃ x, l[k]? = some x := ⟨_, List.getElem?_eq_getElem hlt⟩
    have hsu := sumP_succ hget
    have hst2 := sumP_take l (k + 1)
    obtain ⟨hb1, hb2⟩ := hb x (List.mem_of_getElem? hget)
    have hnum : ((sumP (l.take k) : Nat) : Int) + ((x.1.length : Nat) + (x.2.length : Nat) + 1) = (sumP (l.take (k + 1)) : Nat) := by rw [hsu]; omega
    refine at_seq_k (fun K4 hK4 => ?_)
    refine at_region ?_
    refine at_v (ov_int rfl rfl rfl rfl) rfl rfl rfl ?_
    refine at_nil ?_
    refine at_normal ?_
    refine hK4 _ _ _ ?_
    refine at_seq_k (fun K5 hK5 => ?_)
    refine at_cond_true (congrArg (fun b => some (Value.bool b)) (show _ = true from decide_eq_true (by omega))) ?_
    refine at_skip ?_
    refine at_normal ?_
    refine hK5 _ _ _ ?_
    refine at_seq_k (fun K6 hK6 => ?_)
    refine at_block ?_
    refine at_seq_k (fun K7 hK7 => ?_)
    refine at_region ?_
    refine at_v (ov_indexRd (fun _ s => hr.up s) rfl Tryd.underlying24 rfl rfl rfl hget) rfl rfl rfl ?_
    refine at_v (ov_loadRdS (vs := [_, _]) (fun _ s => hr.up s) rfl rfl rfl hget rfl rfl) rfl rfl rfl ?_
    refine at_t (ot_allocA rfl Tryd.zeroValue48) rfl rfl rfl ?_
    rintro _ _ ⟨g0, rfl, rfl⟩
    refine at_t0 (ot_store (k := 0) rfl rfl rfl rfl rfl rfl rfl) rfl rfl ?_
    rintro _ _ ⟨rfl, rfl⟩
    simp only [setAt, splice, spliceL, Value.cells]
    refine at_nil ?_
    refine at_normal ?_
    refine hK7 _ _ _ ?_
    refine at_region ?_
    refine at_v (ov_move rfl rfl) rfl rfl rfl ?_
    refine at_v (ov_fieldAddr (k := 0) (r := 0) rfl rfl rfl rfl) rfl rfl rfl ?_
    refine at_v (ov_load rfl rfl rfl (fun _ s => s.ld (k := 0) rfl rfl)) rfl rfl rfl ?_
    refine at_v (ov_len_strL rfl Tryd.underlying9 rfl) rfl rfl rfl ?_
    refine at_v (ov_fieldAddr (k := 1) (r := 1) rfl rfl rfl rfl) rfl rfl rfl ?_
    refine at_v (ov_load rfl rfl rfl (fun _ s => s.ld (k := 0) rfl rfl)) rfl rfl rfl ?_
    refine at_v (ov_len_strL rfl Tryd.underlying9 rfl) rfl rfl rfl ?_
    refine at_v ((ov_int rfl rfl rfl rfl).eq (congrArg (Value.int .i64) (inK_i64 (by omega) (by omega)))) rfl rfl rfl ?_
    refine at_v ((ov_int rfl rfl rfl rfl).eq (congrArg (Value.int .i64) (inK_i64 (by omega) (by omega)))) rfl rfl rfl ?_
    refine at_v ((ov_int rfl rfl rfl rfl).eq (congrArg (Value.int .i64) (inK_i64 (by omega) (by omega)))) rfl rfl rfl ?_
    refine at_v (ov_assign rfl rfl) rfl rfl rfl ?_
    refine at_nil ?_
    refine at_inb_normal ?_
    refine at_normal ?_
    refine hK6 _ _ _ ?_
    refine at_region ?_
    refine at_v ((ov_int rfl rfl rfl rfl).eq (congrArg (Value.int .i64) (inK_i64 (by omega) (by omega)))) rfl rfl rfl ?_
    refine at_v (ov_move rfl rfl) rfl rfl rfl ?_
    refine at_nil ?_
    refine at_normal ?_
    refine at_roundF (k + 1) hlt (by omega) ⟨rfl, look_eq rfl (by rw [← hnum]), trivial⟩ rfl ?_
    exact fun _ s => s.finEq (ks := []) (js := [0]) rfl rfl rfl
  · have hi1 : decide ((k : Int) < l.length) = false := decide_eq_false (by omega)
    rw [List.take_of_length_le hge]
    have hlg : largeP l = (decide (100 < l.length) || decide (10000 < sumP l) || !tabB l) := rfl
    by_cases h1 : 100 < l.length
    · exact absurd h1 hbig
    · have hi2 : decide ((l.length : Int) > 100) = false := decide_eq_false (by omega)
      by_cases h2 : 10000 < sumP l
      · have hi3 : decide ((sumP l : Int) > 10000) = true := decide_eq_true (by omega)
        refine at_seq_k (fun K4 hK4 => ?_)
        refine at_region ?_
        refine at_v (ov_int rfl rfl rfl rfl) rfl rfl rfl ?_
        refine at_nil ?_
        refine at_normal ?_
        refine hK4 _ _ _ ?_
        refine at_seq_k (fun K5 hK5 => ?_)
        refine at_cond_false (congrArg (fun b => some (Value.bool b)) (show _ = false from decide_eq_false (by omega))) ?_
        refine at_exit ?_
        refine at_then_exit ?_
        refine at_then_exit ?_
        refine at_exit_eq ?_
        refine at_normal ?_
        refine hK2 _ _ _ ?_
        refine at_seq_k (fun K6 hK6 => ?_)
        refine at_region ?_
        refine at_v (ov_move rfl rfl) rfl rfl rfl ?_
        refine at_v (ov_len_slice rfl Tryd.underlying24 rfl) rfl rfl rfl ?_
        refine at_v (ov_int rfl rfl rfl rfl) rfl rfl rfl ?_
        refine at_v (ov_move rfl rfl) rfl rfl rfl ?_
        refine at_reval 26 (.bool false) rfl (congrArg Value.bool (decide_eq_false (by omega))) ?_
        refine at_wanted (j := 3) rfl ?_
        refine at_v (ov_move rfl rfl) rfl rfl rfl ?_
        refine at_wanted (j := 3) rfl ?_
        refine at_v (ov_int rfl rfl rfl rfl) rfl rfl rfl ?_
        refine at_v (ov_pick_f rfl rfl rfl) rfl rfl rfl ?_
        refine at_v (ov_move rfl rfl) rfl rfl rfl ?_
        refine at_reval 30 (.bool true) rfl (congrArg Value.bool (decide_eq_true (by omega))) ?_
        refine at_unwanted (j := 7) rfl rfl rfl rfl ?_
        refine at_unwanted (j := 7) rfl rfl rfl rfl ?_
        refine at_unwanted (j := 7) rfl rfl rfl rfl ?_
        refine at_unwanted (j := 7) rfl rfl rfl rfl ?_
        refine at_v (ov_pick_t rfl rfl rfl) rfl rfl rfl ?_
        refine at_v (ov_assign rfl rfl) rfl rfl rfl ?_
        refine at_nil ?_
        refine at_normal ?_
        refine hK6 _ _ _ ?_
        refine at_ret ?_
        refine at_end ?_
        refine at_fin (rsV rfl (res_tmp rfl)) ?_
        refine ⟨_, ⟨by rw [hlg, decide_eq_true h2]; simp, rfl⟩, ?_⟩
        exact fun _ s => s.finEq (ks := []) (js := []) rfl rfl rfl
      · have hi3 : decide ((sumP l : Int) > 10000) = false := decide_eq_false (by omega)
        refine at_seq_k (fun K4 hK4 => ?_)
        refine at_region ?_
        refine at_v (ov_int rfl rfl rfl rfl) rfl rfl rfl ?_
        refine at_nil ?_
        refine at_normal ?_
        refine hK4 _ _ _ ?_
        refine at_seq_k (fun K5 hK5 => ?_)
        refine at_cond_false (congrArg (fun b => some (Value.bool b)) (show _ = false from decide_eq_false (by omega))) ?_
        refine at_exit ?_
        refine at_then_exit ?_
        refine at_then_exit ?_
        refine at_exit_eq ?_
        refine at_normal ?_
        refine hK2 _ _ _ ?_
        refine at_seq_k (fun K6 hK6 => ?_)
        refine at_region ?_
        refine at_v (ov_move rfl rfl) rfl rfl rfl ?_
        refine at_v (ov_len_slice rfl Tryd.underlying24 rfl) rfl rfl rfl ?_
        refine at_v (ov_int rfl rfl rfl rfl) rfl rfl rfl ?_
        refine at_v (ov_move rfl rfl) rfl rfl rfl ?_
        refine at_reval 26 (.bool false) rfl (congrArg Value.bool (decide_eq_false (by omega))) ?_
        refine at_wanted (j := 3) rfl ?_
        refine at_v (ov_move rfl rfl) rfl rfl rfl ?_
        refine at_wanted (j := 3) rfl ?_
        refine at_v (ov_int rfl rfl rfl rfl) rfl rfl rfl ?_
        refine at_v (ov_pick_f rfl rfl rfl) rfl rfl rfl ?_
        refine at_v (ov_move rfl rfl) rfl rfl rfl ?_
        refine at_reval 30 (.bool false) rfl (congrArg Value.bool (decide_eq_false (by omega))) ?_
        refine at_wanted (j := 7) rfl ?_
        refine at_v (ov_move rfl rfl) rfl rfl rfl ?_
        refine at_wanted (j := 7) rfl ?_
        refine at_t (ot_call (ks := []) rfl rfl rfl Tryd.call10 rfl (T10 _ (by first | assumption | rfl | omega | decide | (simp; done) | (simp at *; omega)) (by first | assumption | rfl | omega | decide | (simp; done) | (simp at *; omega))) rfl) rfl rfl rfl ?_
        rintro v0 _ ⟨m0, hp0, rfl⟩
        obtain ⟨B0, hp0⟩ := hp0
        obtain ⟨e0, hp0⟩ := hp0
        obtain ⟨rfl, rfl⟩ := hp0
        simp only [List.cons_append, List.nil_append, splice, spliceL]
        refine at_wanted (j := 7) rfl ?_
        refine at_t (ot_call (ks := [0]) rfl rfl rfl Tryd.call15 rfl (T15 _ (by first | assumption | rfl | omega | decide | (simp; done) | (simp at *; omega))) rfl) rfl rfl rfl ?_
        rintro v0 _ ⟨m0, hp0, rfl⟩
        obtain ⟨rfl, rfl⟩ := hp0
        simp only [List.cons_append, List.nil_append, splice, spliceL]
        refine at_wanted (j := 7) rfl ?_
        refine at_v (ov_not rfl rfl) rfl rfl rfl ?_
        refine at_v (ov_pick_f rfl rfl rfl) rfl rfl rfl ?_
        refine at_v (ov_assign rfl rfl) rfl rfl rfl ?_
        refine at_nil ?_
        refine at_normal ?_
        refine hK6 _ _ _ ?_
        refine at_ret ?_
        refine at_end ?_
        refine at_fin (rsV rfl (res_tmp rfl)) ?_
        refine ⟨_, ⟨by rw [hlg, decide_eq_false h1, decide_eq_false h2]; simp, rfl⟩, ?_⟩
        exact fun _ s => s.finEq (ks := []) (js := [0]) rfl rfl rfl
def pinA : BL := [105, 110, 115, 101, 114, 116, 32, 105, 110, 116, 111, 32, 107, 118, 32, 118, 97, 108, 117, 101, 115, 32, 40, 39, 97, 39, 44, 32, 39, 98, 39, 41]
def pinB : BL := [115, 101, 108, 101, 99, 116, 32, 118, 32, 102, 114, 111, 109, 32, 107, 118, 32, 119, 104, 101, 114, 101, 32, 107, 32, 61, 32, 39, 97, 39, 59]
def pinX : BL := [120]
theorem planA : planL pinA = (3, [97], [98]) := by decide +kernel
theorem planB : planL pinB = (1, [97], []) := by decide +kernel
theorem planX : planL pinX = (0, [], []) := by decide +kernel
theorem writesA : writesL (3, [97], [98]) [] = ([([97], [98])], 1) := by decide +kernel
theorem readsB : readsL (1, [97], []) [([97], [98])] = [[98]] := by decide +kernel
theorem T6 (w0 : World) (hM : MaxL w0) : Tri Tryd.prog w0 6 [] [] fun v m => v = .bool true ∧ m = [] := by
  refine tri_of Tryd.func6 rfl rfl fun F => ?_
  simp only [Tryd.ntmps6, argEnv, List.nil_append]
  have hA := T17 w0 pinA (by decide) hM
  rw [planA] at hA
  have hB := T17 w0 pinB (by decide) hM
  rw [planB] at hB
  have hX := T17 w0 pinX (by decide) hM
  rw [planX] at hX
  have hW := T8 w0 (3, [97], [98]) (A := none) (c := 0) (l := []) (Rd.nil pE w0 2 none) rfl (by decide)
  rw [writesA] at hW
  unfold planV at hA hB hX
  have hR {A : Option Addr} {c c' : Nat} := T12a w0 (1, [97], []) (A := A) (c := c) (c' := c') (l := [([97], [98])]) rfl (by decide)
  rw [readsB] at hR
  have hi1 : decide ([(([97], [98]) : PR)] = [([97], [98])]) = true := decide_eq_true rfl
  have hi2 : decide ([([98] : BL)] = [[98]]) = true := decide_eq_true rfl
  refine at_seq_k (fun K0 hK0 => ?_)
  refine at_region ?_
  refine at_v (ov_assign rfl rfl) rfl rfl rfl ?_
  refine at_nil ?_
  refine at_normal ?_
  refine hK0 _ _ _ ?_
  refine at_seq_k (fun K1 hK1 => ?_)
  refine at_region ?_
  refine at_t (ot_call (ks := []) rfl rfl rfl Tryd.call17 rfl (hA ) rfl) rfl rfl rfl ?_
  rintro v0 _ ⟨m0, hp0, rfl⟩
  obtain ⟨rfl, rfl⟩ := hp0
  simp only [List.cons_append, List.nil_append, splice, spliceL]
  refine at_t (ot_allocA rfl Tryd.zeroValue23) rfl rfl rfl ?_
  rintro _ _ ⟨g0, rfl, rfl⟩
  refine at_t0 (ot_store (k := 0) rfl rfl rfl rfl rfl rfl rfl) rfl rfl ?_
  rintro _ _ ⟨rfl, rfl⟩
  simp only [setAt, splice, spliceL, Value.cells]
  refine at_nil ?_
  refine at_normal ?_
  refine hK1 _ _ _ ?_
  refine at_seq_k (fun K2 hK2 => ?_)
  refine at_region ?_
  refine at_v (ov_loadS (cs := [_, _, _]) rfl rfl rfl rfl (fun _ s => s.lds (k := 0) rfl ⟨rfl, rfl, rfl, trivial⟩)) rfl rfl rfl ?_
  refine at_t (ot_call (ks := []) rfl rfl rfl Tryd.call8 rfl (hW ) rfl) rfl rfl rfl ?_
  rintro v0 _ ⟨m0, hp0, rfl⟩
  obtain ⟨B0, hp0⟩ := hp0
  obtain ⟨e0, hp0⟩ := hp0
  obtain ⟨rfl, rfl⟩ := hp0
  simp only [List.cons_append, List.nil_append, splice, spliceL]
  refine at_v (ov_move rfl rfl) rfl rfl rfl ?_
  refine at_v (ov_extract rfl rfl rfl) rfl rfl rfl ?_
  refine at_v (ov_extract rfl rfl rfl) rfl rfl rfl ?_
  refine at_v (ov_assign rfl rfl) rfl rfl rfl ?_
  refine at_v (ov_assign rfl rfl) rfl rfl rfl ?_
  refine at_nil ?_
  refine at_normal ?_
  refine hK2 _ _ _ ?_
  refine at_seq_k (fun K3 hK3 => ?_)
  refine at_region ?_
  refine at_t (ot_call (ks := []) rfl rfl rfl Tryd.call17 rfl (hB ) rfl) rfl rfl rfl ?_
  rintro v0 _ ⟨m0, hp0, rfl⟩
  obtain ⟨rfl, rfl⟩ := hp0
  simp only [List.cons_append, List.nil_append, splice, spliceL]
  refine at_v (ov_move rfl rfl) rfl rfl rfl ?_
  refine at_t (ot_call (ks := [0]) rfl rfl rfl Tryd.call12 rfl (hR ) rfl) rfl rfl rfl ?_
  rintro v0 _ ⟨m0, hp0, rfl⟩
  obtain ⟨B1, hp0⟩ := hp0
  obtain ⟨e1, hp0⟩ := hp0
  obtain ⟨rfl, rfl⟩ := hp0
  simp only [List.cons_append, List.nil_append, splice, spliceL]
  refine at_v (ov_assign rfl rfl) rfl rfl rfl ?_
  refine at_nil ?_
  refine at_normal ?_
  refine hK3 _ _ _ ?_
  refine at_seq_k (fun K4 hK4 => ?_)
  refine at_region ?_
  refine at_v (ov_loadS (cs := [_, _, _]) rfl rfl rfl rfl (fun _ s => s.lds (k := 2) rfl ⟨rfl, rfl, rfl, trivial⟩)) rfl rfl rfl ?_
  refine at_v (ov_build (cs := [_, _, _]) rfl rfl rfl rfl) rfl rfl rfl ?_
  refine at_v (ov_eqS rfl (by kernel_rfl) rfl rfl rfl rfl) rfl rfl rfl ?_
  refine at_v (ov_move rfl rfl) rfl rfl rfl ?_
  refine at_wanted (j := 3) rfl ?_
  refine at_v (ov_move rfl rfl) rfl rfl rfl ?_
  refine at_wanted (j := 3) rfl ?_
  refine at_v (ov_int rfl rfl rfl rfl) rfl rfl rfl ?_
  refine at_v (ov_pick_t rfl rfl rfl) rfl rfl rfl ?_
  refine at_v (ov_move rfl rfl) rfl rfl rfl ?_
  refine at_wanted (j := 7) rfl ?_
  refine at_v (ov_move rfl rfl) rfl rfl rfl ?_
  refine at_wanted (j := 7) rfl ?_
  refine at_t (ot_call (ks := [1]) rfl rfl rfl Tryd.call10 rfl (T10a _ (by first | assumption | rfl | omega | decide | (simp; done) | (simp at *; omega))) rfl) rfl rfl rfl ?_
  rintro v0 _ ⟨m0, hp0, rfl⟩
  obtain ⟨B2, hp0⟩ := hp0
  obtain ⟨e2, hp0⟩ := hp0
  obtain ⟨rfl, rfl⟩ := hp0
  simp only [List.cons_append, List.nil_append, splice, spliceL]
  refine at_wanted (j := 7) rfl ?_
  refine at_v (ov_build (cs := [_, _]) rfl rfl rfl rfl) rfl rfl rfl ?_
  refine at_wanted (j := 7) rfl ?_
  refine at_t (ot_buildSlice (cs := [_, _]) rfl Tryd.underlying29 rfl rfl rfl rfl rfl rfl) rfl rfl rfl ?_
  rintro _ _ ⟨g1, rfl, rfl⟩
  refine at_wanted (j := 7) rfl ?_
  refine at_rowOf pE 0 (size := 2) (c := 1) [([97], [98])] rfl (fun _ _ => rfl) (by decide) (by decide) (by decide) rfl ?_
  simp only [setAt]
  refine at_reval 25 (.slice (some ⟨g1, 0, none⟩) ([([97], [98])] : List PR).length 1) rfl rfl ?_
  refine at_t (ot_call (ks := [1, 0]) rfl rfl rfl Tryd.call14 rfl (T14 _ (by first | assumption | rfl | omega | decide | (simp; done) | (simp at *; omega)) (by first | assumption | rfl | omega | decide | (simp; done) | (simp at *; omega))) rfl) rfl rfl rfl ?_
  rintro v0 _ ⟨m0, hp0, rfl⟩
  obtain ⟨rfl, rfl⟩ := hp0
  simp only [List.cons_append, List.nil_append, splice, spliceL]
  refine at_v (ov_pick_t rfl rfl rfl) rfl rfl rfl ?_
  refine at_v (ov_move rfl rfl) rfl rfl rfl ?_
  refine at_wanted (j := 14) rfl ?_
  refine at_v (ov_move rfl rfl) rfl rfl rfl ?_
  refine at_wanted (j := 14) rfl ?_
  refine at_t (ot_buildSlice (cs := [_]) rfl Tryd.underlying35 rfl rfl rfl rfl rfl rfl) rfl rfl rfl ?_
  rintro _ _ ⟨g2, rfl, rfl⟩
  refine at_wanted (j := 14) rfl ?_
  refine at_rowOf bsE 0 (size := 1) (c := 1) [[98]] rfl (fun _ _ => rfl) (by decide) (by decide) (by decide) rfl ?_
  simp only [setAt]
  refine at_reval 30 (.slice (some ⟨g2, 0, none⟩) ([[98]] : List BL).length 1) rfl rfl ?_
  refine at_t (ot_call (ks := [4, 0]) rfl rfl rfl Tryd.call11 rfl (T11 _ (by first | assumption | rfl | omega | decide | (simp; done) | (simp at *; omega)) (by first | assumption | rfl | omega | decide | (simp; done) | (simp at *; omega))) rfl) rfl rfl rfl ?_
  rintro v0 _ ⟨m0, hp0, rfl⟩
  obtain ⟨rfl, rfl⟩ := hp0
  simp only [List.cons_append, List.nil_append, splice, spliceL]
  refine at_v (ov_pick_t rfl rfl rfl) rfl rfl rfl ?_
  refine at_v (ov_move rfl rfl) rfl rfl rfl ?_
  refine at_wanted (j := 19) rfl ?_
  refine at_t (ot_call (ks := []) rfl rfl rfl Tryd.call17 rfl (hX ) rfl) rfl rfl rfl ?_
  rintro v0 _ ⟨m0, hp0, rfl⟩
  obtain ⟨rfl, rfl⟩ := hp0
  simp only [List.cons_append, List.nil_append, splice, spliceL]
  refine at_wanted (j := 19) rfl ?_
  refine at_v (ov_build (cs := [_, _, _]) rfl rfl rfl rfl) rfl rfl rfl ?_
  refine at_wanted (j := 19) rfl ?_
  refine at_v (ov_eqS rfl (by kernel_rfl) rfl rfl rfl rfl) rfl rfl rfl ?_
  refine at_v (ov_pick_t rfl rfl rfl) rfl rfl rfl ?_
  refine at_v (ov_assign rfl rfl) rfl rfl rfl ?_
  refine at_nil ?_
  refine at_normal ?_
  refine hK4 _ _ _ ?_
  refine at_ret ?_
  refine at_end ?_
  refine at_fin (rsV rfl (res_tmp rfl)) ?_
  refine ⟨_, ⟨rfl, rfl⟩, ?_⟩
  exact fun _ s => s.finEq (ks := []) (js := [0, 0, 0, 0, 0, 0]) rfl rfl rfl
theorem T3 (w0 : World) (p : PM) {A : Option Addr} {c : Nat} {l : List PR} (hr : Rd pE w0 2 A l) (hm : l.length ≤ 4398046511000) (hb : ∀ x ∈ l, x.1.length ≤ 140737488351232 ∧ x.2.length ≤ 140737488351232) (hp1 : p.2.1.length ≤ 140737488351232) (hp2 : p.2.2.length ≤ 140737488351232) (hM : MaxL w0) :
    Tri Tryd.prog w0 3 [.agg #[.int .i64 p.1, SV p.2.1, SV p.2.2], .slice A l.length c] [] fun v m => v = .bool true ∧ m = [] := by
  refine tri_of Tryd.func3 rfl rfl fun F => ?_
  simp only [Tryd.ntmps3, argEnv, List.nil_append]
  cases hlg : largeP l with
  | true =>
    have hLg := T7 w0 (c := c) hr hm hb
    rw [hlg] at hLg
    refine at_seq_k (fun K0 hK0 => ?_)
    refine at_region ?_
    refine at_t (ot_boxA rfl rfl) rfl rfl rfl ?_
    rintro _ _ ⟨g0, rfl, rfl⟩
    refine at_v (ov_assign rfl rfl) rfl rfl rfl ?_
    refine at_nil ?_
    refine at_normal ?_
    refine hK0 _ _ _ ?_
    refine at_seq_k (fun K1 hK1 => ?_)
    refine at_seq_k (fun K2 hK2 => ?_)
    refine at_region ?_
    refine at_t (ot_call (ks := []) rfl rfl rfl Tryd.call6 rfl (T6 _ (by first | assumption | rfl | omega | decide | (simp; done) | (simp at *; omega))) rfl) rfl rfl rfl ?_
    rintro v0 _ ⟨m0, hp0, rfl⟩
    obtain ⟨rfl, rfl⟩ := hp0
    simp only [List.cons_append, List.nil_append, splice, spliceL]
    refine at_v (ov_not rfl rfl) rfl rfl rfl ?_
    refine at_nil ?_
    refine at_normal ?_
    refine hK2 _ _ _ ?_
    refine at_cond_false rfl ?_
    refine at_skip ?_
    refine at_normal ?_
    refine hK1 _ _ _ ?_
    refine at_seq_k (fun K3 hK3 => ?_)
    refine at_seq_k (fun K4 hK4 => ?_)
    refine at_region ?_
    refine at_v (ov_move rfl rfl) rfl rfl rfl ?_
    refine at_t (ot_call (ks := []) rfl rfl rfl Tryd.call7 rfl (hLg ) rfl) rfl rfl rfl ?_
    rintro v0 _ ⟨m0, hp0, rfl⟩
    obtain ⟨rfl, rfl⟩ := hp0
    simp only [List.cons_append, List.nil_append, splice, spliceL]
    refine at_v (ov_move rfl rfl) rfl rfl rfl ?_
    refine at_unwanted (j := 2) rfl rfl rfl rfl ?_
    refine at_unwanted (j := 2) rfl rfl rfl rfl ?_
    refine at_unwanted (j := 2) rfl rfl rfl rfl ?_
    refine at_unwanted (j := 2) rfl rfl rfl rfl ?_
    refine at_unwanted (j := 2) rfl rfl rfl rfl ?_
    refine at_unwanted (j := 2) rfl rfl rfl rfl ?_
    refine at_unwanted (j := 2) rfl rfl rfl rfl ?_
    refine at_unwanted (j := 2) rfl rfl rfl rfl ?_
    refine at_v (ov_pick_t rfl rfl rfl) rfl rfl rfl ?_
    refine at_nil ?_
    refine at_normal ?_
    refine hK4 _ _ _ ?_
    refine at_cond_true rfl ?_
    refine at_seq_k (fun K5 hK5 => ?_)
    refine at_region ?_
    refine at_v (ov_assign rfl rfl) rfl rfl rfl ?_
    refine at_nil ?_
    refine at_normal ?_
    refine hK5 _ _ _ ?_
    refine at_ret ?_
    refine at_then_ret ?_
    refine at_end ?_
    refine at_fin (rsV rfl (res_tmp rfl)) ?_
    refine ⟨_, ⟨rfl, rfl⟩, ?_⟩
    exact fun _ s => s.finEq (ks := []) (js := [0]) rfl rfl rfl
  | false =>
  have hLg := T7 w0 (c := c) hr hm hb
  rw [hlg] at hLg
  unfold largeP at hlg
  simp only [Bool.or_eq_false_iff, decide_eq_false_iff_not, Bool.not_eq_false'] at hlg
  obtain ⟨⟨hl1, hl2⟩, ht⟩ := hlg
  have hm6 : l.length ≤ 1000000 := by omega
  by_cases h1 : 1000 < p.2.1.length + p.2.2.length
  · have hi1 : decide ((p.2.1.length : Int) + p.2.2.length > 1000) = true := decide_eq_true (by omega)
    refine at_seq_k (fun K0 hK0 => ?_)
    refine at_region ?_
    refine at_t (ot_boxA rfl rfl) rfl rfl rfl ?_
    rintro _ _ ⟨g0, rfl, rfl⟩
    refine at_v (ov_assign rfl rfl) rfl rfl rfl ?_
    refine at_nil ?_
    refine at_normal ?_
    refine hK0 _ _ _ ?_
    refine at_seq_k (fun K1 hK1 => ?_)
    refine at_seq_k (fun K2 hK2 => ?_)
    refine at_region ?_
    refine at_t (ot_call (ks := []) rfl rfl rfl Tryd.call6 rfl (T6 _ (by first | assumption | rfl | omega | decide | (simp; done) | (simp at *; omega))) rfl) rfl rfl rfl ?_
    rintro v0 _ ⟨m0, hp0, rfl⟩
    obtain ⟨rfl, rfl⟩ := hp0
    simp only [List.cons_append, List.nil_append, splice, spliceL]
    refine at_v (ov_not rfl rfl) rfl rfl rfl ?_
    refine at_nil ?_
    refine at_normal ?_
    refine hK2 _ _ _ ?_
    refine at_cond_false rfl ?_
    refine at_skip ?_
    refine at_normal ?_
    refine hK1 _ _ _ ?_
    refine at_seq_k (fun K3 hK3 => ?_)
    refine at_seq_k (fun K4 hK4 => ?_)
    refine at_region ?_
    refine at_v (ov_move rfl rfl) rfl rfl rfl ?_
    refine at_t (ot_call (ks := []) rfl rfl rfl Tryd.call7 rfl (hLg ) rfl) rfl rfl rfl ?_
    rintro v0 _ ⟨m0, hp0, rfl⟩
    obtain ⟨rfl, rfl⟩ := hp0
    simp only [List.cons_append, List.nil_append, splice, spliceL]
    refine at_v (ov_move rfl rfl) rfl rfl rfl ?_
    refine at_wanted (j := 2) rfl ?_
    refine at_v (ov_fieldAddr (k := 1) (r := 1) rfl rfl rfl rfl) rfl rfl rfl ?_
    refine at_wanted (j := 2) rfl ?_
    refine at_v (ov_load rfl rfl rfl (fun _ s => s.ld (k := 0) rfl rfl)) rfl rfl rfl ?_
    refine at_wanted (j := 2) rfl ?_
    refine at_v (ov_len_strL rfl Tryd.underlying9 rfl) rfl rfl rfl ?_
    refine at_wanted (j := 2) rfl ?_
    refine at_v (ov_fieldAddr (k := 2) (r := 2) rfl rfl rfl rfl) rfl rfl rfl ?_
    refine at_wanted (j := 2) rfl ?_
    refine at_v (ov_load rfl rfl rfl (fun _ s => s.ld (k := 0) rfl rfl)) rfl rfl rfl ?_
    refine at_wanted (j := 2) rfl ?_
    refine at_v (ov_len_strL rfl Tryd.underlying9 rfl) rfl rfl rfl ?_
    refine at_wanted (j := 2) rfl ?_
    refine at_v ((ov_int rfl rfl rfl rfl).eq (congrArg (Value.int .i64) (inK_i64 (by omega) (by omega)))) rfl rfl rfl ?_
    refine at_wanted (j := 2) rfl ?_
    refine at_v (ov_int rfl rfl rfl rfl) rfl rfl rfl ?_
    refine at_v (ov_pick_f rfl rfl rfl) rfl rfl rfl ?_
    refine at_nil ?_
    refine at_normal ?_
    refine hK4 _ _ _ ?_
    refine at_cond_true (congrArg (fun b => some (Value.bool b)) (show _ = true from decide_eq_true (by omega))) ?_
    refine at_seq_k (fun K5 hK5 => ?_)
    refine at_region ?_
    refine at_v (ov_assign rfl rfl) rfl rfl rfl ?_
    refine at_nil ?_
    refine at_normal ?_
    refine hK5 _ _ _ ?_
    refine at_ret ?_
    refine at_then_ret ?_
    refine at_end ?_
    refine at_fin (rsV rfl (res_tmp rfl)) ?_
    refine ⟨_, ⟨rfl, rfl⟩, ?_⟩
    exact fun _ s => s.finEq (ks := []) (js := [0]) rfl rfl rfl
  have hi1 : decide ((p.2.1.length : Int) + p.2.2.length > 1000) = false := decide_eq_false (by omega)
  have hW {A : Option Addr} {c c' : Nat} := T9 w0 p (A := A) (c := c) (c' := c') (l := l) hm6
  rw [writes_same ht] at hW
  have hRd {A : Option Addr} {c c' : Nat} := T13 w0 p (A := A) (c := c) (c' := c') (l := l) hm6
  rw [reads_same ht] at hRd
  have hrl : (readsL p l).length ≤ 1000000000000 := by
    unfold readsL
    split
    · split
      · split <;> simp
      · simp
    · split
      · rw [List.length_take]; omega
      · simp
  have hwl : (writesL p l).1.length ≤ 1000001 := by
    have := pos_le l p.2.1
    unfold writesL
    split
    · simp only [List.length_append, List.length_take, List.length_cons, List.length_drop]; omega
    · split
      · simp only [List.length_set]; omega
      · split
        · have := List.length_eraseIdx_le l (posL l p.2.1); simp only; omega
        · simp only; omega
  have hwl2 : (writesL p l).1.length ≤ 4398046511000 := by omega
  have hwl3 : (writesL p l).1.length ≤ 1000000000000 := by omega
  have hd1 : decide (readsL p l = readsL p l) = true := decide_eq_true rfl
  have hd2 : decide ((writesL p l).1 = (writesL p l).1) = true := decide_eq_true rfl
  have hd3 : decide ((writesL p l).2 = (writesL p l).2) = true := decide_eq_true rfl
  refine at_seq_k (fun K0 hK0 => ?_)
  refine at_region ?_
  refine at_t (ot_boxA rfl rfl) rfl rfl rfl ?_
  rintro _ _ ⟨g0, rfl, rfl⟩
  refine at_v (ov_assign rfl rfl) rfl rfl rfl ?_
  refine at_nil ?_
  refine at_normal ?_
  refine hK0 _ _ _ ?_
  refine at_seq_k (fun K1 hK1 => ?_)
  refine at_seq_k (fun K2 hK2 => ?_)
  refine at_region ?_
  refine at_t (ot_call (ks := []) rfl rfl rfl Tryd.call6 rfl (T6 _ (by first | assumption | rfl | omega | decide | (simp; done) | (simp at *; omega))) rfl) rfl rfl rfl ?_
  rintro v0 _ ⟨m0, hp0, rfl⟩
  obtain ⟨rfl, rfl⟩ := hp0
  simp only [List.cons_append, List.nil_append, splice, spliceL]
  refine at_v (ov_not rfl rfl) rfl rfl rfl ?_
  refine at_nil ?_
  refine at_normal ?_
  refine hK2 _ _ _ ?_
  refine at_cond_false rfl ?_
  refine at_skip ?_
  refine at_normal ?_
  refine hK1 _ _ _ ?_
  refine at_seq_k (fun K3 hK3 => ?_)
  refine at_seq_k (fun K4 hK4 => ?_)
  refine at_region ?_
  refine at_v (ov_move rfl rfl) rfl rfl rfl ?_
  refine at_t (ot_call (ks := []) rfl rfl rfl Tryd.call7 rfl (hLg ) rfl) rfl rfl rfl ?_
  rintro v0 _ ⟨m0, hp0, rfl⟩
  obtain ⟨rfl, rfl⟩ := hp0
  simp only [List.cons_append, List.nil_append, splice, spliceL]
  refine at_v (ov_move rfl rfl) rfl rfl rfl ?_
  refine at_wanted (j := 2) rfl ?_
  refine at_v (ov_fieldAddr (k := 1) (r := 1) rfl rfl rfl rfl) rfl rfl rfl ?_
  refine at_wanted (j := 2) rfl ?_
  refine at_v (ov_load rfl rfl rfl (fun _ s => s.ld (k := 0) rfl rfl)) rfl rfl rfl ?_
  refine at_wanted (j := 2) rfl ?_
  refine at_v (ov_len_strL rfl Tryd.underlying9 rfl) rfl rfl rfl ?_
  refine at_wanted (j := 2) rfl ?_
  refine at_v (ov_fieldAddr (k := 2) (r := 2) rfl rfl rfl rfl) rfl rfl rfl ?_
  refine at_wanted (j := 2) rfl ?_
  refine at_v (ov_load rfl rfl rfl (fun _ s => s.ld (k := 0) rfl rfl)) rfl rfl rfl ?_
  refine at_wanted (j := 2) rfl ?_
  refine at_v (ov_len_strL rfl Tryd.underlying9 rfl) rfl rfl rfl ?_
  refine at_wanted (j := 2) rfl ?_
  refine at_v ((ov_int rfl rfl rfl rfl).eq (congrArg (Value.int .i64) (inK_i64 (by omega) (by omega)))) rfl rfl rfl ?_
  refine at_wanted (j := 2) rfl ?_
  refine at_v (ov_int rfl rfl rfl rfl) rfl rfl rfl ?_
  refine at_v (ov_pick_f rfl rfl rfl) rfl rfl rfl ?_
  refine at_nil ?_
  refine at_normal ?_
  refine hK4 _ _ _ ?_
  refine at_cond_false (congrArg (fun b => some (Value.bool b)) (show _ = false from decide_eq_false (by omega))) ?_
  refine at_skip ?_
  refine at_normal ?_
  refine hK3 _ _ _ ?_
  refine at_seq_k (fun K5 hK5 => ?_)
  refine at_region ?_
  refine at_v (ov_loadS (cs := [_, _, _]) rfl rfl rfl rfl (fun _ s => s.lds (k := 0) rfl ⟨rfl, rfl, rfl, trivial⟩)) rfl rfl rfl ?_
  refine at_v (ov_move rfl rfl) rfl rfl rfl ?_
  refine at_t (ot_call (ks := []) rfl rfl rfl Tryd.call8 rfl (T8 _ _ (by first | assumption | rfl | omega | decide | (simp; done) | (simp at *; omega)) (by first | assumption | rfl | omega | decide | (simp; done) | (simp at *; omega)) (by first | assumption | rfl | omega | decide | (simp; done) | (simp at *; omega))) rfl) rfl rfl rfl ?_
  rintro v0 _ ⟨m0, hp0, rfl⟩
  obtain ⟨B0, hp0⟩ := hp0
  obtain ⟨e0, hp0⟩ := hp0
  obtain ⟨rfl, rfl⟩ := hp0
  simp only [List.cons_append, List.nil_append, splice, spliceL]
  refine at_v (ov_move rfl rfl) rfl rfl rfl ?_
  refine at_v (ov_extract rfl rfl rfl) rfl rfl rfl ?_
  refine at_v (ov_extract rfl rfl rfl) rfl rfl rfl ?_
  refine at_v (ov_assign rfl rfl) rfl rfl rfl ?_
  refine at_v (ov_assign rfl rfl) rfl rfl rfl ?_
  refine at_nil ?_
  refine at_normal ?_
  refine hK5 _ _ _ ?_
  refine at_seq_k (fun K6 hK6 => ?_)
  refine at_draw _ [] 1000 [(1, 0), (2, 1), (0, 2), (0, 3), (2, 4), (2, 5), (2, 6), (2, 7), (2, 8)] (by kernel_rfl) (by kernel_rfl) (fun _ s => (s.pulls (ks := [1]) rfl).left) ?_
  refine aq_v (ov_loadS (cs := [_, _, _]) rfl rfl rfl rfl (fun _ s => s.lds (k := 0) rfl ⟨rfl, rfl, rfl, trivial⟩)) rfl rfl rfl ?_
  refine aq_p (ov_move rfl rfl) rfl rfl rfl ?_
  refine aq_t (ot_call (ks := []) rfl rfl rfl Tryd.call10 rfl (T10 _ (by first | assumption | rfl | omega | decide | (simp; done) | (simp at *; omega)) (by first | assumption | rfl | omega | decide | (simp; done) | (simp at *; omega))) rfl) rfl rfl rfl ?_
  rintro v0 _ ⟨m0, hp0, rfl⟩
  obtain ⟨B1, hp0⟩ := hp0
  obtain ⟨e1, hp0⟩ := hp0
  obtain ⟨rfl, rfl⟩ := hp0
  simp only [List.cons_append, List.nil_append, splice, spliceL]
  refine ⟨fun _ s => (s.pulls (ks := [2]) rfl).left, ?_⟩
  refine aq_t (ot_call (ks := [0]) rfl rfl rfl Tryd.call9 rfl (hW ) rfl) rfl rfl rfl ?_
  rintro v0 _ ⟨m0, hp0, rfl⟩
  obtain ⟨B2, hp0⟩ := hp0
  obtain ⟨e2, hp0⟩ := hp0
  obtain ⟨rfl, rfl⟩ := hp0
  simp only [List.cons_append, List.nil_append, splice, spliceL]
  refine ⟨fun _ s => (s.pulls (ks := [3]) rfl).left, ?_⟩
  refine aq_p (ov_move rfl rfl) rfl rfl rfl ?_
  refine aq_p (ov_extract rfl rfl rfl) rfl rfl rfl ?_
  refine aq_p (ov_extract rfl rfl rfl) rfl rfl rfl ?_
  refine aq_p (ov_assign rfl rfl) rfl rfl rfl ?_
  refine aq_p (ov_assign rfl rfl) rfl rfl rfl ?_
  refine aq_nil ?_
  refine at_normal ?_
  refine hK6 _ _ _ ?_
  refine at_seq_k (fun K7 hK7 => ?_)
  refine at_draw _ [] 1000 [(1, 0), (2, 1), (1, 3), (2, 4), (0, 2), (0, 5), (0, 6), (0, 7), (2, 8), (2, 9), (2, 11), (0, 10), (0, 12), (2, 13), (2, 14), (2, 15), (2, 16), (2, 17), (2, 18), (2, 19)] (by kernel_rfl) (by kernel_rfl) (fun _ s => (s.pulls (ks := [3]) rfl).left) ?_
  refine aq_v (ov_loadS (cs := [_, _, _]) rfl rfl rfl rfl (fun _ s => s.lds (k := 0) rfl ⟨rfl, rfl, rfl, trivial⟩)) rfl rfl rfl ?_
  refine aq_p (ov_move rfl rfl) rfl rfl rfl ?_
  refine aq_v (ov_loadS (cs := [_, _, _]) rfl rfl rfl rfl (fun _ s => s.lds (k := 0) rfl ⟨rfl, rfl, rfl, trivial⟩)) rfl rfl rfl ?_
  refine aq_p (ov_move rfl rfl) rfl rfl rfl ?_
  refine aq_t (ot_call (ks := []) rfl rfl rfl Tryd.call12 rfl (T12 _ _ (by first | assumption | rfl | omega | decide | (simp; done) | (simp at *; omega)) (by first | assumption | rfl | omega | decide | (simp; done) | (simp at *; omega)) (by first | assumption | rfl | omega | decide | (simp; done) | (simp at *; omega))) rfl) rfl rfl rfl ?_
  rintro v0 _ ⟨m0, hp0, rfl⟩
  obtain ⟨B3, hp0⟩ := hp0
  obtain ⟨e3, hp0⟩ := hp0
  obtain ⟨rfl, rfl⟩ := hp0
  simp only [List.cons_append, List.nil_append, splice, spliceL]
  refine ⟨fun _ s => (s.pulls (ks := [4]) rfl).left, ?_⟩
  refine aq_t (ot_call (ks := []) rfl rfl rfl Tryd.call10 rfl (T10 _ (by first | assumption | rfl | omega | decide | (simp; done) | (simp at *; omega)) (by first | assumption | rfl | omega | decide | (simp; done) | (simp at *; omega))) rfl) rfl rfl rfl ?_
  rintro v0 _ ⟨m0, hp0, rfl⟩
  obtain ⟨B4, hp0⟩ := hp0
  obtain ⟨e4, hp0⟩ := hp0
  obtain ⟨rfl, rfl⟩ := hp0
  simp only [List.cons_append, List.nil_append, splice, spliceL]
  refine ⟨fun _ s => (s.pulls (ks := [5]) rfl).left, ?_⟩
  refine aq_t (ot_call (ks := [0]) rfl rfl rfl Tryd.call13 rfl (hRd ) rfl) rfl rfl rfl ?_
  rintro v0 _ ⟨m0, hp0, rfl⟩
  obtain ⟨B5, hp0⟩ := hp0
  obtain ⟨e5, hp0⟩ := hp0
  obtain ⟨rfl, rfl⟩ := hp0
  simp only [List.cons_append, List.nil_append, splice, spliceL]
  refine ⟨fun _ s => (s.pulls (ks := [6]) rfl).left, ?_⟩
  refine aq_t (ot_call (ks := [2, 0]) rfl rfl rfl Tryd.call11 rfl (T11 _ (by first | assumption | rfl | omega | decide | (simp; done) | (simp at *; omega)) (by first | assumption | rfl | omega | decide | (simp; done) | (simp at *; omega))) rfl) rfl rfl rfl ?_
  rintro v0 _ ⟨m0, hp0, rfl⟩
  obtain ⟨rfl, rfl⟩ := hp0
  simp only [List.cons_append, List.nil_append, splice, spliceL]
  refine ⟨fun _ s => (s.pulls (ks := [6]) rfl).left, ?_⟩
  refine aq_p (ov_move rfl rfl) rfl rfl rfl ?_
  refine aq_wanted (j := 8) rfl ?_
  refine aq_p (ov_move rfl rfl) rfl rfl rfl ?_
  refine aq_wanted (j := 8) rfl ?_
  refine aq_p (ov_move rfl rfl) rfl rfl rfl ?_
  refine aq_wanted (j := 8) rfl ?_
  refine aq_t (ot_call (ks := [5]) rfl rfl rfl Tryd.call10 rfl (T10a _ (by first | assumption | rfl | omega | decide | (simp; done) | (simp at *; omega))) rfl) rfl rfl rfl ?_
  rintro v0 _ ⟨m0, hp0, rfl⟩
  obtain ⟨B6, hp0⟩ := hp0
  obtain ⟨e6, hp0⟩ := hp0
  obtain ⟨rfl, rfl⟩ := hp0
  simp only [List.cons_append, List.nil_append, splice, spliceL]
  refine ⟨fun _ s => (s.pulls (ks := [7]) rfl).left, ?_⟩
  refine aq_wanted (j := 8) rfl ?_
  refine aq_t (ot_call (ks := [0, 4]) rfl rfl rfl Tryd.call14 rfl (T14 _ (by first | assumption | rfl | omega | decide | (simp; done) | (simp at *; omega)) (by first | assumption | rfl | omega | decide | (simp; done) | (simp at *; omega))) rfl) rfl rfl rfl ?_
  rintro v0 _ ⟨m0, hp0, rfl⟩
  obtain ⟨rfl, rfl⟩ := hp0
  simp only [List.cons_append, List.nil_append, splice, spliceL]
  refine ⟨fun _ s => (s.pulls (ks := [7]) rfl).left, ?_⟩
  refine aq_p (ov_pick_t rfl rfl rfl) rfl rfl rfl ?_
  refine aq_p (ov_move rfl rfl) rfl rfl rfl ?_
  refine aq_wanted (j := 14) rfl ?_
  refine aq_p (ov_move rfl rfl) rfl rfl rfl ?_
  refine aq_wanted (j := 14) rfl ?_
  refine aq_p (ov_move rfl rfl) rfl rfl rfl ?_
  refine aq_wanted (j := 14) rfl ?_
  refine aq_p (ov_int rfl rfl rfl rfl) rfl rfl rfl ?_
  refine aq_p (ov_pick_t rfl rfl rfl) rfl rfl rfl ?_
  refine aq_p (ov_assign rfl rfl) rfl rfl rfl ?_
  refine aq_nil ?_
  refine at_normal ?_
  refine hK7 _ _ _ ?_
  refine at_ret ?_
  refine at_end ?_
  refine at_fin (rsV rfl (res_tmp rfl)) ?_
  refine ⟨_, ⟨by rw [hd3], rfl⟩, ?_⟩
  exact fun _ s => s.finEq (ks := []) (js := [0, 0, 0, 0, 0, 0, 0, 0]) rfl rfl rfl
end Go.Proofs.YtmedbdcjniggcaaDoor
