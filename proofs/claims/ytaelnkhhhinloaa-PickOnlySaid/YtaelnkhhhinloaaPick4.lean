/- PickOnly: who weighs nothing is never picked, nor who may not be; somebody is, if anybody may. -/
import Derived.Test.YtaelnkhhhinloaaProg
import Derived.Test.YtaelnkhhhinloaaPick3
import Derived.Test.YtaelnkhhhinloaaSLRange
import Derived.KernelRfl
set_option linter.unusedSimpArgs false
set_option linter.unusedVariables false
set_option maxRecDepth 100000
namespace Go.Proofs.Ytaelnkhhhinloaa
open Go Go.Proofs.Ytaelnkhhhinloaa.SL Go.RowKit
def mayB (xs : List Int) (ms : List Bool) (i : Nat) : Bool := decide (0 < xs[i]?.getD 0) && ms[i]?.getD false
def someB (xs : List Int) (ms : List Bool) (k : Nat) : Bool := (List.range k).any (mayB xs ms)
theorem someB_succ (xs : List Int) (ms : List Bool) (k : Nat) : someB xs ms (k + 1) = (someB xs ms k || mayB xs ms k) := by
  simp [someB, List.range_succ]
theorem onlyL_right {xs : List Int} {ms : List Bool} (h : xs.any badB = false) : (onlyL xs ms).any badB = false := by
  rw [List.any_eq_false] at h ⊢
  intro x hx
  obtain ⟨i, hi⟩ := List.getElem?_of_mem hx
  have hlt : i < xs.length := by have := (List.getElem?_eq_some_iff.1 hi).1; rwa [onlyL_len] at this
  rw [onlyL_get (List.getElem?_eq_getElem hlt)] at hi
  simp only [Option.some.injEq] at hi
  subst hi
  split
  · exact h _ (List.getElem_mem hlt)
  · decide
theorem sum_zero : ∀ {xs : List Int}, (∀ x ∈ xs, 0 ≤ x) → xs.sum ≤ 0 → ∀ x ∈ xs, x = 0
  | [], _, _ => by simp
  | x :: xs, h, hs => by
    have h1 := h x (by simp)
    have h2 := sum_nonneg (xs := xs) fun y hy => h y (by simp [hy])
    simp at hs
    intro y hy
    rcases List.mem_cons.1 hy with rfl | hy
    · omega
    · exact sum_zero (fun z hz => h z (by simp [hz])) (by omega) y hy
theorem T5 (w0 : World) (A0 : Option Addr) (c0 : Nat) (l0 : List Int) (a1 : Int) (A2 : Option Addr) (c2 : Nat) (l2 : List Bool) (hr0 : Rd wE w0 1 A0 l0) (hm0 : l0.length ≤ 9223372036854775807) (hr2 : Rd mE w0 1 A2 l2) (hm2 : l2.length ≤ 9223372036854775807) (hd0 : 0 ≤ a1) (hd1 : a1 < 18446744073709551616) :
    Tri Try.prog w0 5 [.slice A0 l0.length c0, .int .u64 a1, .slice A2 l2.length c2] [] fun v m => v = .bool true ∧ m = [] := by
  refine tri_of Try.func5 rfl rfl fun F => ?_
  simp only [Try.ntmps5, argEnv, List.nil_append]
  cases hright : rightB l0 with
  | false =>
    refine at_seq_k (fun K0 hK0 => ?_)
    refine at_region ?_
    refine at_v (ov_assign rfl rfl) rfl rfl rfl ?_
    refine at_nil ?_
    refine at_normal ?_
    refine hK0 _ _ _ ?_
    refine at_seq_k (fun K1 hK1 => ?_)
    refine at_seq_k (fun K2 hK2 => ?_)
    refine at_region ?_
    refine at_t (ot_call (ks := []) rfl rfl rfl Try.call6 rfl (T6 _) rfl) rfl rfl rfl ?_
    rintro v0 _ ⟨m0, hp0, rfl⟩
    obtain ⟨rfl, rfl⟩ := hp0
    simp only [List.cons_append, List.nil_append]
    refine at_v (ov_not rfl rfl) rfl rfl rfl ?_
    refine at_nil ?_
    refine at_normal ?_
    refine hK2 _ _ _ ?_
    refine at_cond_false rfl ?_
    refine at_skip ?_
    refine at_normal ?_
    refine hK1 _ _ _ ?_
    refine at_seq_k (fun K3 hK3 => ?_)
    refine at_seq_k (fun K4 hK4 => ?_)
    refine at_region ?_
    refine at_v (ov_move rfl rfl) rfl rfl rfl ?_
    refine at_t (ot_call (ks := []) rfl rfl rfl Try.call8 rfl (T8 _ (by first | assumption | omega | decide | (simp; done) | (simp at *; omega)) (by first | assumption | omega | decide | (simp; done) | (simp at *; omega))) rfl) rfl rfl rfl ?_
    rintro v0 _ ⟨m0, hp0, rfl⟩
    obtain ⟨rfl, rfl⟩ := hp0
    simp only [List.cons_append, List.nil_append]
    refine at_v (ov_not rfl rfl) rfl rfl rfl ?_
    refine at_v (ov_move rfl rfl) rfl rfl rfl ?_
    refine at_reval 16 (.bool true) rfl (congrArg Value.bool (by simp [hright]; done)) ?_
    refine at_unwanted (j := 3) rfl rfl rfl rfl ?_
    refine at_unwanted (j := 3) rfl rfl rfl rfl ?_
    refine at_unwanted (j := 3) rfl rfl rfl rfl ?_
    refine at_v (ov_pick_t rfl rfl rfl) rfl rfl rfl ?_
    refine at_nil ?_
    refine at_normal ?_
    refine hK4 _ _ _ ?_
    refine at_cond_true rfl ?_
    refine at_seq_k (fun K5 hK5 => ?_)
    refine at_region ?_
    refine at_v (ov_assign rfl rfl) rfl rfl rfl ?_
    refine at_nil ?_
    refine at_normal ?_
    refine hK5 _ _ _ ?_
    refine at_ret ?_
    refine at_then_ret ?_
    refine at_end ?_
    refine at_fin (rsV rfl (res_tmp rfl)) ?_
    refine ⟨_, ⟨rfl, rfl⟩, ?_⟩
    exact fun _ s => s.finEq (ks := []) (js := []) rfl rfl rfl
  | true =>
    obtain ⟨hb, h6⟩ := rightB_of hright
    by_cases h1000 : l2.length ≤ 1000
    · have hlen := onlyL_len l0 l2
      have hbo := onlyL_right (ms := l2) hb
      have hnn : ∀ x ∈ onlyL l0 l2, 0 ≤ x := fun x hx => by
        have := List.any_eq_false.1 hbo x hx
        simp [badB] at this; omega
      refine at_seq_k (fun K0 hK0 => ?_)
      refine at_region ?_
      refine at_v (ov_assign rfl rfl) rfl rfl rfl ?_
      refine at_nil ?_
      refine at_normal ?_
      refine hK0 _ _ _ ?_
      refine at_seq_k (fun K1 hK1 => ?_)
      refine at_seq_k (fun K2 hK2 => ?_)
      refine at_region ?_
      refine at_t (ot_call (ks := []) rfl rfl rfl Try.call6 rfl (T6 _) rfl) rfl rfl rfl ?_
      rintro v0 _ ⟨m0, hp0, rfl⟩
      obtain ⟨rfl, rfl⟩ := hp0
      simp only [List.cons_append, List.nil_append]
      refine at_v (ov_not rfl rfl) rfl rfl rfl ?_
      refine at_nil ?_
      refine at_normal ?_
      refine hK2 _ _ _ ?_
      refine at_cond_false rfl ?_
      refine at_skip ?_
      refine at_normal ?_
      refine hK1 _ _ _ ?_
      refine at_seq_k (fun K3 hK3 => ?_)
      refine at_seq_k (fun K4 hK4 => ?_)
      refine at_region ?_
      refine at_v (ov_move rfl rfl) rfl rfl rfl ?_
      refine at_t (ot_call (ks := []) rfl rfl rfl Try.call8 rfl (T8 _ (by first | assumption | omega | decide | (simp; done) | (simp at *; omega)) (by first | assumption | omega | decide | (simp; done) | (simp at *; omega))) rfl) rfl rfl rfl ?_
      rintro v0 _ ⟨m0, hp0, rfl⟩
      obtain ⟨rfl, rfl⟩ := hp0
      simp only [List.cons_append, List.nil_append]
      refine at_v (ov_not rfl rfl) rfl rfl rfl ?_
      refine at_v (ov_move rfl rfl) rfl rfl rfl ?_
      refine at_reval 16 (.bool false) rfl (congrArg Value.bool (by simp [hright, hb, hbo]; done)) ?_
      refine at_wanted (j := 3) rfl ?_
      refine at_v (ov_move rfl rfl) rfl rfl rfl ?_
      refine at_wanted (j := 3) rfl ?_
      refine at_v (ov_len_slice rfl Try.underlying24 rfl) rfl rfl rfl ?_
      refine at_wanted (j := 3) rfl ?_
      refine at_v (ov_int rfl rfl rfl rfl) rfl rfl rfl ?_
      refine at_v (ov_pick_f rfl rfl rfl) rfl rfl rfl ?_
      refine at_nil ?_
      refine at_normal ?_
      refine hK4 _ _ _ ?_
      refine at_cond_false (congrArg (fun b => some (Value.bool b)) (show _ = false from decide_eq_false (by omega))) ?_
      refine at_skip ?_
      refine at_normal ?_
      refine hK3 _ _ _ ?_
      refine at_seq_k (fun K5 hK5 => ?_)
      refine at_region ?_
      refine at_v (ov_assign rfl rfl) rfl rfl rfl ?_
      refine at_nil ?_
      refine at_normal ?_
      refine hK5 _ _ _ ?_
      refine at_seq_k (fun K6 hK6 => ?_)
      refine at_seq_k (fun K7 hK7 => ?_)
      refine at_region ?_
      refine at_v (ov_move rfl rfl) rfl rfl rfl ?_
      refine at_v (ov_len_slice rfl Try.underlying22 rfl) rfl rfl rfl ?_
      refine at_v (ov_move rfl rfl) rfl rfl rfl ?_
      refine at_nil ?_
      refine at_normal ?_
      refine hK7 _ _ _ ?_
      refine at_block ?_
      refine at_loopE [24, 25, 26, 27, 8, 9, 28, 29, 30, 31, 32, 33, 34, 35, 36, 37, 38, 39, 40, 41, 42, 43, 44, 7, 45, 23] (fun k => k ≤ l0.length) (fun k => [(23, .int .i64 (k : Nat)), (7, .bool (someB l0 l2 k))]) (fun _ m => m) (fun k => l0.length - k) 0 (Nat.zero_le _) ⟨rfl, rfl, trivial⟩ (fun _ s => s) ?_
      intro k hk
      have hss := someB_succ l0 l2 k
      refine at_seq_k (fun K8 hK8 => ?_)
      refine at_region ?_
      refine at_v (ov_int rfl rfl rfl rfl) rfl rfl rfl ?_
      refine at_nil ?_
      refine at_normal ?_
      refine hK8 _ _ _ ?_
      refine at_seq_k (fun K9 hK9 => ?_)
      refine at_cond rfl (fun hc => ?_) (fun hc => ?_)
      · have hlt : k < l0.length := by simpa using hc
        have hget : l0[k]? = some l0[k] := List.getElem?_eq_getElem hlt
        cases hmk : l2[k]? with
        | none =>
          have hge := List.getElem?_eq_none_iff.1 hmk
          refine at_skip ?_
          refine at_normal ?_
          refine hK9 _ _ _ ?_
          refine at_seq_k (fun K10 hK10 => ?_)
          refine at_block ?_
          refine at_seq_k (fun K11 hK11 => ?_)
          refine at_region ?_
          refine at_v (ov_move rfl rfl) rfl rfl rfl ?_
          refine at_v (ov_indexRd (fun _ s => hr0.up s) rfl Try.underlying22 rfl rfl rfl hget) rfl rfl rfl ?_
          refine at_v (ov_loadRd0 (fun _ s => hr0.up s) rfl rfl rfl hget rfl) rfl rfl rfl ?_
          refine at_v (ov_assign rfl rfl) rfl rfl rfl ?_
          refine at_v (ov_assign rfl rfl) rfl rfl rfl ?_
          refine at_nil ?_
          refine at_normal ?_
          refine hK11 _ _ _ ?_
          refine at_region ?_
          refine at_v (ov_move rfl rfl) rfl rfl rfl ?_
          refine at_v (ov_move rfl rfl) rfl rfl rfl ?_
          refine at_bool (t := 29) rfl (fun h0 => ?_) (fun h0 => ?_)
          ·
            refine at_unwanted (j := 1) rfl rfl rfl rfl ?_
            refine at_unwanted (j := 1) rfl rfl rfl rfl ?_
            refine at_unwanted (j := 1) rfl rfl rfl rfl ?_
            refine at_unwantedN (j := 4) rfl rfl rfl ?_
            refine at_unwantedN (j := 4) rfl rfl rfl ?_
            refine at_unwantedN (j := 4) rfl rfl rfl ?_
            refine at_unwantedN (j := 4) rfl rfl rfl ?_
            refine at_unwanted (j := 1) rfl rfl rfl rfl ?_
            refine at_unwanted (j := 1) rfl rfl rfl rfl ?_
            refine at_unwantedN (j := 10) rfl rfl rfl ?_
            refine at_unwantedN (j := 10) rfl rfl rfl ?_
            refine at_unwantedN (j := 10) rfl rfl rfl ?_
            refine at_unwantedN (j := 10) rfl rfl rfl ?_
            refine at_unwanted (j := 1) rfl rfl rfl rfl ?_
            refine at_v (ov_pick_t rfl rfl rfl) rfl rfl rfl ?_
            refine at_v (ov_assign rfl rfl) rfl rfl rfl ?_
            refine at_nil ?_
            refine at_inb_normal ?_
            refine at_normal ?_
            refine hK10 _ _ _ ?_
            refine at_region ?_
            refine at_v ((ov_int rfl rfl rfl rfl).eq (congrArg (Value.int .i64) (inK_i64 (by omega) (by omega)))) rfl rfl rfl ?_
            refine at_v (ov_move rfl rfl) rfl rfl rfl ?_
            refine at_nil ?_
            refine at_normal ?_
            refine at_roundF (k + 1) hlt (by omega) ⟨rfl, look_eq rfl (congrArg Value.bool ?_), trivial⟩ rfl ?_
            · rw [hss]; simp [mayB, hmk, *]
            exact fun _ s => s.finEq (ks := []) (js := []) rfl rfl rfl
          ·
            refine at_wanted (j := 1) rfl ?_
            refine at_v (ov_move rfl rfl) rfl rfl rfl ?_
            refine at_wanted (j := 1) rfl ?_
            refine at_v (ov_int rfl rfl rfl rfl) rfl rfl rfl ?_
            refine at_wanted (j := 1) rfl ?_
            refine at_v (ov_move rfl rfl) rfl rfl rfl ?_
            refine at_bool (t := 32) rfl (fun h1 => ?_) (fun h1 => ?_)
            ·
              simp only [decide_eq_true_eq, decide_eq_false_iff_not, Bool.not_eq_true', Bool.not_eq_false', Int.not_lt, Int.not_le, Bool.and_eq_true, Bool.or_eq_true, Bool.and_eq_false_iff, Bool.or_eq_false_iff, gt_iff_lt, ge_iff_le] at h1
              refine at_wanted (j := 4) rfl ?_
              refine at_v (ov_move rfl rfl) rfl rfl rfl ?_
              refine at_wanted (j := 4) rfl ?_
              refine at_v (ov_move rfl rfl) rfl rfl rfl ?_
              refine at_wanted (j := 4) rfl ?_
              refine at_v (ov_len_slice rfl Try.underlying24 rfl) rfl rfl rfl ?_
              refine at_wanted (j := 4) rfl ?_
              refine at_v (ov_int rfl rfl rfl rfl) rfl rfl rfl ?_
              refine at_wanted (j := 1) rfl ?_
              refine at_v (ov_pick_t rfl rfl rfl) rfl rfl rfl ?_
              refine at_wanted (j := 1) rfl ?_
              refine at_v (ov_move rfl rfl) rfl rfl rfl ?_
              refine at_reval 38 (.bool false) rfl (congrArg Value.bool (decide_eq_false (by omega))) ?_
              refine at_unwanted (j := 10) rfl rfl rfl rfl ?_
              refine at_unwanted (j := 10) rfl rfl rfl rfl ?_
              refine at_unwanted (j := 10) rfl rfl rfl rfl ?_
              refine at_unwanted (j := 10) rfl rfl rfl rfl ?_
              refine at_wanted (j := 1) rfl ?_
              refine at_v (ov_pick_f rfl rfl rfl) rfl rfl rfl ?_
              refine at_v (ov_pick_f rfl rfl rfl) rfl rfl rfl ?_
              refine at_v (ov_assign rfl rfl) rfl rfl rfl ?_
              refine at_nil ?_
              refine at_inb_normal ?_
              refine at_normal ?_
              refine hK10 _ _ _ ?_
              refine at_region ?_
              refine at_v ((ov_int rfl rfl rfl rfl).eq (congrArg (Value.int .i64) (inK_i64 (by omega) (by omega)))) rfl rfl rfl ?_
              refine at_v (ov_move rfl rfl) rfl rfl rfl ?_
              refine at_nil ?_
              refine at_normal ?_
              refine at_roundF (k + 1) hlt (by omega) ⟨rfl, look_eq rfl (congrArg Value.bool ?_), trivial⟩ rfl ?_
              · rw [hss]; simp [mayB, hmk, *]
              exact fun _ s => s.finEq (ks := []) (js := []) rfl rfl rfl
            ·
              simp only [decide_eq_true_eq, decide_eq_false_iff_not, Bool.not_eq_true', Bool.not_eq_false', Int.not_lt, Int.not_le, Bool.and_eq_true, Bool.or_eq_true, Bool.and_eq_false_iff, Bool.or_eq_false_iff, gt_iff_lt, ge_iff_le] at h1
              refine at_unwanted (j := 4) rfl rfl rfl rfl ?_
              refine at_unwanted (j := 4) rfl rfl rfl rfl ?_
              refine at_unwanted (j := 4) rfl rfl rfl rfl ?_
              refine at_unwanted (j := 4) rfl rfl rfl rfl ?_
              refine at_wanted (j := 1) rfl ?_
              refine at_v (ov_pick_f rfl rfl rfl) rfl rfl rfl ?_
              refine at_wanted (j := 1) rfl ?_
              refine at_v (ov_move rfl rfl) rfl rfl rfl ?_
              refine at_unwanted (j := 10) rfl rfl rfl rfl ?_
              refine at_unwanted (j := 10) rfl rfl rfl rfl ?_
              refine at_unwanted (j := 10) rfl rfl rfl rfl ?_
              refine at_unwanted (j := 10) rfl rfl rfl rfl ?_
              refine at_wanted (j := 1) rfl ?_
              refine at_v (ov_pick_f rfl rfl rfl) rfl rfl rfl ?_
              refine at_v (ov_pick_f rfl rfl rfl) rfl rfl rfl ?_
              refine at_v (ov_assign rfl rfl) rfl rfl rfl ?_
              refine at_nil ?_
              refine at_inb_normal ?_
              refine at_normal ?_
              refine hK10 _ _ _ ?_
              refine at_region ?_
              refine at_v ((ov_int rfl rfl rfl rfl).eq (congrArg (Value.int .i64) (inK_i64 (by omega) (by omega)))) rfl rfl rfl ?_
              refine at_v (ov_move rfl rfl) rfl rfl rfl ?_
              refine at_nil ?_
              refine at_normal ?_
              refine at_roundF (k + 1) hlt (by omega) ⟨rfl, look_eq rfl (congrArg Value.bool ?_), trivial⟩ rfl ?_
              · rw [hss]; simp [mayB, hmk, *]
              exact fun _ s => s.finEq (ks := []) (js := []) rfl rfl rfl
        | some b =>
          have hlt2 : k < l2.length := (List.getElem?_eq_some_iff.1 hmk).1
          refine at_skip ?_
          refine at_normal ?_
          refine hK9 _ _ _ ?_
          refine at_seq_k (fun K10 hK10 => ?_)
          refine at_block ?_
          refine at_seq_k (fun K11 hK11 => ?_)
          refine at_region ?_
          refine at_v (ov_move rfl rfl) rfl rfl rfl ?_
          refine at_v (ov_indexRd (fun _ s => hr0.up s) rfl Try.underlying22 rfl rfl rfl hget) rfl rfl rfl ?_
          refine at_v (ov_loadRd0 (fun _ s => hr0.up s) rfl rfl rfl hget rfl) rfl rfl rfl ?_
          refine at_v (ov_assign rfl rfl) rfl rfl rfl ?_
          refine at_v (ov_assign rfl rfl) rfl rfl rfl ?_
          refine at_nil ?_
          refine at_normal ?_
          refine hK11 _ _ _ ?_
          refine at_region ?_
          refine at_v (ov_move rfl rfl) rfl rfl rfl ?_
          refine at_v (ov_move rfl rfl) rfl rfl rfl ?_
          refine at_bool (t := 29) rfl (fun h0 => ?_) (fun h0 => ?_)
          ·
            refine at_unwanted (j := 1) rfl rfl rfl rfl ?_
            refine at_unwanted (j := 1) rfl rfl rfl rfl ?_
            refine at_unwanted (j := 1) rfl rfl rfl rfl ?_
            refine at_unwantedN (j := 4) rfl rfl rfl ?_
            refine at_unwantedN (j := 4) rfl rfl rfl ?_
            refine at_unwantedN (j := 4) rfl rfl rfl ?_
            refine at_unwantedN (j := 4) rfl rfl rfl ?_
            refine at_unwanted (j := 1) rfl rfl rfl rfl ?_
            refine at_unwanted (j := 1) rfl rfl rfl rfl ?_
            refine at_unwantedN (j := 10) rfl rfl rfl ?_
            refine at_unwantedN (j := 10) rfl rfl rfl ?_
            refine at_unwantedN (j := 10) rfl rfl rfl ?_
            refine at_unwantedN (j := 10) rfl rfl rfl ?_
            refine at_unwanted (j := 1) rfl rfl rfl rfl ?_
            refine at_v (ov_pick_t rfl rfl rfl) rfl rfl rfl ?_
            refine at_v (ov_assign rfl rfl) rfl rfl rfl ?_
            refine at_nil ?_
            refine at_inb_normal ?_
            refine at_normal ?_
            refine hK10 _ _ _ ?_
            refine at_region ?_
            refine at_v ((ov_int rfl rfl rfl rfl).eq (congrArg (Value.int .i64) (inK_i64 (by omega) (by omega)))) rfl rfl rfl ?_
            refine at_v (ov_move rfl rfl) rfl rfl rfl ?_
            refine at_nil ?_
            refine at_normal ?_
            refine at_roundF (k + 1) hlt (by omega) ⟨rfl, look_eq rfl (congrArg Value.bool ?_), trivial⟩ rfl ?_
            · rw [hss]; unfold mayB; rw [hmk, hget]; simp [*] <;> (intro _; omega)
            exact fun _ s => s.finEq (ks := []) (js := []) rfl rfl rfl
          ·
            refine at_wanted (j := 1) rfl ?_
            refine at_v (ov_move rfl rfl) rfl rfl rfl ?_
            refine at_wanted (j := 1) rfl ?_
            refine at_v (ov_int rfl rfl rfl rfl) rfl rfl rfl ?_
            refine at_wanted (j := 1) rfl ?_
            refine at_v (ov_move rfl rfl) rfl rfl rfl ?_
            refine at_bool (t := 32) rfl (fun h1 => ?_) (fun h1 => ?_)
            ·
              simp only [decide_eq_true_eq, decide_eq_false_iff_not, Bool.not_eq_true', Bool.not_eq_false', Int.not_lt, Int.not_le, Bool.and_eq_true, Bool.or_eq_true, Bool.and_eq_false_iff, Bool.or_eq_false_iff, gt_iff_lt, ge_iff_le] at h1
              refine at_wanted (j := 4) rfl ?_
              refine at_v (ov_move rfl rfl) rfl rfl rfl ?_
              refine at_wanted (j := 4) rfl ?_
              refine at_v (ov_move rfl rfl) rfl rfl rfl ?_
              refine at_wanted (j := 4) rfl ?_
              refine at_v (ov_len_slice rfl Try.underlying24 rfl) rfl rfl rfl ?_
              refine at_wanted (j := 4) rfl ?_
              refine at_v (ov_int rfl rfl rfl rfl) rfl rfl rfl ?_
              refine at_wanted (j := 1) rfl ?_
              refine at_v (ov_pick_t rfl rfl rfl) rfl rfl rfl ?_
              refine at_wanted (j := 1) rfl ?_
              refine at_v (ov_move rfl rfl) rfl rfl rfl ?_
              refine at_reval 38 (.bool true) rfl (congrArg Value.bool (decide_eq_true (by omega))) ?_
              refine at_wanted (j := 10) rfl ?_
              refine at_v (ov_move rfl rfl) rfl rfl rfl ?_
              refine at_wanted (j := 10) rfl ?_
              refine at_v (ov_move rfl rfl) rfl rfl rfl ?_
              refine at_wanted (j := 10) rfl ?_
              refine at_v (ov_indexRd (fun _ s => hr2.up s) rfl Try.underlying24 rfl rfl rfl hmk) rfl rfl rfl ?_
              refine at_wanted (j := 10) rfl ?_
              refine at_v (ov_loadRd0 (fun _ s => hr2.up s) rfl rfl rfl hmk rfl) rfl rfl rfl ?_
              refine at_wanted (j := 1) rfl ?_
              refine at_v (ov_pick_t rfl rfl rfl) rfl rfl rfl ?_
              refine at_v (ov_pick_f rfl rfl rfl) rfl rfl rfl ?_
              refine at_v (ov_assign rfl rfl) rfl rfl rfl ?_
              refine at_nil ?_
              refine at_inb_normal ?_
              refine at_normal ?_
              refine hK10 _ _ _ ?_
              refine at_region ?_
              refine at_v ((ov_int rfl rfl rfl rfl).eq (congrArg (Value.int .i64) (inK_i64 (by omega) (by omega)))) rfl rfl rfl ?_
              refine at_v (ov_move rfl rfl) rfl rfl rfl ?_
              refine at_nil ?_
              refine at_normal ?_
              refine at_roundF (k + 1) hlt (by omega) ⟨rfl, look_eq rfl (congrArg Value.bool ?_), trivial⟩ rfl ?_
              · rw [hss]; unfold mayB; rw [hmk, hget]; simp [*] <;> (intro _; omega)
              exact fun _ s => s.finEq (ks := []) (js := []) rfl rfl rfl
            ·
              simp only [decide_eq_true_eq, decide_eq_false_iff_not, Bool.not_eq_true', Bool.not_eq_false', Int.not_lt, Int.not_le, Bool.and_eq_true, Bool.or_eq_true, Bool.and_eq_false_iff, Bool.or_eq_false_iff, gt_iff_lt, ge_iff_le] at h1
              refine at_unwanted (j := 4) rfl rfl rfl rfl ?_
              refine at_unwanted (j := 4) rfl rfl rfl rfl ?_
              refine at_unwanted (j := 4) rfl rfl rfl rfl ?_
              refine at_unwanted (j := 4) rfl rfl rfl rfl ?_
              refine at_wanted (j := 1) rfl ?_
              refine at_v (ov_pick_f rfl rfl rfl) rfl rfl rfl ?_
              refine at_wanted (j := 1) rfl ?_
              refine at_v (ov_move rfl rfl) rfl rfl rfl ?_
              refine at_unwanted (j := 10) rfl rfl rfl rfl ?_
              refine at_unwanted (j := 10) rfl rfl rfl rfl ?_
              refine at_unwanted (j := 10) rfl rfl rfl rfl ?_
              refine at_unwanted (j := 10) rfl rfl rfl rfl ?_
              refine at_wanted (j := 1) rfl ?_
              refine at_v (ov_pick_f rfl rfl rfl) rfl rfl rfl ?_
              refine at_v (ov_pick_f rfl rfl rfl) rfl rfl rfl ?_
              refine at_v (ov_assign rfl rfl) rfl rfl rfl ?_
              refine at_nil ?_
              refine at_inb_normal ?_
              refine at_normal ?_
              refine hK10 _ _ _ ?_
              refine at_region ?_
              refine at_v ((ov_int rfl rfl rfl rfl).eq (congrArg (Value.int .i64) (inK_i64 (by omega) (by omega)))) rfl rfl rfl ?_
              refine at_v (ov_move rfl rfl) rfl rfl rfl ?_
              refine at_nil ?_
              refine at_normal ?_
              refine at_roundF (k + 1) hlt (by omega) ⟨rfl, look_eq rfl (congrArg Value.bool ?_), trivial⟩ rfl ?_
              · rw [hss]; unfold mayB; rw [hmk, hget]; simp [*] <;> (intro _; omega)
              exact fun _ s => s.finEq (ks := []) (js := []) rfl rfl rfl
      · have hk2 : k = l0.length := by
          have : ¬ k < l0.length := by simpa using hc
          omega
        subst hk2
        by_cases hpos : 0 < (onlyL l0 l2).sum
        · obtain ⟨j, y, hj, hv, hy⟩ := pickV_some (d := a1) hpos
          have hjl : j < l0.length := by have := (List.getElem?_eq_some_iff.1 hj).1; rwa [hlen] at this
          have hj0 : l0[j]? = some l0[j] := List.getElem?_eq_getElem hjl
          have hj1 := onlyL_get (ms := l2) hj0
          rw [hj] at hj1
          simp only [Option.some.injEq] at hj1
          have hj2 : l2[j]? = some true := by
            cases h : l2[j]? with
            | none => rw [h] at hj1; simp at hj1; omega
            | some b => cases b with
              | true => rfl
              | false => rw [h] at hj1; simp at hj1; omega
          rw [hj2] at hj1
          have hj3 : y = l0[j] := hj1
          have hjl2 : j < l2.length := (List.getElem?_eq_some_iff.1 hj2).1
          have hcall : ∀ A c c', Tri Try.prog w0 14 [.slice A (onlyL l0 l2).length c, .int .u64 a1] [Row wE 3 1 A c' (onlyL l0 l2)] fun v m => v = .int .i64 (j : Nat) ∧ m = [Row wE 3 1 A c' (onlyL l0 l2)] := by
            intro A c c'; rw [← hv]; exact T14a w0 (by omega) hbo hd0 hd1
          refine at_exit ?_
          refine at_then_exit ?_
          refine at_then_exit ?_
          refine at_exit_eq ?_
          refine at_normal ?_
          refine hK6 _ _ _ ?_
          refine at_seq_k (fun K10 hK10 => ?_)
          refine at_region ?_
          refine at_v (ov_move rfl rfl) rfl rfl rfl ?_
          refine at_v (ov_move rfl rfl) rfl rfl rfl ?_
          refine at_t (ot_call (ks := []) rfl rfl rfl Try.call10 rfl (T10 _ (by first | assumption | omega | decide | (simp; done) | (simp at *; omega)) (by first | assumption | omega | decide | (simp; done) | (simp at *; omega)) (by first | assumption | omega | decide | (simp; done) | (simp at *; omega)) (by first | assumption | omega | decide | (simp; done) | (simp at *; omega))) rfl) rfl rfl rfl ?_
          rintro v0 _ ⟨m0, hp0, rfl⟩
          obtain ⟨C0, hp0⟩ := hp0
          obtain ⟨e0, hp0⟩ := hp0
          obtain ⟨rfl, rfl⟩ := hp0
          simp only [List.cons_append, List.nil_append]
          refine at_v (ov_move rfl rfl) rfl rfl rfl ?_
          refine at_t (ot_call (ks := [0]) rfl rfl rfl Try.call14 rfl (hcall _ _ _) rfl) rfl rfl rfl ?_
          rintro v0 _ ⟨m0, hp0, rfl⟩
          obtain ⟨rfl, rfl⟩ := hp0
          simp only [List.cons_append, List.nil_append]
          refine at_v (ov_assign rfl rfl) rfl rfl rfl ?_
          refine at_nil ?_
          refine at_normal ?_
          refine hK10 _ _ _ ?_
          refine at_seq_k (fun K11 hK11 => ?_)
          refine at_seq_k (fun K12 hK12 => ?_)
          refine at_region ?_
          refine at_v (ov_move rfl rfl) rfl rfl rfl ?_
          refine at_v (ov_int rfl rfl rfl rfl) rfl rfl rfl ?_
          refine at_nil ?_
          refine at_normal ?_
          refine hK12 _ _ _ ?_
          refine at_cond_false rfl ?_
          refine at_skip ?_
          refine at_normal ?_
          refine hK11 _ _ _ ?_
          refine at_seq_k (fun K13 hK13 => ?_)
          refine at_region ?_
          refine at_v (ov_move rfl rfl) rfl rfl rfl ?_
          refine at_v (ov_int rfl rfl rfl rfl) rfl rfl rfl ?_
          refine at_v (ov_move rfl rfl) rfl rfl rfl ?_
          refine at_wanted (j := 2) rfl ?_
          refine at_v (ov_move rfl rfl) rfl rfl rfl ?_
          refine at_wanted (j := 2) rfl ?_
          refine at_v (ov_move rfl rfl) rfl rfl rfl ?_
          refine at_wanted (j := 2) rfl ?_
          refine at_v (ov_len_slice rfl Try.underlying22 rfl) rfl rfl rfl ?_
          refine at_wanted (j := 2) rfl ?_
          refine at_v (ov_int rfl rfl rfl rfl) rfl rfl rfl ?_
          refine at_v (ov_pick_t rfl rfl rfl) rfl rfl rfl ?_
          refine at_v (ov_move rfl rfl) rfl rfl rfl ?_
          refine at_reval 63 (.bool true) rfl (congrArg Value.bool (decide_eq_true (by omega))) ?_
          refine at_wanted (j := 8) rfl ?_
          refine at_v (ov_move rfl rfl) rfl rfl rfl ?_
          refine at_wanted (j := 8) rfl ?_
          refine at_v (ov_move rfl rfl) rfl rfl rfl ?_
          refine at_wanted (j := 8) rfl ?_
          refine at_v (ov_indexRd (fun _ s => hr0.up s) rfl Try.underlying22 rfl rfl rfl hj0) rfl rfl rfl ?_
          refine at_wanted (j := 8) rfl ?_
          refine at_v (ov_loadRd0 (fun _ s => hr0.up s) rfl rfl rfl hj0 rfl) rfl rfl rfl ?_
          refine at_wanted (j := 8) rfl ?_
          refine at_v (ov_int rfl rfl rfl rfl) rfl rfl rfl ?_
          refine at_v (ov_pick_t rfl rfl rfl) rfl rfl rfl ?_
          refine at_v (ov_move rfl rfl) rfl rfl rfl ?_
          refine at_reval 70 (.bool true) rfl (congrArg Value.bool (decide_eq_true (by omega))) ?_
          refine at_wanted (j := 15) rfl ?_
          refine at_v (ov_move rfl rfl) rfl rfl rfl ?_
          refine at_wanted (j := 15) rfl ?_
          refine at_v (ov_move rfl rfl) rfl rfl rfl ?_
          refine at_wanted (j := 15) rfl ?_
          refine at_v (ov_len_slice rfl Try.underlying24 rfl) rfl rfl rfl ?_
          refine at_wanted (j := 15) rfl ?_
          refine at_v (ov_int rfl rfl rfl rfl) rfl rfl rfl ?_
          refine at_v (ov_pick_t rfl rfl rfl) rfl rfl rfl ?_
          refine at_v (ov_move rfl rfl) rfl rfl rfl ?_
          refine at_reval 76 (.bool true) rfl (congrArg Value.bool (decide_eq_true (by omega))) ?_
          refine at_wanted (j := 21) rfl ?_
          refine at_v (ov_move rfl rfl) rfl rfl rfl ?_
          refine at_wanted (j := 21) rfl ?_
          refine at_v (ov_move rfl rfl) rfl rfl rfl ?_
          refine at_wanted (j := 21) rfl ?_
          refine at_v (ov_indexRd (fun _ s => hr2.up s) rfl Try.underlying24 rfl rfl rfl hj2) rfl rfl rfl ?_
          refine at_wanted (j := 21) rfl ?_
          refine at_v (ov_loadRd0 (fun _ s => hr2.up s) rfl rfl rfl hj2 rfl) rfl rfl rfl ?_
          refine at_v (ov_pick_t rfl rfl rfl) rfl rfl rfl ?_
          refine at_v (ov_assign rfl rfl) rfl rfl rfl ?_
          refine at_nil ?_
          refine at_normal ?_
          refine hK13 _ _ _ ?_
          refine at_ret ?_
          refine at_end ?_
          refine at_fin (rsV rfl (res_tmp rfl)) ?_
          refine ⟨_, ⟨rfl, rfl⟩, ?_⟩
          exact fun _ s => s.finEq (ks := []) (js := [0]) rfl rfl rfl
        · have hv : pickV (onlyL l0 l2) a1 = -1 := if_pos (by omega)
          have hcall : ∀ A c c', Tri Try.prog w0 14 [.slice A (onlyL l0 l2).length c, .int .u64 a1] [Row wE 3 1 A c' (onlyL l0 l2)] fun v m => v = .int .i64 (-1) ∧ m = [Row wE 3 1 A c' (onlyL l0 l2)] := by
            intro A c c'; rw [← hv]; exact T14a w0 (by omega) hbo hd0 hd1
          have hno : someB l0 l2 l0.length = false := by
            refine List.any_eq_false.2 fun i hi => ?_
            have hil := List.mem_range.1 hi
            have h0 : l0[i]? = some l0[i] := List.getElem?_eq_getElem hil
            have h1 := onlyL_get (ms := l2) h0
            have h2 := sum_zero hnn (by omega) _ (List.mem_of_getElem? h1)
            unfold mayB
            rw [h0]
            cases h : l2[i]?.getD false with
            | false => simp
            | true => rw [h] at h2; simp at h2; simp [h2]
          refine at_exit ?_
          refine at_then_exit ?_
          refine at_then_exit ?_
          refine at_exit_eq ?_
          refine at_normal ?_
          refine hK6 _ _ _ ?_
          refine at_seq_k (fun K10 hK10 => ?_)
          refine at_region ?_
          refine at_v (ov_move rfl rfl) rfl rfl rfl ?_
          refine at_v (ov_move rfl rfl) rfl rfl rfl ?_
          refine at_t (ot_call (ks := []) rfl rfl rfl Try.call10 rfl (T10 _ (by first | assumption | omega | decide | (simp; done) | (simp at *; omega)) (by first | assumption | omega | decide | (simp; done) | (simp at *; omega)) (by first | assumption | omega | decide | (simp; done) | (simp at *; omega)) (by first | assumption | omega | decide | (simp; done) | (simp at *; omega))) rfl) rfl rfl rfl ?_
          rintro v0 _ ⟨m0, hp0, rfl⟩
          obtain ⟨C0, hp0⟩ := hp0
          obtain ⟨e0, hp0⟩ := hp0
          obtain ⟨rfl, rfl⟩ := hp0
          simp only [List.cons_append, List.nil_append]
          refine at_v (ov_move rfl rfl) rfl rfl rfl ?_
          refine at_t (ot_call (ks := [0]) rfl rfl rfl Try.call14 rfl (hcall _ _ _) rfl) rfl rfl rfl ?_
          rintro v0 _ ⟨m0, hp0, rfl⟩
          obtain ⟨rfl, rfl⟩ := hp0
          simp only [List.cons_append, List.nil_append]
          refine at_v (ov_assign rfl rfl) rfl rfl rfl ?_
          refine at_nil ?_
          refine at_normal ?_
          refine hK10 _ _ _ ?_
          refine at_seq_k (fun K11 hK11 => ?_)
          refine at_seq_k (fun K12 hK12 => ?_)
          refine at_region ?_
          refine at_v (ov_move rfl rfl) rfl rfl rfl ?_
          refine at_v (ov_int rfl rfl rfl rfl) rfl rfl rfl ?_
          refine at_nil ?_
          refine at_normal ?_
          refine hK12 _ _ _ ?_
          refine at_cond_true rfl ?_
          refine at_seq_k (fun K13 hK13 => ?_)
          refine at_region ?_
          refine at_v (ov_move rfl rfl) rfl rfl rfl ?_
          refine at_v (ov_not rfl rfl) rfl rfl rfl ?_
          refine at_v (ov_assign rfl rfl) rfl rfl rfl ?_
          refine at_nil ?_
          refine at_normal ?_
          refine hK13 _ _ _ ?_
          refine at_ret ?_
          refine at_then_ret ?_
          refine at_end ?_
          refine at_fin (rsV rfl (res_tmp rfl)) ?_
          refine ⟨_, ⟨congrArg Value.bool (by rw [hno]; rfl), rfl⟩, ?_⟩
          exact fun _ s => s.finEq (ks := []) (js := [0]) rfl rfl rfl
    · refine at_seq_k (fun K0 hK0 => ?_)
      refine at_region ?_
      refine at_v (ov_assign rfl rfl) rfl rfl rfl ?_
      refine at_nil ?_
      refine at_normal ?_
      refine hK0 _ _ _ ?_
      refine at_seq_k (fun K1 hK1 => ?_)
      refine at_seq_k (fun K2 hK2 => ?_)
      refine at_region ?_
      refine at_t (ot_call (ks := []) rfl rfl rfl Try.call6 rfl (T6 _) rfl) rfl rfl rfl ?_
      rintro v0 _ ⟨m0, hp0, rfl⟩
      obtain ⟨rfl, rfl⟩ := hp0
      simp only [List.cons_append, List.nil_append]
      refine at_v (ov_not rfl rfl) rfl rfl rfl ?_
      refine at_nil ?_
      refine at_normal ?_
      refine hK2 _ _ _ ?_
      refine at_cond_false rfl ?_
      refine at_skip ?_
      refine at_normal ?_
      refine hK1 _ _ _ ?_
      refine at_seq_k (fun K3 hK3 => ?_)
      refine at_seq_k (fun K4 hK4 => ?_)
      refine at_region ?_
      refine at_v (ov_move rfl rfl) rfl rfl rfl ?_
      refine at_t (ot_call (ks := []) rfl rfl rfl Try.call8 rfl (T8 _ (by first | assumption | omega | decide | (simp; done) | (simp at *; omega)) (by first | assumption | omega | decide | (simp; done) | (simp at *; omega))) rfl) rfl rfl rfl ?_
      rintro v0 _ ⟨m0, hp0, rfl⟩
      obtain ⟨rfl, rfl⟩ := hp0
      simp only [List.cons_append, List.nil_append]
      refine at_v (ov_not rfl rfl) rfl rfl rfl ?_
      refine at_v (ov_move rfl rfl) rfl rfl rfl ?_
      refine at_reval 16 (.bool false) rfl (congrArg Value.bool (by simp [hright, hb]; done)) ?_
      refine at_wanted (j := 3) rfl ?_
      refine at_v (ov_move rfl rfl) rfl rfl rfl ?_
      refine at_wanted (j := 3) rfl ?_
      refine at_v (ov_len_slice rfl Try.underlying24 rfl) rfl rfl rfl ?_
      refine at_wanted (j := 3) rfl ?_
      refine at_v (ov_int rfl rfl rfl rfl) rfl rfl rfl ?_
      refine at_v (ov_pick_f rfl rfl rfl) rfl rfl rfl ?_
      refine at_nil ?_
      refine at_normal ?_
      refine hK4 _ _ _ ?_
      refine at_cond_true (congrArg (fun b => some (Value.bool b)) (show _ = true from decide_eq_true (by omega))) ?_
      refine at_seq_k (fun K5 hK5 => ?_)
      refine at_region ?_
      refine at_v (ov_assign rfl rfl) rfl rfl rfl ?_
      refine at_nil ?_
      refine at_normal ?_
      refine hK5 _ _ _ ?_
      refine at_ret ?_
      refine at_then_ret ?_
      refine at_end ?_
      refine at_fin (rsV rfl (res_tmp rfl)) ?_
      refine ⟨_, ⟨rfl, rfl⟩, ?_⟩
      exact fun _ s => s.finEq (ks := []) (js := []) rfl rfl rfl
