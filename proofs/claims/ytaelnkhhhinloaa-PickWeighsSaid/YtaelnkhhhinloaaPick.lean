/- The functions of layer 11 (pick), walked: what each hands back. -/
import Derived.Test.YtaelnkhhhinloaaProg
import Derived.Test.YtaelnkhhhinloaaSLRange
import Derived.KernelRfl
set_option linter.unusedSimpArgs false
set_option linter.unusedVariables false
set_option maxRecDepth 100000
namespace Go.Proofs.Ytaelnkhhhinloaa
open Go Go.Proofs.Ytaelnkhhhinloaa.SL Go.RowKit
abbrev wE (x : Int) : List Value := [.int .i64 x]
abbrev mE (b : Bool) : List Value := [.bool b]
def badB (w : Int) : Bool := decide (w < 0) || decide (w > 100)
def rightB (xs : List Int) : Bool := !xs.any badB && decide (xs.length ≤ 6)
def pickAt : List Int → Int → Nat → Int
  | [], _, _ => -1
  | x :: xs, r, i => if r < x then (i : Int) else pickAt xs (r - x) (i + 1)
def pickV (xs : List Int) (d : Int) : Int := if xs.sum ≤ 0 then -1 else pickAt xs (d % xs.sum) 0
def onlyL (xs : List Int) (ms : List Bool) : List Int := xs.zipIdx.map fun p => if ms[p.2]?.getD false then p.1 else 0
theorem onlyL_len (xs : List Int) (ms : List Bool) : (onlyL xs ms).length = xs.length := by simp [onlyL]
theorem onlyL_get {xs : List Int} {ms : List Bool} {k : Nat} {x : Int} (h : xs[k]? = some x) : (onlyL xs ms)[k]? = some (if ms[k]?.getD false then x else 0) := by
  simp [onlyL, h]
theorem sum_take_succ {xs : List Int} {k : Nat} {x : Int} (h : xs[k]? = some x) : (xs.take (k + 1)).sum = (xs.take k).sum + x := by
  rw [List.take_add_one, h]; simp
theorem any_take_succ {xs : List Int} {k : Nat} {x : Int} (p : Int → Bool) (h : xs[k]? = some x) : (xs.take (k + 1)).any p = ((xs.take k).any p || p x) := by
  rw [List.take_add_one, h]; simp
theorem any_true {xs : List Int} {k : Nat} {x : Int} {p : Int → Bool} (h : xs[k]? = some x) (hp : p x = true) : xs.any p = true := List.any_eq_true.2 ⟨x, List.mem_of_getElem? h, hp⟩
theorem sum_bound {xs : List Int} (h : xs.any badB = false) (k : Nat) : 0 ≤ (xs.take k).sum ∧ (xs.take k).sum ≤ 100 * k := by
  induction k with
  | zero => simp
  | succ k ih =>
    cases hx : xs[k]? with
    | none => rw [List.take_add_one, hx]; simp; omega
    | some x =>
      rw [sum_take_succ hx]
      have hb : badB x = false := by
        cases hb : badB x with
        | false => rfl
        | true => rw [any_true hx hb] at h; cases h
      simp [badB] at hb
      omega
theorem pickAt_step {xs : List Int} {k : Nat} {x r : Int} (h : xs[k]? = some x) : pickAt (xs.drop k) r k = if r < x then (k : Int) else pickAt (xs.drop (k + 1)) (r - x) (k + 1) := by
  have hlt : k < xs.length := (List.getElem?_eq_some_iff.1 h).1
  have : xs[k] = x := (List.getElem?_eq_some_iff.1 h).2
  rw [List.drop_eq_getElem_cons hlt, this]; rfl

theorem T17 (w0 : World) (x : Int) : Tri Try.prog w0 17 [.int .i64 x] [] fun v m => v = .bool (badB x) ∧ m = [] := by
  refine tri_of Try.func17 rfl rfl fun F => ?_
  simp only [Try.ntmps17, argEnv, List.nil_append]
  refine at_seq_k (fun K0 hK0 => ?_)
  refine at_region ?_
  refine at_v (ov_assign rfl rfl) rfl rfl rfl ?_
  refine at_nil ?_
  refine at_normal ?_
  refine hK0 _ _ _ ?_
  refine at_seq_k (fun K1 hK1 => ?_)
  refine at_region ?_
  refine at_v (ov_move rfl rfl) rfl rfl rfl ?_
  refine at_v (ov_int rfl rfl rfl rfl) rfl rfl rfl ?_
  refine at_v (ov_move rfl rfl) rfl rfl rfl ?_
  refine at_bool (t := 5) rfl (fun h0 => ?_) (fun h0 => ?_)
  ·
    simp only [decide_eq_true_eq, decide_eq_false_iff_not, Bool.not_eq_true', Bool.not_eq_false', Int.not_lt, Int.not_le, Bool.and_eq_true, Bool.or_eq_true, Bool.and_eq_false_iff, Bool.or_eq_false_iff, gt_iff_lt, ge_iff_le] at h0
    refine at_unwanted (j := 2) rfl rfl rfl rfl ?_
    refine at_unwanted (j := 2) rfl rfl rfl rfl ?_
    refine at_v (ov_pick_t rfl rfl rfl) rfl rfl rfl ?_
    refine at_v (ov_assign rfl rfl) rfl rfl rfl ?_
    refine at_nil ?_
    refine at_normal ?_
    refine hK1 _ _ _ ?_
    refine at_ret ?_
    refine at_end ?_
    refine at_fin (rsV rfl (res_tmp rfl)) ?_
    refine ⟨_, ⟨by simp [badB, *] <;> omega, rfl⟩, ?_⟩
    exact fun _ s => s.finEq (ks := []) (js := []) rfl rfl rfl
  ·
    simp only [decide_eq_true_eq, decide_eq_false_iff_not, Bool.not_eq_true', Bool.not_eq_false', Int.not_lt, Int.not_le, Bool.and_eq_true, Bool.or_eq_true, Bool.and_eq_false_iff, Bool.or_eq_false_iff, gt_iff_lt, ge_iff_le] at h0
    refine at_wanted (j := 2) rfl ?_
    refine at_v (ov_move rfl rfl) rfl rfl rfl ?_
    refine at_wanted (j := 2) rfl ?_
    refine at_v (ov_int rfl rfl rfl rfl) rfl rfl rfl ?_
    refine at_v (ov_pick_f rfl rfl rfl) rfl rfl rfl ?_
    refine at_v (ov_assign rfl rfl) rfl rfl rfl ?_
    refine at_nil ?_
    refine at_normal ?_
    refine hK1 _ _ _ ?_
    refine at_ret ?_
    refine at_end ?_
    refine at_fin (rsV rfl (res_tmp rfl)) ?_
    refine ⟨_, ⟨by simp [badB, *] <;> omega, rfl⟩, ?_⟩
    exact fun _ s => s.finEq (ks := []) (js := []) rfl rfl rfl
theorem T20 (w0 : World) {A : Option Addr} {c : Nat} {xs : List Int} (hr : Rd wE w0 1 A xs) (hm : xs.length ≤ 9223372036854775807) :
    Tri Try.prog w0 20 [.slice A xs.length c, .func (.func 17) #[] #[]] [] fun v m => ∃ i : Int, (0 ≤ i ↔ xs.any badB = true) ∧ v = .int .i64 i ∧ m = [] := by
  refine tri_of Try.func20 rfl rfl fun F => ?_
  simp only [Try.ntmps20, argEnv, List.nil_append]
  refine at_seq_k (fun K0 hK0 => ?_)
  refine at_region ?_
  refine at_v (ov_assign rfl rfl) rfl rfl rfl ?_
  refine at_nil ?_
  refine at_normal ?_
  refine hK0 _ _ _ ?_
  refine at_seq_k (fun K1 hK1 => ?_)
  refine at_seq_k (fun K2 hK2 => ?_)
  refine at_region ?_
  refine at_v (ov_move rfl rfl) rfl rfl rfl ?_
  refine at_v (ov_len_slice rfl Try.underlying22 rfl) rfl rfl rfl ?_
  refine at_v (ov_move rfl rfl) rfl rfl rfl ?_
  refine at_nil ?_
  refine at_normal ?_
  refine hK2 _ _ _ ?_
  refine at_block ?_
  refine at_loopE [9, 10, 5, 11, 12, 13, 14, 15, 16, 17, 4, 18, 8] (fun k => k ≤ xs.length ∧ (xs.take k).any badB = false) (fun k => [(8, .int .i64 (k : Nat))]) (fun _ l => l) (fun k => xs.length - k) 0 ⟨Nat.zero_le _, rfl⟩ ⟨rfl, trivial⟩ (fun _ s => s) ?_
  rintro k ⟨hk, hb⟩
  refine at_seq_k (fun K3 hK3 => ?_)
  refine at_region ?_
  refine at_v (ov_int rfl rfl rfl rfl) rfl rfl rfl ?_
  refine at_nil ?_
  refine at_normal ?_
  refine hK3 _ _ _ ?_
  refine at_seq_k (fun K4 hK4 => ?_)
  refine at_cond rfl (fun hc => ?_) (fun hc => ?_)
  · have hlt : k < xs.length := by simpa using hc
    have hget : xs[k]? = some xs[k] := List.getElem?_eq_getElem hlt
    refine at_skip ?_
    refine at_normal ?_
    refine hK4 _ _ _ ?_
    refine at_seq_k (fun K5 hK5 => ?_)
    refine at_block ?_
    refine at_seq_k (fun K6 hK6 => ?_)
    refine at_region ?_
    refine at_v (ov_move rfl rfl) rfl rfl rfl ?_
    refine at_v (ov_assign rfl rfl) rfl rfl rfl ?_
    refine at_nil ?_
    refine at_normal ?_
    refine hK6 _ _ _ ?_
    refine at_seq_k (fun K7 hK7 => ?_)
    refine at_region ?_
    refine at_v (ov_move rfl rfl) rfl rfl rfl ?_
    refine at_v (ov_move rfl rfl) rfl rfl rfl ?_
    refine at_v (ov_move rfl rfl) rfl rfl rfl ?_
    refine at_v (ov_indexRd (fun _ s => hr.up s) rfl Try.underlying22 rfl rfl rfl hget) rfl rfl rfl ?_
    refine at_v (ov_loadRd0 (fun _ s => hr.up s) rfl rfl rfl hget rfl) rfl rfl rfl ?_
    refine at_t (ot_call (ks := []) rfl rfl rfl Try.call17 rfl (T17 _ _) rfl) rfl rfl rfl ?_
    rintro v0 _ ⟨m0, hp0, rfl⟩
    obtain ⟨rfl, rfl⟩ := hp0
    simp only [List.cons_append, List.nil_append]
    refine at_nil ?_
    refine at_normal ?_
    refine hK7 _ _ _ ?_
    refine at_cond rfl (fun hd => ?_) (fun hd => ?_)
    · refine at_seq_k (fun K8 hK8 => ?_)
      refine at_region ?_
      refine at_v (ov_move rfl rfl) rfl rfl rfl ?_
      refine at_v (ov_assign rfl rfl) rfl rfl rfl ?_
      refine at_nil ?_
      refine at_normal ?_
      refine hK8 _ _ _ ?_
      refine at_ret ?_
      refine at_inb_ret ?_
      refine at_then_ret ?_
      refine at_then_ret ?_
      refine at_inb_ret ?_
      refine at_then_ret ?_
      refine at_end ?_
      refine at_fin (rsV rfl (res_tmp rfl)) ?_
      refine ⟨_, ⟨_, ⟨fun _ => any_true hget hd, fun _ => ?_⟩, rfl, rfl⟩, ?_⟩
      · omega
      · exact fun _ s => s.finEq (ks := []) (js := []) rfl rfl rfl
    · refine at_skip ?_
      refine at_inb_normal ?_
      refine at_normal ?_
      refine hK5 _ _ _ ?_
      refine at_region ?_
      refine at_v ((ov_int rfl rfl rfl rfl).eq (congrArg (Value.int .i64) (inK_i64 (by omega) (by omega)))) rfl rfl rfl ?_
      refine at_v (ov_move rfl rfl) rfl rfl rfl ?_
      refine at_nil ?_
      refine at_normal ?_
      refine at_roundF (k + 1) ⟨hlt, by rw [any_take_succ badB hget, hb, hd]; rfl⟩ (by omega) ⟨rfl, trivial⟩ rfl ?_
      exact fun _ s => s.finEq (ks := []) (js := []) rfl rfl rfl
  · have hk2 : k = xs.length := by
      have : ¬ k < xs.length := by simpa using hc
      omega
    subst hk2
    rw [List.take_length] at hb
    refine at_exit ?_
    refine at_then_exit ?_
    refine at_then_exit ?_
    refine at_exit_eq ?_
    refine at_normal ?_
    refine hK1 _ _ _ ?_
    refine at_seq_k (fun K5 hK5 => ?_)
    refine at_region ?_
    refine at_v (ov_assign rfl rfl) rfl rfl rfl ?_
    refine at_nil ?_
    refine at_normal ?_
    refine hK5 _ _ _ ?_
    refine at_ret ?_
    refine at_end ?_
    refine at_fin (rsV rfl (res_tmp rfl)) ?_
    refine ⟨_, ⟨-1, ?_, rfl, rfl⟩, ?_⟩
    · rw [hb]; simp
    · exact fun _ s => s.finEq (ks := []) (js := []) rfl rfl rfl
theorem T16 (w0 : World) {A : Option Addr} {c : Nat} {xs : List Int} (hr : Rd wE w0 1 A xs) (hm : xs.length ≤ 9223372036854775807) :
    Tri Try.prog w0 16 [.slice A xs.length c, .func (.func 17) #[] #[]] [] fun v m => v = .bool (xs.any badB) ∧ m = [] := by
  refine tri_of Try.func16 rfl rfl fun F => ?_
  simp only [Try.ntmps16, argEnv, List.nil_append]
  refine at_seq_k (fun K0 hK0 => ?_)
  refine at_region ?_
  refine at_v (ov_assign rfl rfl) rfl rfl rfl ?_
  refine at_nil ?_
  refine at_normal ?_
  refine hK0 _ _ _ ?_
  refine at_seq_k (fun K1 hK1 => ?_)
  refine at_region ?_
  refine at_v (ov_move rfl rfl) rfl rfl rfl ?_
  refine at_v (ov_move rfl rfl) rfl rfl rfl ?_
  refine at_t (ot_call (ks := []) rfl rfl rfl Try.call20 rfl (T20 _ (by first | assumption | omega | decide | (simp; done) | (simp at *; omega)) (by first | assumption | omega | decide | (simp; done) | (simp at *; omega))) rfl) rfl rfl rfl ?_
  rintro v0 _ ⟨m0, hp0, rfl⟩
  obtain ⟨i0, hp0⟩ := hp0
  obtain ⟨hq0, hp0⟩ := hp0
  obtain ⟨rfl, rfl⟩ := hp0
  simp only [List.cons_append, List.nil_append]
  refine at_v (ov_int rfl rfl rfl rfl) rfl rfl rfl ?_
  refine at_v (ov_assign rfl rfl) rfl rfl rfl ?_
  refine at_nil ?_
  refine at_normal ?_
  refine hK1 _ _ _ ?_
  refine at_ret ?_
  refine at_end ?_
  refine at_fin (rsV rfl (res_tmp rfl)) ?_
  refine ⟨_, ⟨congrArg Value.bool ?_, rfl⟩, ?_⟩
  · cases hb : xs.any badB with
    | true => simpa using hq0.2 hb
    | false =>
      have : ¬ 0 ≤ i0 := fun h => by rw [hq0.1 h] at hb; cases hb
      simpa using this
  · exact fun _ s => s.finEq (ks := []) (js := []) rfl rfl rfl
theorem T7 (w0 : World) {A : Option Addr} {c : Nat} {xs : List Int} (hr : Rd wE w0 1 A xs) (hm : xs.length ≤ 9223372036854775807) :
    Tri Try.prog w0 7 [.slice A xs.length c] [] fun v m => v = .bool (rightB xs) ∧ m = [] := by
  refine tri_of Try.func7 rfl rfl fun F => ?_
  simp only [Try.ntmps7, argEnv, List.nil_append]
  refine at_seq_k (fun K0 hK0 => ?_)
  refine at_region ?_
  refine at_v (ov_assign rfl rfl) rfl rfl rfl ?_
  refine at_nil ?_
  refine at_normal ?_
  refine hK0 _ _ _ ?_
  refine at_seq_k (fun K1 hK1 => ?_)
  refine at_region ?_
  refine at_v (ov_move rfl rfl) rfl rfl rfl ?_
  refine at_v (ov_len_slice rfl Try.underlying22 rfl) rfl rfl rfl ?_
  refine at_v (ov_int rfl rfl rfl rfl) rfl rfl rfl ?_
  refine at_v (ov_move rfl rfl) rfl rfl rfl ?_
  refine at_bool (t := 6) rfl (fun h0 => ?_) (fun h0 => ?_)
  ·
    simp only [decide_eq_true_eq, decide_eq_false_iff_not, Bool.not_eq_true', Bool.not_eq_false', Int.not_lt, Int.not_le, Bool.and_eq_true, Bool.or_eq_true, Bool.and_eq_false_iff, Bool.or_eq_false_iff, gt_iff_lt, ge_iff_le] at h0
    refine at_wanted (j := 3) rfl ?_
    refine at_v (ov_move rfl rfl) rfl rfl rfl ?_
    refine at_wanted (j := 3) rfl ?_
    refine at_t (ot_call (ks := []) rfl rfl rfl Try.call16 rfl (T16 _ (by first | assumption | omega | decide | (simp; done) | (simp at *; omega)) (by first | assumption | omega | decide | (simp; done) | (simp at *; omega))) rfl) rfl rfl rfl ?_
    rintro v0 _ ⟨m0, hp0, rfl⟩
    obtain ⟨rfl, rfl⟩ := hp0
    simp only [List.cons_append, List.nil_append]
    refine at_wanted (j := 3) rfl ?_
    refine at_v (ov_not rfl rfl) rfl rfl rfl ?_
    refine at_v (ov_pick_t rfl rfl rfl) rfl rfl rfl ?_
    refine at_v (ov_assign rfl rfl) rfl rfl rfl ?_
    refine at_nil ?_
    refine at_normal ?_
    refine hK1 _ _ _ ?_
    refine at_ret ?_
    refine at_end ?_
    refine at_fin (rsV rfl (res_tmp rfl)) ?_
    refine ⟨_, ⟨congrArg Value.bool (by simp [rightB]; omega), rfl⟩, ?_⟩
    exact fun _ s => s.finEq (ks := []) (js := []) rfl rfl rfl
  ·
    simp only [decide_eq_true_eq, decide_eq_false_iff_not, Bool.not_eq_true', Bool.not_eq_false', Int.not_lt, Int.not_le, Bool.and_eq_true, Bool.or_eq_true, Bool.and_eq_false_iff, Bool.or_eq_false_iff, gt_iff_lt, ge_iff_le] at h0
    refine at_unwanted (j := 3) rfl rfl rfl rfl ?_
    refine at_unwanted (j := 3) rfl rfl rfl rfl ?_
    refine at_unwanted (j := 3) rfl rfl rfl rfl ?_
    refine at_v (ov_pick_f rfl rfl rfl) rfl rfl rfl ?_
    refine at_v (ov_assign rfl rfl) rfl rfl rfl ?_
    refine at_nil ?_
    refine at_normal ?_
    refine hK1 _ _ _ ?_
    refine at_ret ?_
    refine at_end ?_
    refine at_fin (rsV rfl (res_tmp rfl)) ?_
    refine ⟨_, ⟨congrArg Value.bool (by simp [rightB]; omega), rfl⟩, ?_⟩
    exact fun _ s => s.finEq (ks := []) (js := []) rfl rfl rfl
theorem T8 (w0 : World) {A : Option Addr} {c : Nat} {xs : List Int} (hr : Rd wE w0 1 A xs) (hm : xs.length ≤ 9223372036854775807) :
    Tri Try.prog w0 8 [.slice A xs.length c] [] fun v m => v = .bool (rightB xs) ∧ m = [] := by
  refine tri_of Try.func8 rfl rfl fun F => ?_
  simp only [Try.ntmps8, argEnv, List.nil_append]
  refine at_seq_k (fun K0 hK0 => ?_)
  refine at_region ?_
  refine at_v (ov_assign rfl rfl) rfl rfl rfl ?_
  refine at_nil ?_
  refine at_normal ?_
  refine hK0 _ _ _ ?_
  refine at_seq_k (fun K1 hK1 => ?_)
  refine at_seq_k (fun K2 hK2 => ?_)
  refine at_region ?_
  refine at_v (ov_assign rfl rfl) rfl rfl rfl ?_
  refine at_nil ?_
  refine at_normal ?_
  refine hK2 _ _ _ ?_
  refine at_block ?_
  refine at_loopE [4, 5, 6, 7, 10, 11, 12, 13, 14, 15, 16, 17, 18, 19, 20, 21, 2, 8, 9, 3] (fun k => k ≤ xs.length ∧ (xs.take k).any badB = false) (fun k => [(3, .int .i64 (k : Nat))]) (fun _ l => l) (fun k => xs.length - k) 0 ⟨Nat.zero_le _, rfl⟩ ⟨rfl, trivial⟩ (fun _ s => s) ?_
  rintro k ⟨hk, hb⟩
  refine at_seq_k (fun K3 hK3 => ?_)
  refine at_seq_k (fun K4 hK4 => ?_)
  refine at_region ?_
  refine at_v (ov_move rfl rfl) rfl rfl rfl ?_
  refine at_v (ov_move rfl rfl) rfl rfl rfl ?_
  refine at_v (ov_len_slice rfl Try.underlying22 rfl) rfl rfl rfl ?_
  refine at_v (ov_int rfl rfl rfl rfl) rfl rfl rfl ?_
  refine at_nil ?_
  refine at_normal ?_
  refine hK4 _ _ _ ?_
  refine at_cond rfl (fun hc => ?_) (fun hc => ?_)
  · have hlt : k < xs.length := by simpa using hc
    have hget : xs[k]? = some xs[k] := List.getElem?_eq_getElem hlt
    cases hbk : badB xs[k] with
    | true =>
      have hbad : xs[k] < 0 ∨ xs[k] > 100 := by simpa [badB] using hbk
      refine at_skip ?_
      refine at_normal ?_
      refine hK3 _ _ _ ?_
      refine at_seq_k (fun K5 hK5 => ?_)
      refine at_block ?_
      refine at_seq_k (fun K6 hK6 => ?_)
      refine at_region ?_
      refine at_v (ov_move rfl rfl) rfl rfl rfl ?_
      refine at_v (ov_move rfl rfl) rfl rfl rfl ?_
      refine at_v (ov_indexRd (fun _ s => hr.up s) rfl Try.underlying22 rfl rfl rfl hget) rfl rfl rfl ?_
      refine at_v (ov_loadRd0 (fun _ s => hr.up s) rfl rfl rfl hget rfl) rfl rfl rfl ?_
      refine at_v (ov_int rfl rfl rfl rfl) rfl rfl rfl ?_
      refine at_v (ov_move rfl rfl) rfl rfl rfl ?_
      refine at_bool (t := 15) rfl (fun h0 => ?_) (fun h0 => ?_)
      ·
        simp only [decide_eq_true_eq, decide_eq_false_iff_not, Bool.not_eq_true', Bool.not_eq_false', Int.not_lt, Int.not_le, Bool.and_eq_true, Bool.or_eq_true, Bool.and_eq_false_iff, Bool.or_eq_false_iff, gt_iff_lt, ge_iff_le] at h0
        refine at_unwanted (j := 5) rfl rfl rfl rfl ?_
        refine at_unwanted (j := 5) rfl rfl rfl rfl ?_
        refine at_unwanted (j := 5) rfl rfl rfl rfl ?_
        refine at_unwanted (j := 5) rfl rfl rfl rfl ?_
        refine at_unwanted (j := 5) rfl rfl rfl rfl ?_
        refine at_v (ov_pick_t rfl rfl rfl) rfl rfl rfl ?_
        refine at_nil ?_
        refine at_normal ?_
        refine hK6 _ _ _ ?_
        refine at_cond_true rfl ?_
        refine at_seq_k (fun K7 hK7 => ?_)
        refine at_region ?_
        refine at_v (ov_assign rfl rfl) rfl rfl rfl ?_
        refine at_nil ?_
        refine at_normal ?_
        refine hK7 _ _ _ ?_
        refine at_ret ?_
        refine at_inb_ret ?_
        refine at_then_ret ?_
        refine at_then_ret ?_
        refine at_inb_ret ?_
        refine at_then_ret ?_
        refine at_end ?_
        refine at_fin (rsV rfl (res_tmp rfl)) ?_
        refine ⟨_, ⟨by simp [rightB, any_true hget hbk], rfl⟩, ?_⟩
        exact fun _ s => s.finEq (ks := []) (js := []) rfl rfl rfl
      ·
        simp only [decide_eq_true_eq, decide_eq_false_iff_not, Bool.not_eq_true', Bool.not_eq_false', Int.not_lt, Int.not_le, Bool.and_eq_true, Bool.or_eq_true, Bool.and_eq_false_iff, Bool.or_eq_false_iff, gt_iff_lt, ge_iff_le] at h0
        refine at_wanted (j := 5) rfl ?_
        refine at_v (ov_move rfl rfl) rfl rfl rfl ?_
        refine at_wanted (j := 5) rfl ?_
        refine at_v (ov_move rfl rfl) rfl rfl rfl ?_
        refine at_wanted (j := 5) rfl ?_
        refine at_v (ov_indexRd (fun _ s => hr.up s) rfl Try.underlying22 rfl rfl rfl hget) rfl rfl rfl ?_
        refine at_wanted (j := 5) rfl ?_
        refine at_v (ov_loadRd0 (fun _ s => hr.up s) rfl rfl rfl hget rfl) rfl rfl rfl ?_
        refine at_wanted (j := 5) rfl ?_
        refine at_v (ov_int rfl rfl rfl rfl) rfl rfl rfl ?_
        refine at_v (ov_pick_f rfl rfl rfl) rfl rfl rfl ?_
        refine at_nil ?_
        refine at_normal ?_
        refine hK6 _ _ _ ?_
        refine at_cond_true (congrArg (fun b => some (Value.bool b)) (show _ = true from decide_eq_true (by omega))) ?_
        refine at_seq_k (fun K7 hK7 => ?_)
        refine at_region ?_
        refine at_v (ov_assign rfl rfl) rfl rfl rfl ?_
        refine at_nil ?_
        refine at_normal ?_
        refine hK7 _ _ _ ?_
        refine at_ret ?_
        refine at_inb_ret ?_
        refine at_then_ret ?_
        refine at_then_ret ?_
        refine at_inb_ret ?_
        refine at_then_ret ?_
        refine at_end ?_
        refine at_fin (rsV rfl (res_tmp rfl)) ?_
        refine ⟨_, ⟨by simp [rightB, any_true hget hbk], rfl⟩, ?_⟩
        exact fun _ s => s.finEq (ks := []) (js := []) rfl rfl rfl
    | false =>
      have hbad : ¬ xs[k] < 0 ∧ ¬ xs[k] > 100 := by simpa [badB] using hbk
      refine at_skip ?_
      refine at_normal ?_
      refine hK3 _ _ _ ?_
      refine at_seq_k (fun K5 hK5 => ?_)
      refine at_block ?_
      refine at_seq_k (fun K6 hK6 => ?_)
      refine at_region ?_
      refine at_v (ov_move rfl rfl) rfl rfl rfl ?_
      refine at_v (ov_move rfl rfl) rfl rfl rfl ?_
      refine at_v (ov_indexRd (fun _ s => hr.up s) rfl Try.underlying22 rfl rfl rfl hget) rfl rfl rfl ?_
      refine at_v (ov_loadRd0 (fun _ s => hr.up s) rfl rfl rfl hget rfl) rfl rfl rfl ?_
      refine at_v (ov_int rfl rfl rfl rfl) rfl rfl rfl ?_
      refine at_v (ov_move rfl rfl) rfl rfl rfl ?_
      refine at_reval 15 (.bool false) rfl (congrArg Value.bool (decide_eq_false (by omega))) ?_
      refine at_wanted (j := 5) rfl ?_
      refine at_v (ov_move rfl rfl) rfl rfl rfl ?_
      refine at_wanted (j := 5) rfl ?_
      refine at_v (ov_move rfl rfl) rfl rfl rfl ?_
      refine at_wanted (j := 5) rfl ?_
      refine at_v (ov_indexRd (fun _ s => hr.up s) rfl Try.underlying22 rfl rfl rfl hget) rfl rfl rfl ?_
      refine at_wanted (j := 5) rfl ?_
      refine at_v (ov_loadRd0 (fun _ s => hr.up s) rfl rfl rfl hget rfl) rfl rfl rfl ?_
      refine at_wanted (j := 5) rfl ?_
      refine at_v (ov_int rfl rfl rfl rfl) rfl rfl rfl ?_
      refine at_v (ov_pick_f rfl rfl rfl) rfl rfl rfl ?_
      refine at_nil ?_
      refine at_normal ?_
      refine hK6 _ _ _ ?_
      refine at_cond_false (congrArg (fun b => some (Value.bool b)) (show _ = false from decide_eq_false (by omega))) ?_
      refine at_skip ?_
      refine at_inb_normal ?_
      refine at_normal ?_
      refine hK5 _ _ _ ?_
      refine at_region ?_
      refine at_v (ov_move rfl rfl) rfl rfl rfl ?_
      refine at_v ((ov_int rfl rfl rfl rfl).eq (congrArg (Value.int .i64) (inK_i64 (by omega) (by omega)))) rfl rfl rfl ?_
      refine at_v (ov_assign rfl rfl) rfl rfl rfl ?_
      refine at_nil ?_
      refine at_normal ?_
      refine at_roundF (k + 1) ⟨hlt, by rw [any_take_succ badB hget, hb, hbk]; rfl⟩ (by omega) ⟨rfl, trivial⟩ rfl ?_
      exact fun _ s => s.finEq (ks := []) (js := []) rfl rfl rfl
  · have hk2 : k = xs.length := by
      have : ¬ k < xs.length := by simpa using hc
      omega
    subst hk2
    rw [List.take_length] at hb
    refine at_exit ?_
    refine at_then_exit ?_
    refine at_then_exit ?_
    refine at_exit_eq ?_
    refine at_normal ?_
    refine hK1 _ _ _ ?_
    refine at_seq_k (fun K5 hK5 => ?_)
    refine at_region ?_
    refine at_v (ov_move rfl rfl) rfl rfl rfl ?_
    refine at_v (ov_len_slice rfl Try.underlying22 rfl) rfl rfl rfl ?_
    refine at_v (ov_int rfl rfl rfl rfl) rfl rfl rfl ?_
    refine at_v (ov_assign rfl rfl) rfl rfl rfl ?_
    refine at_nil ?_
    refine at_normal ?_
    refine hK5 _ _ _ ?_
    refine at_ret ?_
    refine at_end ?_
    refine at_fin (rsV rfl (res_tmp rfl)) ?_
    refine ⟨_, ⟨congrArg Value.bool (by simp [rightB, hb]; omega), rfl⟩, ?_⟩
    exact fun _ s => s.finEq (ks := []) (js := []) rfl rfl rfl
theorem T9 (w0 : World) {A B : Option Addr} {c d : Nat} {xs ys : List Int} (hr : Rd wE w0 1 A xs) (hr2 : Rd wE w0 1 B ys) (hm : xs.length ≤ 9223372036854775807) (hm2 : ys.length ≤ 9223372036854775807) :
    Tri Try.prog w0 9 [.slice A xs.length c, .slice B ys.length d] [] fun v m => v = .bool (decide (xs = ys)) ∧ m = [] := by
  refine tri_of Try.func9 rfl rfl fun F => ?_
  simp only [Try.ntmps9, argEnv, List.nil_append]
  by_cases hil : xs.length = ys.length
  · refine at_seq_k (fun K0 hK0 => ?_)
    refine at_region ?_
    refine at_v (ov_assign rfl rfl) rfl rfl rfl ?_
    refine at_nil ?_
    refine at_normal ?_
    refine hK0 _ _ _ ?_
    refine at_seq_k (fun K1 hK1 => ?_)
    refine at_seq_k (fun K2 hK2 => ?_)
    refine at_region ?_
    refine at_v (ov_move rfl rfl) rfl rfl rfl ?_
    refine at_v (ov_len_slice rfl Try.underlying22 rfl) rfl rfl rfl ?_
    refine at_v (ov_move rfl rfl) rfl rfl rfl ?_
    refine at_v (ov_len_slice rfl Try.underlying22 rfl) rfl rfl rfl ?_
    refine at_v (ov_int rfl rfl rfl rfl) rfl rfl rfl ?_
    refine at_nil ?_
    refine at_normal ?_
    refine hK2 _ _ _ ?_
    refine at_cond_false (congrArg (fun b => some (Value.bool b)) (show _ = false from by simp [hil]; done)) ?_
    refine at_skip ?_
    refine at_normal ?_
    refine hK1 _ _ _ ?_
    refine at_seq_k (fun K3 hK3 => ?_)
    refine at_seq_k (fun K4 hK4 => ?_)
    refine at_region ?_
    refine at_v (ov_assign rfl rfl) rfl rfl rfl ?_
    refine at_nil ?_
    refine at_normal ?_
    refine hK4 _ _ _ ?_
    refine at_block ?_
    refine at_loopE [11, 12, 13, 14, 17, 18, 19, 20, 21, 22, 23, 24, 25, 4, 15, 16, 5] (fun k => k ≤ xs.length ∧ xs.take k = ys.take k) (fun k => [(5, .int .i64 (k : Nat))]) (fun _ l => l) (fun k => xs.length - k) 0 ⟨Nat.zero_le _, rfl⟩ ⟨rfl, trivial⟩ (fun _ s => s) ?_
    rintro k ⟨hk, hb⟩
    refine at_seq_k (fun K5 hK5 => ?_)
    refine at_seq_k (fun K6 hK6 => ?_)
    refine at_region ?_
    refine at_v (ov_move rfl rfl) rfl rfl rfl ?_
    refine at_v (ov_move rfl rfl) rfl rfl rfl ?_
    refine at_v (ov_len_slice rfl Try.underlying22 rfl) rfl rfl rfl ?_
    refine at_v (ov_int rfl rfl rfl rfl) rfl rfl rfl ?_
    refine at_nil ?_
    refine at_normal ?_
    refine hK6 _ _ _ ?_
    refine at_cond rfl (fun hc => ?_) (fun hc => ?_)
    · have hlt : k < xs.length := by simpa using hc
      have hget : xs[k]? = some xs[k] := List.getElem?_eq_getElem hlt
      have hget2 : ys[k]? = some ys[k] := List.getElem?_eq_getElem (by omega)
      by_cases he : xs[k] = ys[k]
      · refine at_skip ?_
        refine at_normal ?_
        refine hK5 _ _ _ ?_
        refine at_seq_k (fun K7 hK7 => ?_)
        refine at_block ?_
        refine at_seq_k (fun K8 hK8 => ?_)
        refine at_draw _ [] 1000 [(2, 0), (2, 1), (1, 2), (1, 3), (2, 4), (2, 5), (1, 6), (1, 7), (1, 8)] (by kernel_rfl) (by kernel_rfl) (fun _ s => (s.pulls (ks := []) rfl).left) ?_
        refine aq_p (ov_move rfl rfl) rfl rfl rfl ?_
        refine aq_p (ov_move rfl rfl) rfl rfl rfl ?_
        refine aq_v (ov_indexRd (fun _ s => hr.up s) rfl Try.underlying22 rfl rfl rfl hget) rfl rfl rfl ?_
        refine aq_v (ov_loadRd0 (fun _ s => hr.up s) rfl rfl rfl hget rfl) rfl rfl rfl ?_
        refine aq_p (ov_move rfl rfl) rfl rfl rfl ?_
        refine aq_p (ov_move rfl rfl) rfl rfl rfl ?_
        refine aq_v (ov_indexRd (fun _ s => hr2.up s) rfl Try.underlying22 rfl rfl rfl hget2) rfl rfl rfl ?_
        refine aq_v (ov_loadRd0 (fun _ s => hr2.up s) rfl rfl rfl hget2 rfl) rfl rfl rfl ?_
        refine aq_v (ov_int rfl rfl rfl rfl) rfl rfl rfl ?_
        refine aq_nil ?_
        refine at_normal ?_
        refine hK8 _ _ _ ?_
        refine at_cond rfl (fun h0 => ?_) (fun h0 => ?_)
        ·
          simp only [decide_eq_true_eq, decide_eq_false_iff_not, Bool.not_eq_true', Bool.not_eq_false', Int.not_lt, Int.not_le, Bool.and_eq_true, Bool.or_eq_true, Bool.and_eq_false_iff, Bool.or_eq_false_iff, gt_iff_lt, ge_iff_le] at h0
          (exfalso; omega)
        ·
          simp only [decide_eq_true_eq, decide_eq_false_iff_not, Bool.not_eq_true', Bool.not_eq_false', Int.not_lt, Int.not_le, Bool.and_eq_true, Bool.or_eq_true, Bool.and_eq_false_iff, Bool.or_eq_false_iff, gt_iff_lt, ge_iff_le] at h0
          refine at_skip ?_
          refine at_inb_normal ?_
          refine at_normal ?_
          refine hK7 _ _ _ ?_
          refine at_region ?_
          refine at_v (ov_move rfl rfl) rfl rfl rfl ?_
          refine at_v ((ov_int rfl rfl rfl rfl).eq (congrArg (Value.int .i64) (inK_i64 (by omega) (by omega)))) rfl rfl rfl ?_
          refine at_v (ov_assign rfl rfl) rfl rfl rfl ?_
          refine at_nil ?_
          refine at_normal ?_
          refine at_roundF (k + 1) ⟨hlt, by rw [List.take_add_one, List.take_add_one, hget, hget2, he, hb]⟩ (by omega) ⟨rfl, trivial⟩ rfl ?_
          exact fun _ s => s.finEq (ks := []) (js := []) rfl rfl rfl
      · have hne : ¬ xs = ys := fun e => by subst e; exact he rfl
        refine at_skip ?_
        refine at_normal ?_
        refine hK5 _ _ _ ?_
        refine at_seq_k (fun K7 hK7 => ?_)
        refine at_block ?_
        refine at_seq_k (fun K8 hK8 => ?_)
        refine at_draw _ [] 1000 [(2, 0), (2, 1), (1, 2), (1, 3), (2, 4), (2, 5), (1, 6), (1, 7), (1, 8)] (by kernel_rfl) (by kernel_rfl) (fun _ s => (s.pulls (ks := []) rfl).left) ?_
        refine aq_p (ov_move rfl rfl) rfl rfl rfl ?_
        refine aq_p (ov_move rfl rfl) rfl rfl rfl ?_
        refine aq_v (ov_indexRd (fun _ s => hr.up s) rfl Try.underlying22 rfl rfl rfl hget) rfl rfl rfl ?_
        refine aq_v (ov_loadRd0 (fun _ s => hr.up s) rfl rfl rfl hget rfl) rfl rfl rfl ?_
        refine aq_p (ov_move rfl rfl) rfl rfl rfl ?_
        refine aq_p (ov_move rfl rfl) rfl rfl rfl ?_
        refine aq_v (ov_indexRd (fun _ s => hr2.up s) rfl Try.underlying22 rfl rfl rfl hget2) rfl rfl rfl ?_
        refine aq_v (ov_loadRd0 (fun _ s => hr2.up s) rfl rfl rfl hget2 rfl) rfl rfl rfl ?_
        refine aq_v (ov_int rfl rfl rfl rfl) rfl rfl rfl ?_
        refine aq_nil ?_
        refine at_normal ?_
        refine hK8 _ _ _ ?_
        refine at_cond rfl (fun h0 => ?_) (fun h0 => ?_)
        ·
          simp only [decide_eq_true_eq, decide_eq_false_iff_not, Bool.not_eq_true', Bool.not_eq_false', Int.not_lt, Int.not_le, Bool.and_eq_true, Bool.or_eq_true, Bool.and_eq_false_iff, Bool.or_eq_false_iff, gt_iff_lt, ge_iff_le] at h0
          refine at_seq_k (fun K9 hK9 => ?_)
          refine at_region ?_
          refine at_v (ov_assign rfl rfl) rfl rfl rfl ?_
          refine at_nil ?_
          refine at_normal ?_
          refine hK9 _ _ _ ?_
          refine at_ret ?_
          refine at_inb_ret ?_
          refine at_then_ret ?_
          refine at_then_ret ?_
          refine at_inb_ret ?_
          refine at_then_ret ?_
          refine at_end ?_
          refine at_fin (rsV rfl (res_tmp rfl)) ?_
          refine ⟨_, ⟨by simp [hne], rfl⟩, ?_⟩
          exact fun _ s => s.finEq (ks := []) (js := []) rfl rfl rfl
        ·
          simp only [decide_eq_true_eq, decide_eq_false_iff_not, Bool.not_eq_true', Bool.not_eq_false', Int.not_lt, Int.not_le, Bool.and_eq_true, Bool.or_eq_true, Bool.and_eq_false_iff, Bool.or_eq_false_iff, gt_iff_lt, ge_iff_le] at h0
          (exfalso; omega)
    · have hk2 : k = xs.length := by
        have : ¬ k < xs.length := by simpa using hc
        omega
      subst hk2
      rw [List.take_length, hil, List.take_length] at hb
      refine at_exit ?_
      refine at_then_exit ?_
      refine at_then_exit ?_
      refine at_exit_eq ?_
      refine at_normal ?_
      refine hK3 _ _ _ ?_
      refine at_seq_k (fun K7 hK7 => ?_)
      refine at_region ?_
      refine at_v (ov_assign rfl rfl) rfl rfl rfl ?_
      refine at_nil ?_
      refine at_normal ?_
      refine hK7 _ _ _ ?_
      refine at_ret ?_
      refine at_end ?_
      refine at_fin (rsV rfl (res_tmp rfl)) ?_
      refine ⟨_, ⟨by simp [hb], rfl⟩, ?_⟩
      exact fun _ s => s.finEq (ks := []) (js := []) rfl rfl rfl
  · have hne : ¬ xs = ys := fun e => hil (by rw [e])
    refine at_seq_k (fun K0 hK0 => ?_)
    refine at_region ?_
    refine at_v (ov_assign rfl rfl) rfl rfl rfl ?_
    refine at_nil ?_
    refine at_normal ?_
    refine hK0 _ _ _ ?_
    refine at_seq_k (fun K1 hK1 => ?_)
    refine at_seq_k (fun K2 hK2 => ?_)
    refine at_region ?_
    refine at_v (ov_move rfl rfl) rfl rfl rfl ?_
    refine at_v (ov_len_slice rfl Try.underlying22 rfl) rfl rfl rfl ?_
    refine at_v (ov_move rfl rfl) rfl rfl rfl ?_
    refine at_v (ov_len_slice rfl Try.underlying22 rfl) rfl rfl rfl ?_
    refine at_v (ov_int rfl rfl rfl rfl) rfl rfl rfl ?_
    refine at_nil ?_
    refine at_normal ?_
    refine hK2 _ _ _ ?_
    refine at_cond rfl (fun h0 => ?_) (fun h0 => ?_)
    ·
      simp only [decide_eq_true_eq, decide_eq_false_iff_not, Bool.not_eq_true', Bool.not_eq_false', Int.not_lt, Int.not_le, Bool.and_eq_true, Bool.or_eq_true, Bool.and_eq_false_iff, Bool.or_eq_false_iff, gt_iff_lt, ge_iff_le] at h0
      refine at_seq_k (fun K3 hK3 => ?_)
      refine at_region ?_
      refine at_v (ov_assign rfl rfl) rfl rfl rfl ?_
      refine at_nil ?_
      refine at_normal ?_
      refine hK3 _ _ _ ?_
      refine at_ret ?_
      refine at_then_ret ?_
      refine at_end ?_
      refine at_fin (rsV rfl (res_tmp rfl)) ?_
      refine ⟨_, ⟨by simp [hne], rfl⟩, ?_⟩
      exact fun _ s => s.finEq (ks := []) (js := []) rfl rfl rfl
    ·
      simp only [decide_eq_true_eq, decide_eq_false_iff_not, Bool.not_eq_true', Bool.not_eq_false', Int.not_lt, Int.not_le, Bool.and_eq_true, Bool.or_eq_true, Bool.and_eq_false_iff, Bool.or_eq_false_iff, gt_iff_lt, ge_iff_le] at h0
      (exfalso; omega)
theorem T13 (w0 : World) {A : Option Addr} {c : Nat} {xs : List Int} (hr : Rd wE w0 1 A xs) (hm : xs.length ≤ 1000) (hb : xs.any badB = false) :
    Tri Try.prog w0 13 [.slice A xs.length c] [] fun v m => v = .int .i64 xs.sum ∧ m = [] := by
  refine tri_of Try.func13 rfl rfl fun F => ?_
  simp only [Try.ntmps13, argEnv, List.nil_append]
  refine at_seq_k (fun K0 hK0 => ?_)
  refine at_region ?_
  refine at_v (ov_assign rfl rfl) rfl rfl rfl ?_
  refine at_nil ?_
  refine at_normal ?_
  refine hK0 _ _ _ ?_
  refine at_seq_k (fun K1 hK1 => ?_)
  refine at_region ?_
  refine at_v (ov_assign rfl rfl) rfl rfl rfl ?_
  refine at_nil ?_
  refine at_normal ?_
  refine hK1 _ _ _ ?_
  refine at_seq_k (fun K2 hK2 => ?_)
  refine at_seq_k (fun K3 hK3 => ?_)
  refine at_region ?_
  refine at_v (ov_assign rfl rfl) rfl rfl rfl ?_
  refine at_nil ?_
  refine at_normal ?_
  refine hK3 _ _ _ ?_
  refine at_block ?_
  refine at_loopE [5, 6, 7, 8, 11, 12, 13, 14, 15, 16, 3, 9, 10, 4] (fun k => k ≤ xs.length) (fun k => [(4, .int .i64 (k : Nat)), (3, .int .i64 (xs.take k).sum)]) (fun _ l => l) (fun k => xs.length - k) 0 (Nat.zero_le _) ⟨rfl, rfl, trivial⟩ (fun _ s => s) ?_
  intro k hk
  refine at_seq_k (fun K4 hK4 => ?_)
  refine at_seq_k (fun K5 hK5 => ?_)
  refine at_region ?_
  refine at_v (ov_move rfl rfl) rfl rfl rfl ?_
  refine at_v (ov_move rfl rfl) rfl rfl rfl ?_
  refine at_v (ov_len_slice rfl Try.underlying22 rfl) rfl rfl rfl ?_
  refine at_v (ov_int rfl rfl rfl rfl) rfl rfl rfl ?_
  refine at_nil ?_
  refine at_normal ?_
  refine hK5 _ _ _ ?_
  refine at_cond rfl (fun hc => ?_) (fun hc => ?_)
  · have hlt : k < xs.length := by simpa using hc
    have hget : xs[k]? = some xs[k] := List.getElem?_eq_getElem hlt
    have hs := sum_take_succ hget
    have b1 := sum_bound hb k
    have b2 := sum_bound hb (k + 1)
    refine at_skip ?_
    refine at_normal ?_
    refine hK4 _ _ _ ?_
    refine at_seq_k (fun K6 hK6 => ?_)
    refine at_block ?_
    refine at_region ?_
    refine at_v (ov_move rfl rfl) rfl rfl rfl ?_
    refine at_v (ov_move rfl rfl) rfl rfl rfl ?_
    refine at_v (ov_move rfl rfl) rfl rfl rfl ?_
    refine at_v (ov_indexRd (fun _ s => hr.up s) rfl Try.underlying22 rfl rfl rfl hget) rfl rfl rfl ?_
    refine at_v (ov_loadRd0 (fun _ s => hr.up s) rfl rfl rfl hget rfl) rfl rfl rfl ?_
    refine at_v ((ov_int rfl rfl rfl rfl).eq (congrArg (Value.int .i64) (inK_i64 (by omega) (by omega)))) rfl rfl rfl ?_
    refine at_v (ov_assign rfl rfl) rfl rfl rfl ?_
    refine at_nil ?_
    refine at_inb_normal ?_
    refine at_normal ?_
    refine hK6 _ _ _ ?_
    refine at_region ?_
    refine at_v (ov_move rfl rfl) rfl rfl rfl ?_
    refine at_v ((ov_int rfl rfl rfl rfl).eq (congrArg (Value.int .i64) (inK_i64 (by omega) (by omega)))) rfl rfl rfl ?_
    refine at_v (ov_assign rfl rfl) rfl rfl rfl ?_
    refine at_nil ?_
    refine at_normal ?_
    refine at_roundF (k + 1) hlt (by omega) ⟨rfl, look_eq rfl (congrArg (Value.int .i64) hs.symm), trivial⟩ rfl ?_
    exact fun _ s => s.finEq (ks := []) (js := []) rfl rfl rfl
  · have hk2 : k = xs.length := by
      have : ¬ k < xs.length := by simpa using hc
      omega
    subst hk2
    simp only [List.take_length]
    refine at_exit ?_
    refine at_then_exit ?_
    refine at_then_exit ?_
    refine at_exit_eq ?_
    refine at_normal ?_
    refine hK2 _ _ _ ?_
    refine at_seq_k (fun K6 hK6 => ?_)
    refine at_region ?_
    refine at_v (ov_move rfl rfl) rfl rfl rfl ?_
    refine at_v (ov_assign rfl rfl) rfl rfl rfl ?_
    refine at_nil ?_
    refine at_normal ?_
    refine hK6 _ _ _ ?_
    refine at_ret ?_
    refine at_end ?_
    refine at_fin (rsV rfl (res_tmp rfl)) ?_
    refine ⟨_, ⟨rfl, rfl⟩, ?_⟩
    exact fun _ s => s.finEq (ks := []) (js := []) rfl rfl rfl
theorem T19 (w0 : World) {A : Option Addr} {c n : Nat} : Tri Try.prog w0 19 [.slice A n c] [] fun v m => ∃ b, v = .func (.func 21) #[] #[ptrTo b] ∧ m = [cl b #[.slice A n c] 22] := by
  refine tri_of Try.func19 rfl rfl fun F => ?_
  simp only [Try.ntmps19, argEnv, List.nil_append]
  refine at_seq_k (fun K0 hK0 => ?_)
  refine at_region ?_
  refine at_t (ot_box1 rfl rfl rfl) rfl rfl rfl ?_
  rintro _ _ ⟨g0, rfl, rfl⟩
  refine at_v (ov_assign rfl rfl) rfl rfl rfl ?_
  refine at_nil ?_
  refine at_normal ?_
  refine hK0 _ _ _ ?_
  refine at_seq_k (fun K1 hK1 => ?_)
  refine at_region ?_
  refine at_v (ov_makeFunc (first := []) rfl rfl rfl) rfl rfl rfl ?_
  refine at_v (ov_assign rfl rfl) rfl rfl rfl ?_
  refine at_nil ?_
  refine at_normal ?_
  refine hK1 _ _ _ ?_
  refine at_ret ?_
  refine at_end ?_
  refine at_fin (rsV rfl (res_tmp rfl)) ?_
  refine ⟨_, ⟨_, rfl, rfl⟩, ?_⟩
  exact fun _ s => s.finEq (ks := [0]) (js := []) rfl rfl rfl
theorem S21 (w0 : World) {A : Option Addr} {c b : Nat} {xs : List Int} (hr : Rd wE w0 1 A xs) (hm : xs.length ≤ 1000) (hb : xs.any badB = false) :
    Seq Try.prog w0 21 [ptrTo b] [cl b #[.slice A xs.length c] 22] xs.length (fun k => [.int .i64 (k : Nat), .int .i64 (xs.take (k + 1)).sum]) := by
  intro l0 J D hy
  refine tri_of Try.func21 rfl rfl fun F => ?_
  simp only [Try.ntmps21, argEnv, List.cons_append, List.nil_append]
  refine at_seq_k (fun K0 hK0 => ?_)
  refine at_region ?_
  refine at_v (ov_assign rfl rfl) rfl rfl rfl ?_
  refine at_nil ?_
  refine at_normal ?_
  refine hK0 _ _ _ ?_
  refine at_seq_k (fun K1 hK1 => ?_)
  refine at_region ?_
  refine at_v (ov_load rfl rfl rfl (fun _ s => s.ld (k := 1) rfl rfl)) rfl rfl rfl ?_
  refine at_v (ov_len_slice rfl Try.underlying22 rfl) rfl rfl rfl ?_
  refine at_v (ov_move rfl rfl) rfl rfl rfl ?_
  refine at_nil ?_
  refine at_normal ?_
  refine hK1 _ _ _ ?_
  refine at_block ?_
  refine at_loopE [9, 10, 11, 12, 4, 5, 13, 14, 15, 3, 16, 17, 18, 19, 20, 21, 8] (fun k => k ≤ xs.length) (fun k => [(8, .int .i64 (k : Nat)), (3, .int .i64 (xs.take k).sum)]) (fun k m => setAt 0 (J k) m) (fun k => xs.length - k) 0 (Nat.zero_le _) ⟨rfl, rfl, trivial⟩ (fun _ s => s) ?_
  intro k hk
  simp only [setAt]
  refine at_seq_k (fun K2 hK2 => ?_)
  refine at_region ?_
  refine at_v (ov_int rfl rfl rfl rfl) rfl rfl rfl ?_
  refine at_nil ?_
  refine at_normal ?_
  refine hK2 _ _ _ ?_
  refine at_seq_k (fun K3 hK3 => ?_)
  refine at_cond rfl (fun hc => ?_) (fun hc => ?_)
  · have hlt : k < xs.length := by simpa using hc
    have hget : xs[k]? = some xs[k] := List.getElem?_eq_getElem hlt
    have hs := sum_take_succ hget
    have b1 := sum_bound hb k
    have b2 := sum_bound hb (k + 1)
    have hyk := hy k hlt
    dsimp only at hyk
    rw [hs] at hyk
    refine at_skip ?_
    refine at_normal ?_
    refine hK3 _ _ _ ?_
    refine at_seq_k (fun K4 hK4 => ?_)
    refine at_block ?_
    refine at_seq_k (fun K5 hK5 => ?_)
    refine at_region ?_
    refine at_v (ov_move rfl rfl) rfl rfl rfl ?_
    refine at_v (ov_indexRd (fun _ s => hr.up s) rfl Try.underlying22 rfl rfl rfl hget) rfl rfl rfl ?_
    refine at_v (ov_loadRd0 (fun _ s => hr.up s) rfl rfl rfl hget rfl) rfl rfl rfl ?_
    refine at_v (ov_assign rfl rfl) rfl rfl rfl ?_
    refine at_v (ov_assign rfl rfl) rfl rfl rfl ?_
    refine at_nil ?_
    refine at_normal ?_
    refine hK5 _ _ _ ?_
    refine at_seq_k (fun K6 hK6 => ?_)
    refine at_region ?_
    refine at_v (ov_move rfl rfl) rfl rfl rfl ?_
    refine at_v (ov_move rfl rfl) rfl rfl rfl ?_
    refine at_v ((ov_int rfl rfl rfl rfl).eq (congrArg (Value.int .i64) (inK_i64 (by omega) (by omega)))) rfl rfl rfl ?_
    refine at_v (ov_assign rfl rfl) rfl rfl rfl ?_
    refine at_nil ?_
    refine at_normal ?_
    refine hK6 _ _ _ ?_
    refine at_seq_k (fun K7 hK7 => ?_)
    refine at_region ?_
    refine at_v (ov_move rfl rfl) rfl rfl rfl ?_
    refine at_v (ov_move rfl rfl) rfl rfl rfl ?_
    refine at_v (ov_move rfl rfl) rfl rfl rfl ?_
    refine at_t (ot_yield (ks := [0]) rfl rfl rfl (hyk ) rfl) rfl rfl rfl ?_
    rintro v0 _ ⟨m0, hp0, rfl⟩
    obtain ⟨b0, hp0⟩ := hp0
    obtain ⟨rfl, rfl⟩ := hp0
    simp only [List.cons_append, List.nil_append]
    refine at_v (ov_not rfl rfl) rfl rfl rfl ?_
    refine at_nil ?_
    refine at_normal ?_
    refine hK7 _ _ _ ?_
    cases b0 with
    | true =>
      refine at_cond_false rfl ?_
      refine at_skip ?_
      refine at_inb_normal ?_
      refine at_normal ?_
      refine hK4 _ _ _ ?_
      refine at_region ?_
      refine at_v ((ov_int rfl rfl rfl rfl).eq (congrArg (Value.int .i64) (inK_i64 (by omega) (by omega)))) rfl rfl rfl ?_
      refine at_v (ov_move rfl rfl) rfl rfl rfl ?_
      refine at_nil ?_
      refine at_normal ?_
      refine at_roundF (k + 1) hlt (by omega) ⟨rfl, look_eq rfl (congrArg (Value.int .i64) hs.symm), trivial⟩ rfl ?_
      exact fun _ s => s.finEq (ks := [0, 0]) (js := []) rfl rfl rfl
    | false =>
      refine at_cond_true rfl ?_
      refine at_ret ?_
      refine at_inb_ret ?_
      refine at_then_ret ?_
      refine at_then_ret ?_
      refine at_inb_ret ?_
      refine at_end ?_
      refine at_fin (rs0 rfl) ?_
      refine ⟨_, ⟨k, false, fun h => (by cases h), fun _ => hlt, rfl, rfl⟩, ?_⟩
      exact fun _ s => s.finEq (ks := [0, 0]) (js := []) rfl rfl rfl
  · have hk2 : k = xs.length := by
      have : ¬ k < xs.length := by simpa using hc
      omega
    subst hk2
    refine at_exit ?_
    refine at_then_exit ?_
    refine at_then_exit ?_
    refine at_exit_eq ?_
    refine at_end ?_
    refine at_fin (rs0 rfl) ?_
    refine ⟨_, ⟨xs.length, true, fun _ => rfl, fun h => (by cases h), rfl, rfl⟩, ?_⟩
    exact fun _ s => s.finEq (ks := [0, 0]) (js := []) rfl rfl rfl
theorem T12 (w0 : World) {A : Option Addr} {c : Nat} {xs : List Int} (hr : Rd wE w0 1 A xs) (hm : xs.length ≤ 1000) (hb : xs.any badB = false) :
    Tri Try.prog w0 12 [.slice A xs.length c] [] fun v m => v = .int .i64 xs.sum ∧ m = [] := by
  refine tri_of Try.func12 rfl rfl fun F => ?_
  simp only [Try.ntmps12, argEnv, List.nil_append]
  refine at_seq_k (fun K0 hK0 => ?_)
  refine at_region ?_
  refine at_v (ov_assign rfl rfl) rfl rfl rfl ?_
  refine at_nil ?_
  refine at_normal ?_
  refine hK0 _ _ _ ?_
  refine at_seq_k (fun K1 hK1 => ?_)
  refine at_region ?_
  refine at_t (ot_alloc1 rfl Try.zeroValue3 rfl) rfl rfl rfl ?_
  rintro _ _ ⟨g0, rfl, rfl⟩
  refine at_t0 (ot_store (k := 0) rfl rfl rfl rfl rfl rfl rfl) rfl rfl ?_
  rintro _ _ ⟨rfl, rfl⟩
  simp only [setAt, splice, spliceL, Value.cells]
  refine at_nil ?_
  refine at_normal ?_
  refine hK1 _ _ _ ?_
  refine at_seq_k (fun K2 hK2 => ?_)
  refine at_seq_k (fun K3 hK3 => ?_)
  refine at_region ?_
  refine at_v (ov_move rfl rfl) rfl rfl rfl ?_
  refine at_t (ot_call (ks := []) rfl rfl rfl Try.call19 rfl (T19 _) rfl) rfl rfl rfl ?_
  rintro v0 _ ⟨m0, hp0, rfl⟩
  obtain ⟨b0, hp0⟩ := hp0
  obtain ⟨rfl, rfl⟩ := hp0
  simp only [List.cons_append, List.nil_append]
  refine at_nil ?_
  refine at_normal ?_
  refine hK3 _ _ _ ?_
  refine at_block ?_
  refine at_rangeSeq (caps := [ptrTo b0]) [1, 0] xs.length (fun k => [.int .i64 (k : Nat), .int .i64 (xs.take (k + 1)).sum]) (fun k => cl g0 #[.int .i64 (xs.take k).sum] 3) (fun _ _ h => False ∧ star [] h) rfl Try.call21 rfl (S21 w0 hr hm hb) rfl (fun _ => rfl) ?_ ?_ ?_
  · intro l0 rc k hk hst F
    refine at_region ?_
    refine at_v (ov_assign rfl rfl) rfl rfl rfl ?_
    refine at_nil ?_
    refine at_normal ?_
    refine at_mid (k := 0) rfl (by assumption) ?_
    simp only [setAt]
    refine at_block ?_
    refine at_region ?_
    refine at_v (ov_move rfl rfl) rfl rfl rfl ?_
    refine at_t0 (ot_store (k := 1) rfl rfl rfl rfl rfl rfl rfl) rfl rfl ?_
    rintro _ _ ⟨rfl, rfl⟩
    simp only [setAt, splice, spliceL, Value.cells]
    refine at_nil ?_
    refine at_inb_normal ?_
    refine at_rnormal (k := 0) rfl ?_
    simp only [setAt]
    refine ⟨_, .inl ⟨rfl, rfl⟩, ?_⟩
    exact fun _ s => s.finEq (ks := [0, 0]) (js := []) rfl rfl rfl
  · intro d
    simp only [List.take_length]
    refine at_inb_normal ?_
    refine at_normal ?_
    refine hK2 _ _ _ ?_
    refine at_seq_k (fun K4 hK4 => ?_)
    refine at_region ?_
    refine at_v (ov_load rfl rfl rfl (fun _ s => s.ld (k := 1) rfl rfl)) rfl rfl rfl ?_
    refine at_v (ov_assign rfl rfl) rfl rfl rfl ?_
    refine at_nil ?_
    refine at_normal ?_
    refine hK4 _ _ _ ?_
    refine at_ret ?_
    refine at_end ?_
    refine at_mark (k := 0) rfl ?_
    simp only [setAt]
    refine at_fin (rsV rfl (res_tmp rfl)) ?_
    refine ⟨_, ⟨rfl, rfl⟩, ?_⟩
    exact fun _ s => s.finEq (ks := []) (js := [0, 0, 0]) rfl rfl rfl
  · intro d k cc hk
    refine at_pulls [1] rfl ?_
    exact at_and fun h => h.elim
theorem T14 (w0 : World) {A : Option Addr} {c : Nat} {xs : List Int} {d : Int} (hr : Rd wE w0 1 A xs) (hm : xs.length ≤ 1000) (hb : xs.any badB = false) (hd0 : 0 ≤ d) (hd1 : d < 18446744073709551616) :
    Tri Try.prog w0 14 [.slice A xs.length c, .int .u64 d] [] fun v m => v = .int .i64 (pickV xs d) ∧ m = [] := by
  refine tri_of Try.func14 rfl rfl fun F => ?_
  simp only [Try.ntmps14, argEnv, List.nil_append]
  have b1 := sum_bound hb xs.length
  rw [List.take_length] at b1
  by_cases hs : xs.sum ≤ 0
  · rw [show pickV xs d = -1 from if_pos hs]
    refine at_seq_k (fun K0 hK0 => ?_)
    refine at_region ?_
    refine at_t (ot_alloc1 rfl Try.zeroValue3 rfl) rfl rfl rfl ?_
    rintro _ _ ⟨g0, rfl, rfl⟩
    refine at_nil ?_
    refine at_normal ?_
    refine hK0 _ _ _ ?_
    refine at_seq_k (fun K1 hK1 => ?_)
    refine at_region ?_
    refine at_v (ov_move rfl rfl) rfl rfl rfl ?_
    refine at_t (ot_call (ks := []) rfl rfl rfl Try.call12 rfl (T12 _ (by first | assumption | omega | decide | (simp; done) | (simp at *; omega)) (by first | assumption | omega | decide | (simp; done) | (simp at *; omega)) (by first | assumption | omega | decide | (simp; done) | (simp at *; omega))) rfl) rfl rfl rfl ?_
    rintro v0 _ ⟨m0, hp0, rfl⟩
    obtain ⟨rfl, rfl⟩ := hp0
    simp only [List.cons_append, List.nil_append]
    refine at_v (ov_assign rfl rfl) rfl rfl rfl ?_
    refine at_nil ?_
    refine at_normal ?_
    refine hK1 _ _ _ ?_
    refine at_seq_k (fun K2 hK2 => ?_)
    refine at_seq_k (fun K3 hK3 => ?_)
    refine at_region ?_
    refine at_v (ov_move rfl rfl) rfl rfl rfl ?_
    refine at_v (ov_int rfl rfl rfl rfl) rfl rfl rfl ?_
    refine at_nil ?_
    refine at_normal ?_
    refine hK3 _ _ _ ?_
    refine at_cond_true (congrArg (fun b => some (Value.bool b)) (show _ = true from decide_eq_true (by omega))) ?_
    refine at_seq_k (fun K4 hK4 => ?_)
    refine at_region ?_
    refine at_t0 (ot_store (k := 0) rfl rfl rfl rfl rfl rfl rfl) rfl rfl ?_
    rintro _ _ ⟨rfl, rfl⟩
    simp only [setAt, splice, spliceL, Value.cells]
    refine at_nil ?_
    refine at_normal ?_
    refine hK4 _ _ _ ?_
    refine at_ret ?_
    refine at_then_ret ?_
    refine at_end ?_
    refine at_fin (rsV rfl (res_cell1 (k := 0) rfl rfl rfl rfl)) ?_
    refine ⟨_, ⟨rfl, rfl⟩, ?_⟩
    exact fun _ s => s.finEq (ks := []) (js := [0]) rfl rfl rfl
  · rw [show pickV xs d = pickAt xs (d % xs.sum) 0 from if_neg hs, ← Int.tmod_eq_emod_of_nonneg hd0]
    have hm0 : 0 ≤ d.tmod xs.sum := by rw [Int.tmod_eq_emod_of_nonneg hd0]; exact Int.emod_nonneg d (by omega)
    have hm1 : d.tmod xs.sum < xs.sum := by rw [Int.tmod_eq_emod_of_nonneg hd0]; exact Int.emod_lt_of_pos d (by omega)
    refine at_seq_k (fun K0 hK0 => ?_)
    refine at_region ?_
    refine at_t (ot_alloc1 rfl Try.zeroValue3 rfl) rfl rfl rfl ?_
    rintro _ _ ⟨g0, rfl, rfl⟩
    refine at_nil ?_
    refine at_normal ?_
    refine hK0 _ _ _ ?_
    refine at_seq_k (fun K1 hK1 => ?_)
    refine at_region ?_
    refine at_v (ov_move rfl rfl) rfl rfl rfl ?_
    refine at_t (ot_call (ks := []) rfl rfl rfl Try.call12 rfl (T12 _ (by first | assumption | omega | decide | (simp; done) | (simp at *; omega)) (by first | assumption | omega | decide | (simp; done) | (simp at *; omega)) (by first | assumption | omega | decide | (simp; done) | (simp at *; omega))) rfl) rfl rfl rfl ?_
    rintro v0 _ ⟨m0, hp0, rfl⟩
    obtain ⟨rfl, rfl⟩ := hp0
    simp only [List.cons_append, List.nil_append]
    refine at_v (ov_assign rfl rfl) rfl rfl rfl ?_
    refine at_nil ?_
    refine at_normal ?_
    refine hK1 _ _ _ ?_
    refine at_seq_k (fun K2 hK2 => ?_)
    refine at_seq_k (fun K3 hK3 => ?_)
    refine at_region ?_
    refine at_v (ov_move rfl rfl) rfl rfl rfl ?_
    refine at_v (ov_int rfl rfl rfl rfl) rfl rfl rfl ?_
    refine at_nil ?_
    refine at_normal ?_
    refine hK3 _ _ _ ?_
    refine at_cond_false (congrArg (fun b => some (Value.bool b)) (show _ = false from decide_eq_false (by omega))) ?_
    refine at_skip ?_
    refine at_normal ?_
    refine hK2 _ _ _ ?_
    refine at_seq_k (fun K4 hK4 => ?_)
    refine at_region ?_
    refine at_v (ov_move rfl rfl) rfl rfl rfl ?_
    refine at_v (ov_move rfl rfl) rfl rfl rfl ?_
    refine at_v ((ov_conv_int rfl rfl Try.underlying23 rfl).eq (congrArg (Value.int .u64) (inK_u64 (by omega) (by omega)))) rfl rfl rfl ?_
    refine at_v (ov_rem rfl rfl rfl (by omega)) rfl rfl rfl ?_
    refine at_v ((ov_conv_int rfl rfl Try.underlying3 rfl).eq (congrArg (Value.int .i64) (inK_i64 (by omega) (by omega)))) rfl rfl rfl ?_
    refine at_t (ot_alloc1 rfl Try.zeroValue3 rfl) rfl rfl rfl ?_
    rintro _ _ ⟨g1, rfl, rfl⟩
    refine at_t0 (ot_store (k := 0) rfl rfl rfl rfl rfl rfl rfl) rfl rfl ?_
    rintro _ _ ⟨rfl, rfl⟩
    simp only [setAt, splice, spliceL, Value.cells]
    refine at_nil ?_
    refine at_normal ?_
    refine hK4 _ _ _ ?_
    refine at_seq_k (fun K5 hK5 => ?_)
    refine at_seq_k (fun K6 hK6 => ?_)
    refine at_region ?_
    refine at_v (ov_move rfl rfl) rfl rfl rfl ?_
    refine at_t (ot_call (ks := []) rfl rfl rfl Try.call19 rfl (T19 _) rfl) rfl rfl rfl ?_
    rintro v0 _ ⟨m0, hp0, rfl⟩
    obtain ⟨b0, hp0⟩ := hp0
    obtain ⟨rfl, rfl⟩ := hp0
    simp only [List.cons_append, List.nil_append]
    refine at_nil ?_
    refine at_normal ?_
    refine hK6 _ _ _ ?_
    refine at_block ?_
    refine at_fold (A := fun h => (∀ k : Nat, k = 0 → pickAt xs (d.tmod xs.sum) 0 = pickAt (xs.drop k) (d.tmod xs.sum - (xs.take k).sum) k) ∧ star [cl g1 #[.int .i64 (d.tmod xs.sum)] 3, cl g0 #[.int .i64 0] 3] h) [1, 1] rfl (fun h s => ⟨fun k hk => (by subst hk; simp), s⟩) ?_
    refine at_rangeSeq (caps := [ptrTo b0]) [0, 0] xs.length (fun k => [.int .i64 (k : Nat), .int .i64 (xs.take (k + 1)).sum])
      (fun j h => (∀ k : Nat, k = j → pickAt xs (d.tmod xs.sum) 0 = pickAt (xs.drop k) (d.tmod xs.sum - (xs.take k).sum) k) ∧ star [cl g1 #[.int .i64 (d.tmod xs.sum)] 3, cl g0 #[.int .i64 0] 3] h)
      (fun k cc h => (isRet cc = true ∧ pickAt xs (d.tmod xs.sum) 0 = (k : Nat)) ∧ star [cl g1 #[.int .i64 (d.tmod xs.sum)] 3, cl g0 #[.int .i64 (k : Nat)] 3] h) rfl Try.call21 rfl (S21 w0 hr hm hb) rfl (fun _ => rfl) ?_ ?_ ?_
    · intro l0 rc k hk hst F
      refine at_pulls [1] rfl ?_
      refine at_and fun hp => at_open ?_
      have hp := hp k rfl
      have hget : xs[k]? = some xs[k] := List.getElem?_eq_getElem hk
      rw [pickAt_step hget] at hp
      have hsu := sum_take_succ hget
      simp only [List.cons_append, List.nil_append]
      refine at_seq_k (fun K7 hK7 => ?_)
      refine at_region ?_
      refine at_v (ov_assign rfl rfl) rfl rfl rfl ?_
      refine at_nil ?_
      refine at_normal ?_
      refine hK7 _ _ _ ?_
      refine at_region ?_
      refine at_v (ov_assign rfl rfl) rfl rfl rfl ?_
      refine at_nil ?_
      refine at_normal ?_
      refine at_mid (k := 2) rfl (by assumption) ?_
      simp only [setAt]
      refine at_block ?_
      refine at_seq_k (fun K8 hK8 => ?_)
      refine at_region ?_
      refine at_v (ov_move rfl rfl) rfl rfl rfl ?_
      refine at_v (ov_load rfl rfl rfl (fun _ s => s.ld (k := 0) rfl rfl)) rfl rfl rfl ?_
      refine at_v (ov_int rfl rfl rfl rfl) rfl rfl rfl ?_
      refine at_nil ?_
      refine at_normal ?_
      refine hK8 _ _ _ ?_
      refine at_cond rfl (fun hc => ?_) (fun hc => ?_)
      · have hc2 : d.tmod xs.sum < (xs.take (k + 1)).sum := by simpa using hc
        rw [if_pos (by omega)] at hp
        refine at_seq_k (fun K9 hK9 => ?_)
        refine at_region ?_
        refine at_v (ov_move rfl rfl) rfl rfl rfl ?_
        refine at_t0 (ot_store (k := 1) rfl rfl rfl rfl rfl rfl rfl) rfl rfl ?_
        rintro _ _ ⟨rfl, rfl⟩
        simp only [setAt, splice, spliceL, Value.cells]
        refine at_nil ?_
        refine at_normal ?_
        refine hK9 _ _ _ ?_
        refine at_ret ?_
        refine at_inb_ret ?_
        refine at_fold (A := fun h => (isRet .ret = true ∧ pickAt xs (d.tmod xs.sum) 0 = (k : Nat)) ∧ star [cl g1 #[.int .i64 (d.tmod xs.sum)] 3, cl g0 #[.int .i64 (k : Nat)] 3] h) [0, 0] rfl (fun h s => ⟨⟨rfl, hp⟩, s⟩) ?_
        refine at_rret (k := 1) rfl ?_
        simp only [setAt]
        refine ⟨_, .inr ⟨.ret, rfl, rfl⟩, ?_⟩
        exact fun _ s => s.finEq (ks := [1, 0]) (js := []) rfl rfl rfl
      · have hc2 : ¬ d.tmod xs.sum < (xs.take (k + 1)).sum := by simpa using hc
        rw [if_neg (by omega)] at hp
        refine at_skip ?_
        refine at_inb_normal ?_
        refine at_fold (A := fun h => (∀ q : Nat, q = k + 1 → pickAt xs (d.tmod xs.sum) 0 = pickAt (xs.drop q) (d.tmod xs.sum - (xs.take q).sum) q) ∧ star [cl g1 #[.int .i64 (d.tmod xs.sum)] 3, cl g0 #[.int .i64 0] 3] h) [0, 0] rfl (fun h s => ⟨fun q hq => (by subst hq; rw [hp]; congr 1; omega), s⟩) ?_
        refine at_rnormal (k := 1) rfl ?_
        simp only [setAt]
        refine ⟨_, .inl ⟨rfl, rfl⟩, ?_⟩
        exact fun _ s => s.finEq (ks := [1, 0]) (js := []) rfl rfl rfl
    · intro dd
      refine at_pulls [1] rfl ?_
      refine at_and fun hp => at_open ?_
      have hp := hp xs.length rfl
      rw [List.drop_length] at hp
      simp only [List.cons_append, List.nil_append]
      refine at_inb_normal ?_
      refine at_normal ?_
      refine hK5 _ _ _ ?_
      refine at_seq_k (fun K7 hK7 => ?_)
      refine at_region ?_
      refine at_t0 (ot_store (k := 1) rfl rfl rfl rfl rfl rfl rfl) rfl rfl ?_
      rintro _ _ ⟨rfl, rfl⟩
      simp only [setAt, splice, spliceL, Value.cells]
      refine at_nil ?_
      refine at_normal ?_
      refine hK7 _ _ _ ?_
      refine at_ret ?_
      refine at_end ?_
      refine at_mark (k := 2) rfl ?_
      simp only [setAt]
      refine at_fin (rsV rfl (res_cell1 (k := 1) rfl rfl rfl rfl)) ?_
      refine ⟨_, ⟨by rw [hp]; rfl, rfl⟩, ?_⟩
      exact fun _ s => s.finEq (ks := []) (js := [0, 0, 0, 0]) rfl rfl rfl
    · intro dd k cc hk
      refine at_pulls [1] rfl ?_
      refine at_and fun hp => at_open ?_
      obtain ⟨hcc, hp⟩ := hp
      have hcc := isRet_eq hcc
      subst hcc
      simp only [List.cons_append, List.nil_append]
      refine at_ret ?_
      refine at_inb_ret ?_
      refine at_then_ret ?_
      refine at_end ?_
      refine at_mark (k := 2) rfl ?_
      simp only [setAt]
      refine at_fin (rsV rfl (res_cell1 (k := 1) rfl rfl rfl rfl)) ?_
      refine ⟨_, ⟨by rw [hp], rfl⟩, ?_⟩
      exact fun _ s => s.finEq (ks := []) (js := [0, 0, 0, 0]) rfl rfl rfl
theorem T15 (w0 : World) {A : Option Addr} {c : Nat} {xs : List Int} {d : Int} (hr : Rd wE w0 1 A xs) (hm : xs.length ≤ 1000) (hb : xs.any badB = false) (hd0 : 0 ≤ d) (hd1 : d < 18446744073709551616) :
    Tri Try.prog w0 15 [.slice A xs.length c, .int .u64 d] [] fun v m => v = .int .i64 (pickV xs d) ∧ m = [] := by
  refine tri_of Try.func15 rfl rfl fun F => ?_
  simp only [Try.ntmps15, argEnv, List.nil_append]
  have b1 := sum_bound hb xs.length
  rw [List.take_length] at b1
  by_cases hs : xs.sum ≤ 0
  · rw [show pickV xs d = -1 from if_pos hs]
    have hi0 : xs.sum = 0 := by omega
    refine at_seq_k (fun K0 hK0 => ?_)
    refine at_region ?_
    refine at_v (ov_assign rfl rfl) rfl rfl rfl ?_
    refine at_nil ?_
    refine at_normal ?_
    refine hK0 _ _ _ ?_
    refine at_seq_k (fun K1 hK1 => ?_)
    refine at_seq_k (fun K2 hK2 => ?_)
    refine at_region ?_
    refine at_v (ov_move rfl rfl) rfl rfl rfl ?_
    refine at_t (ot_call (ks := []) rfl rfl rfl Try.call13 rfl (T13 _ (by first | assumption | omega | decide | (simp; done) | (simp at *; omega)) (by first | assumption | omega | decide | (simp; done) | (simp at *; omega)) (by first | assumption | omega | decide | (simp; done) | (simp at *; omega))) rfl) rfl rfl rfl ?_
    rintro v0 _ ⟨m0, hp0, rfl⟩
    obtain ⟨rfl, rfl⟩ := hp0
    simp only [List.cons_append, List.nil_append]
    refine at_v (ov_int rfl rfl rfl rfl) rfl rfl rfl ?_
    refine at_nil ?_
    refine at_normal ?_
    refine hK2 _ _ _ ?_
    refine at_cond_true (congrArg (fun b => some (Value.bool b)) (show _ = true from decide_eq_true (by omega))) ?_
    refine at_seq_k (fun K3 hK3 => ?_)
    refine at_region ?_
    refine at_v (ov_assign rfl rfl) rfl rfl rfl ?_
    refine at_nil ?_
    refine at_normal ?_
    refine hK3 _ _ _ ?_
    refine at_ret ?_
    refine at_then_ret ?_
    refine at_end ?_
    refine at_fin (rsV rfl (res_tmp rfl)) ?_
    refine ⟨_, ⟨rfl, rfl⟩, ?_⟩
    exact fun _ s => s.finEq (ks := []) (js := []) rfl rfl rfl
  · rw [show pickV xs d = pickAt xs (d % xs.sum) 0 from if_neg hs, ← Int.tmod_eq_emod_of_nonneg hd0]
    have hm0 : 0 ≤ d.tmod xs.sum := by rw [Int.tmod_eq_emod_of_nonneg hd0]; exact Int.emod_nonneg d (by omega)
    have hm1 : d.tmod xs.sum < xs.sum := by rw [Int.tmod_eq_emod_of_nonneg hd0]; exact Int.emod_lt_of_pos d (by omega)
    refine at_seq_k (fun K0 hK0 => ?_)
    refine at_region ?_
    refine at_v (ov_assign rfl rfl) rfl rfl rfl ?_
    refine at_nil ?_
    refine at_normal ?_
    refine hK0 _ _ _ ?_
    refine at_seq_k (fun K1 hK1 => ?_)
    refine at_seq_k (fun K2 hK2 => ?_)
    refine at_region ?_
    refine at_v (ov_move rfl rfl) rfl rfl rfl ?_
    refine at_t (ot_call (ks := []) rfl rfl rfl Try.call13 rfl (T13 _ (by first | assumption | omega | decide | (simp; done) | (simp at *; omega)) (by first | assumption | omega | decide | (simp; done) | (simp at *; omega)) (by first | assumption | omega | decide | (simp; done) | (simp at *; omega))) rfl) rfl rfl rfl ?_
    rintro v0 _ ⟨m0, hp0, rfl⟩
    obtain ⟨rfl, rfl⟩ := hp0
    simp only [List.cons_append, List.nil_append]
    refine at_v (ov_int rfl rfl rfl rfl) rfl rfl rfl ?_
    refine at_nil ?_
    refine at_normal ?_
    refine hK2 _ _ _ ?_
    refine at_cond_false (congrArg (fun b => some (Value.bool b)) (show _ = false from decide_eq_false (by omega))) ?_
    refine at_skip ?_
    refine at_normal ?_
    refine hK1 _ _ _ ?_
    refine at_seq_k (fun K3 hK3 => ?_)
    refine at_region ?_
    refine at_v (ov_move rfl rfl) rfl rfl rfl ?_
    refine at_v (ov_move rfl rfl) rfl rfl rfl ?_
    refine at_t (ot_call (ks := []) rfl rfl rfl Try.call13 rfl (T13 _ (by first | assumption | omega | decide | (simp; done) | (simp at *; omega)) (by first | assumption | omega | decide | (simp; done) | (simp at *; omega)) (by first | assumption | omega | decide | (simp; done) | (simp at *; omega))) rfl) rfl rfl rfl ?_
    rintro v0 _ ⟨m0, hp0, rfl⟩
    obtain ⟨rfl, rfl⟩ := hp0
    simp only [List.cons_append, List.nil_append]
    refine at_v ((ov_conv_int rfl rfl Try.underlying23 rfl).eq (congrArg (Value.int .u64) (inK_u64 (by omega) (by omega)))) rfl rfl rfl ?_
    refine at_v (ov_rem rfl rfl rfl (by omega)) rfl rfl rfl ?_
    refine at_v ((ov_conv_int rfl rfl Try.underlying3 rfl).eq (congrArg (Value.int .i64) (inK_i64 (by omega) (by omega)))) rfl rfl rfl ?_
    refine at_v (ov_assign rfl rfl) rfl rfl rfl ?_
    refine at_nil ?_
    refine at_normal ?_
    refine hK3 _ _ _ ?_
    refine at_seq_k (fun K4 hK4 => ?_)
    refine at_seq_k (fun K5 hK5 => ?_)
    refine at_region ?_
    refine at_v (ov_assign rfl rfl) rfl rfl rfl ?_
    refine at_nil ?_
    refine at_normal ?_
    refine hK5 _ _ _ ?_
    refine at_block ?_
    refine at_loopE [16, 17, 18, 19, 22, 23, 24, 25, 26, 27, 28, 4, 29, 30, 31, 32, 33, 34, 5, 20, 21, 6] (fun k => k ≤ xs.length ∧ pickAt xs (d.tmod xs.sum) 0 = pickAt (xs.drop k) (d.tmod xs.sum - (xs.take k).sum) k) (fun k => [(6, .int .i64 (k : Nat)), (5, .int .i64 (d.tmod xs.sum - (xs.take k).sum))]) (fun _ l => l) (fun k => xs.length - k) 0 ⟨Nat.zero_le _, by simp⟩ ⟨rfl, look_eq rfl (by simp), trivial⟩ (fun _ s => s) ?_
    rintro k ⟨hk, hp⟩
    refine at_seq_k (fun K6 hK6 => ?_)
    refine at_seq_k (fun K7 hK7 => ?_)
    refine at_region ?_
    refine at_v (ov_move rfl rfl) rfl rfl rfl ?_
    refine at_v (ov_move rfl rfl) rfl rfl rfl ?_
    refine at_v (ov_len_slice rfl Try.underlying22 rfl) rfl rfl rfl ?_
    refine at_v (ov_int rfl rfl rfl rfl) rfl rfl rfl ?_
    refine at_nil ?_
    refine at_normal ?_
    refine hK7 _ _ _ ?_
    refine at_cond rfl (fun hc => ?_) (fun hc => ?_)
    · have hlt : k < xs.length := by simpa using hc
      have hget : xs[k]? = some xs[k] := List.getElem?_eq_getElem hlt
      have hsu := sum_take_succ hget
      have b2 := sum_bound hb k
      have b3 := sum_bound hb (k + 1)
      rw [pickAt_step hget] at hp
      refine at_skip ?_
      refine at_normal ?_
      refine hK6 _ _ _ ?_
      refine at_seq_k (fun K8 hK8 => ?_)
      refine at_block ?_
      refine at_seq_k (fun K9 hK9 => ?_)
      refine at_seq_k (fun K10 hK10 => ?_)
      refine at_region ?_
      refine at_v (ov_move rfl rfl) rfl rfl rfl ?_
      refine at_v (ov_move rfl rfl) rfl rfl rfl ?_
      refine at_v (ov_move rfl rfl) rfl rfl rfl ?_
      refine at_v (ov_indexRd (fun _ s => hr.up s) rfl Try.underlying22 rfl rfl rfl hget) rfl rfl rfl ?_
      refine at_v (ov_loadRd0 (fun _ s => hr.up s) rfl rfl rfl hget rfl) rfl rfl rfl ?_
      refine at_v (ov_int rfl rfl rfl rfl) rfl rfl rfl ?_
      refine at_nil ?_
      refine at_normal ?_
      refine hK10 _ _ _ ?_
      refine at_cond rfl (fun hc => ?_) (fun hc => ?_)
      · rw [if_pos (by simpa using hc)] at hp
        refine at_seq_k (fun K11 hK11 => ?_)
        refine at_region ?_
        refine at_v (ov_move rfl rfl) rfl rfl rfl ?_
        refine at_v (ov_assign rfl rfl) rfl rfl rfl ?_
        refine at_nil ?_
        refine at_normal ?_
        refine hK11 _ _ _ ?_
        refine at_ret ?_
        refine at_then_ret ?_
        refine at_inb_ret ?_
        refine at_then_ret ?_
        refine at_then_ret ?_
        refine at_inb_ret ?_
        refine at_then_ret ?_
        refine at_end ?_
        refine at_fin (rsV rfl (res_tmp rfl)) ?_
        refine ⟨_, ⟨by rw [hp], rfl⟩, ?_⟩
        exact fun _ s => s.finEq (ks := []) (js := []) rfl rfl rfl
      · rw [if_neg (by simpa using hc)] at hp
        refine at_skip ?_
        refine at_normal ?_
        refine hK9 _ _ _ ?_
        refine at_region ?_
        refine at_v (ov_move rfl rfl) rfl rfl rfl ?_
        refine at_v (ov_move rfl rfl) rfl rfl rfl ?_
        refine at_v (ov_move rfl rfl) rfl rfl rfl ?_
        refine at_v (ov_indexRd (fun _ s => hr.up s) rfl Try.underlying22 rfl rfl rfl hget) rfl rfl rfl ?_
        refine at_v (ov_loadRd0 (fun _ s => hr.up s) rfl rfl rfl hget rfl) rfl rfl rfl ?_
        refine at_v ((ov_int rfl rfl rfl rfl).eq (congrArg (Value.int .i64) (inK_i64 (by omega) (by omega)))) rfl rfl rfl ?_
        refine at_v (ov_assign rfl rfl) rfl rfl rfl ?_
        refine at_nil ?_
        refine at_inb_normal ?_
        refine at_normal ?_
        refine hK8 _ _ _ ?_
        refine at_region ?_
        refine at_v (ov_move rfl rfl) rfl rfl rfl ?_
        refine at_v ((ov_int rfl rfl rfl rfl).eq (congrArg (Value.int .i64) (inK_i64 (by omega) (by omega)))) rfl rfl rfl ?_
        refine at_v (ov_assign rfl rfl) rfl rfl rfl ?_
        refine at_nil ?_
        refine at_normal ?_
        refine at_roundF (k + 1) ⟨hlt, by rw [hp]; congr 1; omega⟩ (by omega) ⟨rfl, look_eq rfl (congrArg (Value.int .i64) (by omega)), trivial⟩ rfl ?_
        exact fun _ s => s.finEq (ks := []) (js := []) rfl rfl rfl
    · have hk2 : k = xs.length := by
        have : ¬ k < xs.length := by simpa using hc
        omega
      subst hk2
      rw [List.drop_length] at hp
      refine at_exit ?_
      refine at_then_exit ?_
      refine at_then_exit ?_
      refine at_exit_eq ?_
      refine at_normal ?_
      refine hK4 _ _ _ ?_
      refine at_seq_k (fun K8 hK8 => ?_)
      refine at_region ?_
      refine at_v (ov_assign rfl rfl) rfl rfl rfl ?_
      refine at_nil ?_
      refine at_normal ?_
      refine hK8 _ _ _ ?_
      refine at_ret ?_
      refine at_end ?_
      refine at_fin (rsV rfl (res_tmp rfl)) ?_
      refine ⟨_, ⟨by rw [hp]; rfl, rfl⟩, ?_⟩
      exact fun _ s => s.finEq (ks := []) (js := []) rfl rfl rfl
theorem T18 (w0 : World) {A : Option Addr} {c : Nat} {xs : List Int} (hr : Rd wE w0 1 A xs) (hm : xs.length ≤ 1000) :
    Tri Try.prog w0 18 [.slice A xs.length c] [] fun v m => ∃ B d, v = .slice B xs.length d ∧ m = [Row wE 3 1 B d xs] := by
  refine tri_of Try.func18 rfl rfl fun F => ?_
  simp only [Try.ntmps18, argEnv, List.nil_append]
  cases A with
  | none =>
    have hx : xs = [] := by
      rcases Classical.em (xs = []) with h | h
      · exact h
      · obtain ⟨_, h, _⟩ := hr.at_ h; cases h
    subst hx
    refine at_seq_k (fun K0 hK0 => ?_)
    refine at_region ?_
    refine at_v (ov_assign rfl rfl) rfl rfl rfl ?_
    refine at_nil ?_
    refine at_normal ?_
    refine hK0 _ _ _ ?_
    refine at_seq_k (fun K1 hK1 => ?_)
    refine at_seq_k (fun K2 hK2 => ?_)
    refine at_region ?_
    refine at_v (ov_move rfl rfl) rfl rfl rfl ?_
    refine at_v (ov_slice_nil rfl Try.underlying22 rfl rfl) rfl rfl rfl ?_
    refine at_nil ?_
    refine at_normal ?_
    refine hK2 _ _ _ ?_
    refine at_cond_true rfl ?_
    refine at_seq_k (fun K3 hK3 => ?_)
    refine at_region ?_
    refine at_v (ov_assign rfl rfl) rfl rfl rfl ?_
    refine at_nil ?_
    refine at_normal ?_
    refine hK3 _ _ _ ?_
    refine at_ret ?_
    refine at_then_ret ?_
    refine at_end ?_
    refine at_rowNil wE 3 1 ?_
    refine at_fin (rsV rfl (res_tmp rfl)) ?_
    refine ⟨_, ⟨none, 0, rfl, rfl⟩, ?_⟩
    exact fun _ s => s.finEq (ks := [0]) (js := []) rfl rfl rfl
  | some ad =>
    refine at_seq_k (fun K0 hK0 => ?_)
    refine at_region ?_
    refine at_v (ov_assign rfl rfl) rfl rfl rfl ?_
    refine at_nil ?_
    refine at_normal ?_
    refine hK0 _ _ _ ?_
    refine at_seq_k (fun K1 hK1 => ?_)
    refine at_seq_k (fun K2 hK2 => ?_)
    refine at_region ?_
    refine at_v (ov_move rfl rfl) rfl rfl rfl ?_
    refine at_v (ov_slice_nil rfl Try.underlying22 rfl rfl) rfl rfl rfl ?_
    refine at_nil ?_
    refine at_normal ?_
    refine hK2 _ _ _ ?_
    refine at_cond_false rfl ?_
    refine at_skip ?_
    refine at_normal ?_
    refine hK1 _ _ _ ?_
    refine at_seq_k (fun K3 hK3 => ?_)
    refine at_region ?_
    refine at_t (ot_buildSlice (cs := []) rfl Try.underlying22 rfl rfl rfl rfl rfl rfl) rfl rfl rfl ?_
    rintro _ _ ⟨g0, rfl, rfl⟩
    refine at_v (ov_move rfl rfl) rfl rfl rfl ?_
    refine at_rowOf wE 0 (size := 1) (c := 0) [] rfl (fun _ h => by cases h) (Nat.le_refl _) (Nat.zero_le _) (Nat.le_refl _) rfl ?_
    simp only [setAt]
    refine at_t (ot_append (k := 0) (size := 1) (bytes := 8) (ys := xs) (fun _ s => hr.up s) rfl Try.underlying22 (ti := Try.t3) rfl rfl rfl rfl rfl (by decide) rfl rfl rfl (by simp [wE, Value.oneCell']) (by simp; omega) (by decide)) rfl rfl rfl ?_
    rintro _ _ ⟨A0, c0, rfl, rfl⟩
    simp only [setAt]
    simp only [List.nil_append]
    refine at_v (ov_assign rfl rfl) rfl rfl rfl ?_
    refine at_nil ?_
    refine at_normal ?_
    refine hK3 _ _ _ ?_
    refine at_ret ?_
    refine at_end ?_
    refine at_fin (rsV rfl (res_tmp rfl)) ?_
    refine ⟨_, ⟨_, _, rfl, rfl⟩, ?_⟩
    exact fun _ s => s.finEq (ks := [0]) (js := []) rfl rfl rfl
/-- The first k are as they are to be, the others as they were. -/
def onlyK (xs : List Int) (ms : List Bool) (k : Nat) : List Int := (onlyL xs ms).take k ++ xs.drop k
theorem onlyK_len (xs : List Int) (ms : List Bool) (k : Nat) : (onlyK xs ms k).length = xs.length := by
  simp [onlyK, onlyL_len]; omega
theorem onlyK_get {xs : List Int} {ms : List Bool} {k : Nat} {x : Int} (h : xs[k]? = some x) : (onlyK xs ms k)[k]? = some x := by
  have hlt : k < xs.length := (List.getElem?_eq_some_iff.1 h).1
  rw [onlyK, List.getElem?_append_right (by simp; omega)]
  simp [onlyL_len, Nat.min_eq_left (Nat.le_of_lt hlt), h]
theorem onlyK_set {xs : List Int} {ms : List Bool} {k : Nat} {x : Int} (h : xs[k]? = some x) : (onlyK xs ms k).set k (if ms[k]?.getD false then x else 0) = onlyK xs ms (k + 1) := by
  have hlt : k < xs.length := (List.getElem?_eq_some_iff.1 h).1
  have hl : ((onlyL xs ms).take k).length = k := by simp [onlyL_len]; omega
  unfold onlyK
  rw [List.set_append_right _ _ (by omega), hl, Nat.sub_self, List.drop_eq_getElem_cons hlt, List.set_cons_zero, List.take_add_one, onlyL_get h]
  simp
theorem onlyK_keep {xs : List Int} {ms : List Bool} {k : Nat} {x : Int} (h : xs[k]? = some x) (hm : ms[k]?.getD false = true) : onlyK xs ms (k + 1) = onlyK xs ms k := by
  have := onlyK_set (ms := ms) h
  rw [hm] at this
  simp only [if_true] at this
  rw [← this]
  have hg := onlyK_get (ms := ms) h
  refine List.ext_getElem? fun q => ?_
  rw [List.getElem?_set]
  split
  · subst_vars; split
    · rw [hg]
    · exact (List.getElem?_eq_none (by omega)).symm
  · rfl
theorem T10 (w0 : World) {A B : Option Addr} {c d : Nat} {xs : List Int} {ms : List Bool} (hr : Rd wE w0 1 A xs) (hr2 : Rd mE w0 1 B ms) (hm : xs.length ≤ 1000) (hm2 : ms.length ≤ 1000) :
    Tri Try.prog w0 10 [.slice A xs.length c, .slice B ms.length d] [] fun v m => ∃ C e, v = .slice C (onlyL xs ms).length e ∧ m = [Row wE 3 1 C e (onlyL xs ms)] := by
  refine tri_of Try.func10 rfl rfl fun F => ?_
  simp only [Try.ntmps10, argEnv, List.nil_append]
  refine at_seq_k (fun K0 hK0 => ?_)
  refine at_region ?_
  refine at_v (ov_assign rfl rfl) rfl rfl rfl ?_
  refine at_nil ?_
  refine at_normal ?_
  refine hK0 _ _ _ ?_
  refine at_seq_k (fun K1 hK1 => ?_)
  refine at_region ?_
  refine at_v (ov_move rfl rfl) rfl rfl rfl ?_
  refine at_t (ot_call (ks := []) rfl rfl rfl Try.call18 rfl (T18 _ (by first | assumption | omega | decide | (simp; done) | (simp at *; omega)) (by first | assumption | omega | decide | (simp; done) | (simp at *; omega))) rfl) rfl rfl rfl ?_
  rintro v0 _ ⟨m0, hp0, rfl⟩
  obtain ⟨B0, hp0⟩ := hp0
  obtain ⟨d0, hp0⟩ := hp0
  obtain ⟨rfl, rfl⟩ := hp0
  simp only [List.cons_append, List.nil_append]
  refine at_v (ov_assign rfl rfl) rfl rfl rfl ?_
  refine at_nil ?_
  refine at_normal ?_
  refine hK1 _ _ _ ?_
  refine at_seq_k (fun K2 hK2 => ?_)
  refine at_seq_k (fun K3 hK3 => ?_)
  refine at_region ?_
  refine at_v (ov_move rfl rfl) rfl rfl rfl ?_
  refine at_v (ov_len_slice rfl Try.underlying22 rfl) rfl rfl rfl ?_
  refine at_v (ov_move rfl rfl) rfl rfl rfl ?_
  refine at_nil ?_
  refine at_normal ?_
  refine hK3 _ _ _ ?_
  refine at_block ?_
  refine at_loopE [12, 13, 6, 14, 15, 16, 17, 18, 19, 20, 21, 22, 23, 24, 25, 26, 27, 28, 11, 5] (fun k => k ≤ xs.length) (fun k => [(11, .int .i64 (k : Nat)), (5, .slice B0 (onlyK xs ms k).length d0)]) (fun k m => setAt 0 (Row wE 3 1 B0 d0 (onlyK xs ms k)) m) (fun k => xs.length - k) 0 (Nat.zero_le _) ⟨rfl, look_eq rfl (by simp [onlyK_len]), trivial⟩ (fun _ s => s) ?_
  intro k hk
  simp only [setAt]
  have hlk := onlyK_len xs ms k
  refine at_seq_k (fun K4 hK4 => ?_)
  refine at_region ?_
  refine at_v (ov_int rfl rfl rfl rfl) rfl rfl rfl ?_
  refine at_nil ?_
  refine at_normal ?_
  refine hK4 _ _ _ ?_
  refine at_seq_k (fun K5 hK5 => ?_)
  refine at_cond rfl (fun hc => ?_) (fun hc => ?_)
  · have hlt : k < xs.length := by simpa using hc
    have hget : xs[k]? = some xs[k] := List.getElem?_eq_getElem hlt
    have hgk := onlyK_get (ms := ms) hget
    have hset := onlyK_set (ms := ms) hget
    cases hmk : ms[k]? with
    | none =>
      have hge := List.getElem?_eq_none_iff.1 hmk
      rw [hmk] at hset
      refine at_skip ?_
      refine at_normal ?_
      refine hK5 _ _ _ ?_
      refine at_seq_k (fun K6 hK6 => ?_)
      refine at_block ?_
      refine at_seq_k (fun K7 hK7 => ?_)
      refine at_region ?_
      refine at_v (ov_move rfl rfl) rfl rfl rfl ?_
      refine at_v (ov_assign rfl rfl) rfl rfl rfl ?_
      refine at_nil ?_
      refine at_normal ?_
      refine hK7 _ _ _ ?_
      refine at_seq_k (fun K8 hK8 => ?_)
      refine at_region ?_
      refine at_v (ov_move rfl rfl) rfl rfl rfl ?_
      refine at_v (ov_move rfl rfl) rfl rfl rfl ?_
      refine at_v (ov_len_slice rfl Try.underlying24 rfl) rfl rfl rfl ?_
      refine at_v (ov_int rfl rfl rfl rfl) rfl rfl rfl ?_
      refine at_v (ov_move rfl rfl) rfl rfl rfl ?_
      refine at_reval 18 (.bool true) rfl (congrArg Value.bool (decide_eq_true (by omega))) ?_
      refine at_unwanted (j := 4) rfl rfl rfl rfl ?_
      refine at_unwanted (j := 4) rfl rfl rfl rfl ?_
      refine at_unwanted (j := 4) rfl rfl rfl rfl ?_
      refine at_unwanted (j := 4) rfl rfl rfl rfl ?_
      refine at_unwanted (j := 4) rfl rfl rfl rfl ?_
      refine at_v (ov_pick_t rfl rfl rfl) rfl rfl rfl ?_
      refine at_nil ?_
      refine at_normal ?_
      refine hK8 _ _ _ ?_
      refine at_cond_true rfl ?_
      refine at_region ?_
      refine at_v (ov_move rfl rfl) rfl rfl rfl ?_
      refine at_v (ov_move rfl rfl) rfl rfl rfl ?_
      refine at_v (ov_indexRd (fun _ s => s.rd (k := 0) rfl) rfl Try.underlying22 rfl rfl rfl hgk) rfl rfl rfl ?_
      refine at_t0 (ot_storeRow0 (k := 0) (u' := (0 : Int)) rfl rfl rfl rfl hgk rfl (by decide) rfl rfl) rfl rfl ?_
      rintro _ _ ⟨_, rfl⟩
      simp only [setAt]
      rw [show (onlyK xs ms k).set k 0 = onlyK xs ms (k + 1) from hset]
      refine at_nil ?_
      refine at_inb_normal ?_
      refine at_normal ?_
      refine hK6 _ _ _ ?_
      refine at_region ?_
      refine at_v ((ov_int rfl rfl rfl rfl).eq (congrArg (Value.int .i64) (inK_i64 (by omega) (by omega)))) rfl rfl rfl ?_
      refine at_v (ov_move rfl rfl) rfl rfl rfl ?_
      refine at_nil ?_
      refine at_normal ?_
      refine at_roundF (k + 1) hlt (by omega) ⟨rfl, look_eq rfl (by simp [onlyK_len]), trivial⟩ rfl ?_
      exact fun _ s => s.finEq (ks := [0]) (js := []) rfl rfl rfl
    | some b =>
      have hlt2 : k < ms.length := (List.getElem?_eq_some_iff.1 hmk).1
      cases b with
      | false =>
        rw [hmk] at hset
        refine at_skip ?_
        refine at_normal ?_
        refine hK5 _ _ _ ?_
        refine at_seq_k (fun K6 hK6 => ?_)
        refine at_block ?_
        refine at_seq_k (fun K7 hK7 => ?_)
        refine at_region ?_
        refine at_v (ov_move rfl rfl) rfl rfl rfl ?_
        refine at_v (ov_assign rfl rfl) rfl rfl rfl ?_
        refine at_nil ?_
        refine at_normal ?_
        refine hK7 _ _ _ ?_
        refine at_seq_k (fun K8 hK8 => ?_)
        refine at_region ?_
        refine at_v (ov_move rfl rfl) rfl rfl rfl ?_
        refine at_v (ov_move rfl rfl) rfl rfl rfl ?_
        refine at_v (ov_len_slice rfl Try.underlying24 rfl) rfl rfl rfl ?_
        refine at_v (ov_int rfl rfl rfl rfl) rfl rfl rfl ?_
        refine at_v (ov_move rfl rfl) rfl rfl rfl ?_
        refine at_reval 18 (.bool false) rfl (congrArg Value.bool (decide_eq_false (by omega))) ?_
        refine at_wanted (j := 4) rfl ?_
        refine at_v (ov_move rfl rfl) rfl rfl rfl ?_
        refine at_wanted (j := 4) rfl ?_
        refine at_v (ov_move rfl rfl) rfl rfl rfl ?_
        refine at_wanted (j := 4) rfl ?_
        refine at_v (ov_indexRd (fun _ s => hr2.up s) rfl Try.underlying24 rfl rfl rfl hmk) rfl rfl rfl ?_
        refine at_wanted (j := 4) rfl ?_
        refine at_v (ov_loadRd0 (fun _ s => hr2.up s) rfl rfl rfl hmk rfl) rfl rfl rfl ?_
        refine at_wanted (j := 4) rfl ?_
        refine at_v (ov_not rfl rfl) rfl rfl rfl ?_
        refine at_v (ov_pick_f rfl rfl rfl) rfl rfl rfl ?_
        refine at_nil ?_
        refine at_normal ?_
        refine hK8 _ _ _ ?_
        refine at_cond_true rfl ?_
        refine at_region ?_
        refine at_v (ov_move rfl rfl) rfl rfl rfl ?_
        refine at_v (ov_move rfl rfl) rfl rfl rfl ?_
        refine at_v (ov_indexRd (fun _ s => s.rd (k := 0) rfl) rfl Try.underlying22 rfl rfl rfl hgk) rfl rfl rfl ?_
        refine at_t0 (ot_storeRow0 (k := 0) (u' := (0 : Int)) rfl rfl rfl rfl hgk rfl (by decide) rfl rfl) rfl rfl ?_
        rintro _ _ ⟨_, rfl⟩
        simp only [setAt]
        rw [show (onlyK xs ms k).set k 0 = onlyK xs ms (k + 1) from hset]
        refine at_nil ?_
        refine at_inb_normal ?_
        refine at_normal ?_
        refine hK6 _ _ _ ?_
        refine at_region ?_
        refine at_v ((ov_int rfl rfl rfl rfl).eq (congrArg (Value.int .i64) (inK_i64 (by omega) (by omega)))) rfl rfl rfl ?_
        refine at_v (ov_move rfl rfl) rfl rfl rfl ?_
        refine at_nil ?_
        refine at_normal ?_
        refine at_roundF (k + 1) hlt (by omega) ⟨rfl, look_eq rfl (by simp [onlyK_len]), trivial⟩ rfl ?_
        exact fun _ s => s.finEq (ks := [0]) (js := []) rfl rfl rfl
      | true =>
        rw [← onlyK_keep hget (show ms[k]?.getD false = true by rw [hmk]; rfl)]
        refine at_skip ?_
        refine at_normal ?_
        refine hK5 _ _ _ ?_
        refine at_seq_k (fun K6 hK6 => ?_)
        refine at_block ?_
        refine at_seq_k (fun K7 hK7 => ?_)
        refine at_region ?_
        refine at_v (ov_move rfl rfl) rfl rfl rfl ?_
        refine at_v (ov_assign rfl rfl) rfl rfl rfl ?_
        refine at_nil ?_
        refine at_normal ?_
        refine hK7 _ _ _ ?_
        refine at_seq_k (fun K8 hK8 => ?_)
        refine at_region ?_
        refine at_v (ov_move rfl rfl) rfl rfl rfl ?_
        refine at_v (ov_move rfl rfl) rfl rfl rfl ?_
        refine at_v (ov_len_slice rfl Try.underlying24 rfl) rfl rfl rfl ?_
        refine at_v (ov_int rfl rfl rfl rfl) rfl rfl rfl ?_
        refine at_v (ov_move rfl rfl) rfl rfl rfl ?_
        refine at_reval 18 (.bool false) rfl (congrArg Value.bool (decide_eq_false (by omega))) ?_
        refine at_wanted (j := 4) rfl ?_
        refine at_v (ov_move rfl rfl) rfl rfl rfl ?_
        refine at_wanted (j := 4) rfl ?_
        refine at_v (ov_move rfl rfl) rfl rfl rfl ?_
        refine at_wanted (j := 4) rfl ?_
        refine at_v (ov_indexRd (fun _ s => hr2.up s) rfl Try.underlying24 rfl rfl rfl hmk) rfl rfl rfl ?_
        refine at_wanted (j := 4) rfl ?_
        refine at_v (ov_loadRd0 (fun _ s => hr2.up s) rfl rfl rfl hmk rfl) rfl rfl rfl ?_
        refine at_wanted (j := 4) rfl ?_
        refine at_v (ov_not rfl rfl) rfl rfl rfl ?_
        refine at_v (ov_pick_f rfl rfl rfl) rfl rfl rfl ?_
        refine at_nil ?_
        refine at_normal ?_
        refine hK8 _ _ _ ?_
        refine at_cond_false rfl ?_
        refine at_skip ?_
        refine at_inb_normal ?_
        refine at_normal ?_
        refine hK6 _ _ _ ?_
        refine at_region ?_
        refine at_v ((ov_int rfl rfl rfl rfl).eq (congrArg (Value.int .i64) (inK_i64 (by omega) (by omega)))) rfl rfl rfl ?_
        refine at_v (ov_move rfl rfl) rfl rfl rfl ?_
        refine at_nil ?_
        refine at_normal ?_
        refine at_roundF (k + 1) hlt (by omega) ⟨rfl, look_eq rfl (by simp [onlyK_len]), trivial⟩ rfl ?_
        exact fun _ s => s.finEq (ks := [0]) (js := []) rfl rfl rfl
  · have hk2 : k = xs.length := by
      have : ¬ k < xs.length := by simpa using hc
      omega
    subst hk2
    have hfin : onlyK xs ms xs.length = onlyL xs ms := by
      unfold onlyK
      rw [List.drop_length, List.append_nil, List.take_of_length_le (by rw [onlyL_len]; exact Nat.le_refl _)]
    rw [hfin]
    refine at_exit ?_
    refine at_then_exit ?_
    refine at_then_exit ?_
    refine at_exit_eq ?_
    refine at_normal ?_
    refine hK2 _ _ _ ?_
    refine at_seq_k (fun K6 hK6 => ?_)
    refine at_region ?_
    refine at_v (ov_move rfl rfl) rfl rfl rfl ?_
    refine at_v (ov_assign rfl rfl) rfl rfl rfl ?_
    refine at_nil ?_
    refine at_normal ?_
    refine hK6 _ _ _ ?_
    refine at_ret ?_
    refine at_end ?_
    refine at_fin (rsV rfl (res_tmp rfl)) ?_
    refine ⟨_, ⟨_, _, rfl, rfl⟩, ?_⟩
    exact fun _ s => s.finEq (ks := [0]) (js := []) rfl rfl rfl
theorem T11 (w0 : World) {A B : Option Addr} {c d : Nat} {xs : List Int} {ms : List Bool} (hr : Rd wE w0 1 A xs) (hr2 : Rd mE w0 1 B ms) (hm : xs.length ≤ 1000) (hm2 : ms.length ≤ 1000) :
    Tri Try.prog w0 11 [.slice A xs.length c, .slice B ms.length d] [] fun v m => ∃ C e, v = .slice C (onlyL xs ms).length e ∧ m = [Row wE 3 1 C e (onlyL xs ms)] := by
  refine tri_of Try.func11 rfl rfl fun F => ?_
  simp only [Try.ntmps11, argEnv, List.nil_append]
  refine at_seq_k (fun K0 hK0 => ?_)
  refine at_region ?_
  refine at_v (ov_assign rfl rfl) rfl rfl rfl ?_
  refine at_nil ?_
  refine at_normal ?_
  refine hK0 _ _ _ ?_
  refine at_seq_k (fun K1 hK1 => ?_)
  refine at_region ?_
  refine at_t (ot_buildSlice (cs := []) rfl Try.underlying22 rfl rfl rfl rfl rfl rfl) rfl rfl rfl ?_
  rintro _ _ ⟨g0, rfl, rfl⟩
  refine at_v (ov_assign rfl rfl) rfl rfl rfl ?_
  refine at_nil ?_
  refine at_normal ?_
  refine hK1 _ _ _ ?_
  refine at_seq_k (fun K2 hK2 => ?_)
  refine at_seq_k (fun K3 hK3 => ?_)
  refine at_region ?_
  refine at_v (ov_assign rfl rfl) rfl rfl rfl ?_
  refine at_nil ?_
  refine at_normal ?_
  refine hK3 _ _ _ ?_
  refine at_block ?_
  refine at_rowOf wE 0 (size := 1) (c := 0) [] rfl (fun _ h => by cases h) (Nat.le_refl _) (Nat.zero_le _) (Nat.le_refl _) rfl ?_
  refine at_loopE [8, 9, 10, 11, 14, 15, 16, 17, 18, 19, 20, 21, 22, 23, 24, 25, 26, 27, 28, 29, 30, 5, 31, 32, 33, 12, 13, 6] (ι := Nat × Option Addr × Nat) (fun i => i.1 ≤ xs.length) (fun i => [(6, .int .i64 (i.1 : Nat)), (5, .slice i.2.1 ((onlyL xs ms).take i.1).length i.2.2)]) (fun i m => setAt 0 (Row wE 3 1 i.2.1 i.2.2 ((onlyL xs ms).take i.1)) m) (fun i => xs.length - i.1) (0, some ⟨g0, 0, none⟩, 0) (Nat.zero_le _) ⟨rfl, rfl, trivial⟩ (fun _ s => s) ?_
  rintro ⟨k, C, e⟩ hk
  simp only at hk
  simp only [setAt]
  refine at_seq_k (fun K4 hK4 => ?_)
  refine at_seq_k (fun K5 hK5 => ?_)
  refine at_region ?_
  refine at_v (ov_move rfl rfl) rfl rfl rfl ?_
  refine at_v (ov_move rfl rfl) rfl rfl rfl ?_
  refine at_v (ov_len_slice rfl Try.underlying22 rfl) rfl rfl rfl ?_
  refine at_v (ov_int rfl rfl rfl rfl) rfl rfl rfl ?_
  refine at_nil ?_
  refine at_normal ?_
  refine hK5 _ _ _ ?_
  refine at_cond rfl (fun hc => ?_) (fun hc => ?_)
  · have hlt : k < xs.length := by simpa using hc
    have hget : xs[k]? = some xs[k] := List.getElem?_eq_getElem hlt
    have hon := onlyL_get (ms := ms) hget
    have hl0 : ((onlyL xs ms).take k).length ≤ 1000 := by rw [List.length_take, onlyL_len]; omega
    have htk : (onlyL xs ms).take (k + 1) = (onlyL xs ms).take k ++ [if ms[k]?.getD false then xs[k] else 0] := by
      rw [List.take_add_one, hon]; rfl
    cases hmk : ms[k]? with
    | none =>
      have hge := List.getElem?_eq_none_iff.1 hmk
      rw [hmk] at htk
      have htk2 : (onlyL xs ms).take (k + 1) = (onlyL xs ms).take k ++ [(0 : Int)] := htk
      refine at_skip ?_
      refine at_normal ?_
      refine hK4 _ _ _ ?_
      refine at_seq_k (fun K6 hK6 => ?_)
      refine at_block ?_
      refine at_seq_k (fun K7 hK7 => ?_)
      refine at_region ?_
      refine at_v (ov_move rfl rfl) rfl rfl rfl ?_
      refine at_v (ov_move rfl rfl) rfl rfl rfl ?_
      refine at_v (ov_len_slice rfl Try.underlying24 rfl) rfl rfl rfl ?_
      refine at_v (ov_int rfl rfl rfl rfl) rfl rfl rfl ?_
      refine at_v (ov_move rfl rfl) rfl rfl rfl ?_
      refine at_reval 18 (.bool false) rfl (congrArg Value.bool (decide_eq_false (by omega))) ?_
      refine at_unwanted (j := 4) rfl rfl rfl rfl ?_
      refine at_unwanted (j := 4) rfl rfl rfl rfl ?_
      refine at_unwanted (j := 4) rfl rfl rfl rfl ?_
      refine at_unwanted (j := 4) rfl rfl rfl rfl ?_
      refine at_v (ov_pick_f rfl rfl rfl) rfl rfl rfl ?_
      refine at_nil ?_
      refine at_normal ?_
      refine hK7 _ _ _ ?_
      refine at_cond_false rfl ?_
      refine at_region ?_
      refine at_v (ov_move rfl rfl) rfl rfl rfl ?_
      refine at_t (ot_buildSlice (cs := [_]) rfl Try.underlying22 rfl rfl rfl rfl rfl rfl) rfl rfl rfl ?_
      rintro _ _ ⟨g1, rfl, rfl⟩
      refine at_t (ot_append (k := 1) (size := 1) (bytes := 8) (ys := [(0 : Int)]) (fun _ s => s.rdPt (k := 0) rfl rfl (by simp [wE])) rfl Try.underlying22 (ti := Try.t3) rfl rfl rfl rfl rfl (by decide) rfl rfl rfl (by simp [wE, Value.oneCell']) (by simp; omega) (by decide)) rfl rfl rfl ?_
      rintro _ _ ⟨A0, c0, rfl, rfl⟩
      simp only [setAt]
      rw [← htk2]
      refine at_v (ov_assign rfl rfl) rfl rfl rfl ?_
      refine at_nil ?_
      refine at_inb_normal ?_
      refine at_normal ?_
      refine hK6 _ _ _ ?_
      refine at_region ?_
      refine at_v (ov_move rfl rfl) rfl rfl rfl ?_
      refine at_v ((ov_int rfl rfl rfl rfl).eq (congrArg (Value.int .i64) (inK_i64 (by omega) (by omega)))) rfl rfl rfl ?_
      refine at_v (ov_assign rfl rfl) rfl rfl rfl ?_
      refine at_nil ?_
      refine at_normal ?_
      refine at_roundF (k + 1, _, _) hlt (by simp only; omega) ⟨rfl, rfl, trivial⟩ rfl ?_
      exact fun _ s => s.finEq (ks := [1]) (js := [0]) rfl rfl rfl
    | some b =>
      have hlt2 : k < ms.length := (List.getElem?_eq_some_iff.1 hmk).1
      cases b with
      | false =>
        rw [hmk] at htk
        have htk2 : (onlyL xs ms).take (k + 1) = (onlyL xs ms).take k ++ [(0 : Int)] := htk
        refine at_skip ?_
        refine at_normal ?_
        refine hK4 _ _ _ ?_
        refine at_seq_k (fun K6 hK6 => ?_)
        refine at_block ?_
        refine at_seq_k (fun K7 hK7 => ?_)
        refine at_region ?_
        refine at_v (ov_move rfl rfl) rfl rfl rfl ?_
        refine at_v (ov_move rfl rfl) rfl rfl rfl ?_
        refine at_v (ov_len_slice rfl Try.underlying24 rfl) rfl rfl rfl ?_
        refine at_v (ov_int rfl rfl rfl rfl) rfl rfl rfl ?_
        refine at_v (ov_move rfl rfl) rfl rfl rfl ?_
        refine at_reval 18 (.bool true) rfl (congrArg Value.bool (decide_eq_true (by omega))) ?_
        refine at_wanted (j := 4) rfl ?_
        refine at_v (ov_move rfl rfl) rfl rfl rfl ?_
        refine at_wanted (j := 4) rfl ?_
        refine at_v (ov_move rfl rfl) rfl rfl rfl ?_
        refine at_wanted (j := 4) rfl ?_
        refine at_v (ov_indexRd (fun _ s => hr2.up s) rfl Try.underlying24 rfl rfl rfl hmk) rfl rfl rfl ?_
        refine at_wanted (j := 4) rfl ?_
        refine at_v (ov_loadRd0 (fun _ s => hr2.up s) rfl rfl rfl hmk rfl) rfl rfl rfl ?_
        refine at_v (ov_pick_t rfl rfl rfl) rfl rfl rfl ?_
        refine at_nil ?_
        refine at_normal ?_
        refine hK7 _ _ _ ?_
        refine at_cond_false rfl ?_
        refine at_region ?_
        refine at_v (ov_move rfl rfl) rfl rfl rfl ?_
        refine at_t (ot_buildSlice (cs := [_]) rfl Try.underlying22 rfl rfl rfl rfl rfl rfl) rfl rfl rfl ?_
        rintro _ _ ⟨g1, rfl, rfl⟩
        refine at_t (ot_append (k := 1) (size := 1) (bytes := 8) (ys := [(0 : Int)]) (fun _ s => s.rdPt (k := 0) rfl rfl (by simp [wE])) rfl Try.underlying22 (ti := Try.t3) rfl rfl rfl rfl rfl (by decide) rfl rfl rfl (by simp [wE, Value.oneCell']) (by simp; omega) (by decide)) rfl rfl rfl ?_
        rintro _ _ ⟨A0, c0, rfl, rfl⟩
        simp only [setAt]
        rw [← htk2]
        refine at_v (ov_assign rfl rfl) rfl rfl rfl ?_
        refine at_nil ?_
        refine at_inb_normal ?_
        refine at_normal ?_
        refine hK6 _ _ _ ?_
        refine at_region ?_
        refine at_v (ov_move rfl rfl) rfl rfl rfl ?_
        refine at_v ((ov_int rfl rfl rfl rfl).eq (congrArg (Value.int .i64) (inK_i64 (by omega) (by omega)))) rfl rfl rfl ?_
        refine at_v (ov_assign rfl rfl) rfl rfl rfl ?_
        refine at_nil ?_
        refine at_normal ?_
        refine at_roundF (k + 1, _, _) hlt (by simp only; omega) ⟨rfl, rfl, trivial⟩ rfl ?_
        exact fun _ s => s.finEq (ks := [1]) (js := [0]) rfl rfl rfl
      | true =>
        rw [hmk] at htk
        have htk2 : (onlyL xs ms).take (k + 1) = (onlyL xs ms).take k ++ [xs[k]] := htk
        refine at_skip ?_
        refine at_normal ?_
        refine hK4 _ _ _ ?_
        refine at_seq_k (fun K6 hK6 => ?_)
        refine at_block ?_
        refine at_seq_k (fun K7 hK7 => ?_)
        refine at_region ?_
        refine at_v (ov_move rfl rfl) rfl rfl rfl ?_
        refine at_v (ov_move rfl rfl) rfl rfl rfl ?_
        refine at_v (ov_len_slice rfl Try.underlying24 rfl) rfl rfl rfl ?_
        refine at_v (ov_int rfl rfl rfl rfl) rfl rfl rfl ?_
        refine at_v (ov_move rfl rfl) rfl rfl rfl ?_
        refine at_reval 18 (.bool true) rfl (congrArg Value.bool (decide_eq_true (by omega))) ?_
        refine at_wanted (j := 4) rfl ?_
        refine at_v (ov_move rfl rfl) rfl rfl rfl ?_
        refine at_wanted (j := 4) rfl ?_
        refine at_v (ov_move rfl rfl) rfl rfl rfl ?_
        refine at_wanted (j := 4) rfl ?_
        refine at_v (ov_indexRd (fun _ s => hr2.up s) rfl Try.underlying24 rfl rfl rfl hmk) rfl rfl rfl ?_
        refine at_wanted (j := 4) rfl ?_
        refine at_v (ov_loadRd0 (fun _ s => hr2.up s) rfl rfl rfl hmk rfl) rfl rfl rfl ?_
        refine at_v (ov_pick_t rfl rfl rfl) rfl rfl rfl ?_
        refine at_nil ?_
        refine at_normal ?_
        refine hK7 _ _ _ ?_
        refine at_cond_true rfl ?_
        refine at_region ?_
        refine at_v (ov_move rfl rfl) rfl rfl rfl ?_
        refine at_v (ov_move rfl rfl) rfl rfl rfl ?_
        refine at_v (ov_move rfl rfl) rfl rfl rfl ?_
        refine at_v (ov_indexRd (fun _ s => hr.up s) rfl Try.underlying22 rfl rfl rfl hget) rfl rfl rfl ?_
        refine at_v (ov_loadRd0 (fun _ s => hr.up s) rfl rfl rfl hget rfl) rfl rfl rfl ?_
        refine at_t (ot_buildSlice (cs := [_]) rfl Try.underlying22 rfl rfl rfl rfl rfl rfl) rfl rfl rfl ?_
        rintro _ _ ⟨g1, rfl, rfl⟩
        refine at_t (ot_append (k := 1) (size := 1) (bytes := 8) (ys := [xs[k]]) (fun _ s => s.rdPt (k := 0) rfl rfl (by simp [wE])) rfl Try.underlying22 (ti := Try.t3) rfl rfl rfl rfl rfl (by decide) rfl rfl rfl (by simp [wE, Value.oneCell']) (by simp; omega) (by decide)) rfl rfl rfl ?_
        rintro _ _ ⟨A0, c0, rfl, rfl⟩
        simp only [setAt]
        rw [← htk2]
        refine at_v (ov_assign rfl rfl) rfl rfl rfl ?_
        refine at_nil ?_
        refine at_inb_normal ?_
        refine at_normal ?_
        refine hK6 _ _ _ ?_
        refine at_region ?_
        refine at_v (ov_move rfl rfl) rfl rfl rfl ?_
        refine at_v ((ov_int rfl rfl rfl rfl).eq (congrArg (Value.int .i64) (inK_i64 (by omega) (by omega)))) rfl rfl rfl ?_
        refine at_v (ov_assign rfl rfl) rfl rfl rfl ?_
        refine at_nil ?_
        refine at_normal ?_
        refine at_roundF (k + 1, _, _) hlt (by simp only; omega) ⟨rfl, rfl, trivial⟩ rfl ?_
        exact fun _ s => s.finEq (ks := [1]) (js := [0]) rfl rfl rfl
  · have hk2 : k = xs.length := by
      have : ¬ k < xs.length := by simpa using hc
      omega
    subst hk2
    have hfin : (onlyL xs ms).take xs.length = onlyL xs ms := List.take_of_length_le (by rw [onlyL_len]; exact Nat.le_refl _)
    rw [hfin]
    refine at_exit ?_
    refine at_then_exit ?_
    refine at_then_exit ?_
    refine at_exit_eq ?_
    refine at_normal ?_
    refine hK2 _ _ _ ?_
    refine at_seq_k (fun K6 hK6 => ?_)
    refine at_region ?_
    refine at_v (ov_move rfl rfl) rfl rfl rfl ?_
    refine at_v (ov_assign rfl rfl) rfl rfl rfl ?_
    refine at_nil ?_
    refine at_normal ?_
    refine hK6 _ _ _ ?_
    refine at_ret ?_
    refine at_end ?_
    refine at_fin (rsV rfl (res_tmp rfl)) ?_
    refine ⟨_, ⟨_, _, rfl, rfl⟩, ?_⟩
    exact fun _ s => s.finEq (ks := [0]) (js := []) rfl rfl rfl
