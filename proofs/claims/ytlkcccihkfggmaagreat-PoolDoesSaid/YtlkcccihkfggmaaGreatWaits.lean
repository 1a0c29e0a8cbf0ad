/- The functions of package waits, walked: a ring is a list. -/
import Derived.Test.YtlkcccihkfggmaaGreatProg
import Derived.Test.YtlkcccihkfggmaaGreatConn
import Derived.Test.YtlkcccihkfggmaaGreatSLBr
import Derived.KernelRfl
set_option linter.unusedSimpArgs false
set_option linter.unusedVariables false
set_option maxRecDepth 100000
namespace Go.Proofs.YtlkcccihkfggmaaGreat
open Go Go.Proofs.YtlkcccihkfggmaaGreat.SL Go.RowKit
abbrev wE (x : Int) : List Value := [.int .i64 x]
/-- The ring's cells cs bear the list L, with room for most. -/
structure Ring (cs : Array Value) (fr : Nat) (most : Int) (L : List Int) : Prop where
  lt : fr < 12
  size : cs.size = 15
  has : ∀ (j : Nat) (x : Int), L[j]? = some x → nth ((fr + j) % 12) cs.toList = some (.int .i64 x)
  from_ : nth 12 cs.toList = some (.int .i64 (fr : Nat))
  many : nth 13 cs.toList = some (.int .i64 (L.length : Nat))
  most_ : nth 14 cs.toList = some (.int .i64 most)
  le : (L.length : Int) ≤ most
  le12 : most ≤ 12
def WaitA (g : Nat) (most : Int) (L : List Int) : HP := fun h => ∃ cs, ∃ fr, Ring cs fr most L ∧ star [cl g cs 101] h
theorem T73 (w0 : World) {g : Nat} {cs : Array Value} {fr i : Nat} (h1 : nth 12 cs.toList = some (.int .i64 (fr : Nat))) (hf : fr < 12) (hi : i < 100) :
    Tri Tryz.prog w0 73 [ptrTo g, .int .i64 (i : Nat)] [cl g cs 101] fun v m => v = .pointer (some ⟨g, (fr + i) % 12, none⟩) ∧ m = [cl g cs 101] := by
  refine tri_of Tryz.func73 rfl rfl fun F => ?_
  simp only [Tryz.ntmps73, argEnv, List.cons_append, List.nil_append]
  have hm0 : 0 ≤ ((fr : Int) + (i : Nat)).tmod 12 := by rw [Int.tmod_eq_emod_of_nonneg (by omega)]; omega
  have hm1 : ((fr : Int) + (i : Nat)).tmod 12 < 12 := by rw [Int.tmod_eq_emod_of_nonneg (by omega)]; omega
  refine at_seq_k (fun K0 hK0 => ?_)
  refine at_region ?_
  refine at_v (ov_assign rfl rfl) rfl rfl rfl ?_
  refine at_nil ?_
  refine at_normal ?_
  refine hK0 _ _ _ ?_
  refine at_seq_k (fun K1 hK1 => ?_)
  refine at_draw _ [] 1000 [(2, 0), (2, 1), (2, 2), (2, 3), (1, 4), (2, 5), (2, 6), (2, 7), (2, 8), (2, 9), (1, 10), (2, 11)] (by kernel_rfl) (by kernel_rfl) (fun _ s => (s.pulls (ks := [0]) rfl).left) ?_
  refine aq_p (ov_move rfl rfl) rfl rfl rfl ?_
  refine aq_p (ov_move rfl rfl) rfl rfl rfl ?_
  refine aq_p (ov_nilCheck rfl rfl) rfl rfl rfl ?_
  refine aq_p (ov_fieldAddr (k := 12) (r := 12) rfl rfl rfl rfl) rfl rfl rfl ?_
  refine aq_v (ov_load rfl rfl rfl (fun _ s => s.ld (k := 0) rfl (by assumption))) rfl rfl rfl ?_
  refine aq_p (ov_move rfl rfl) rfl rfl rfl ?_
  refine aq_p ((ov_int rfl rfl rfl rfl).eq (congrArg (Value.int .i64) (inK_i64 (by omega) (by omega)))) rfl rfl rfl ?_
  refine aq_p (ov_rem rfl rfl rfl (by omega)) rfl rfl rfl ?_
  refine aq_p (ov_nilCheck rfl rfl) rfl rfl rfl ?_
  refine aq_p (ov_fieldAddr (k := 0) (r := 0) rfl rfl rfl rfl) rfl rfl rfl ?_
  refine aq_v (ov_indexArr (size := 1) rfl Tryz.underlying99 rfl rfl rfl (by omega) (by omega)) rfl rfl rfl ?_
  refine aq_p (ov_assign rfl rfl) rfl rfl rfl ?_
  refine aq_nil ?_
  refine at_normal ?_
  refine hK1 _ _ _ ?_
  refine at_ret ?_
  refine at_end ?_
  refine at_fin (rsV rfl (res_tmp rfl)) ?_
  refine ⟨_, ⟨by rw [Int.tmod_eq_emod_of_nonneg (by omega)]; congr 3; omega, rfl⟩, ?_⟩
  exact fun _ s => s.finEq (ks := [0]) (js := []) rfl rfl rfl
theorem Ring.take_ {cs : Array Value} {fr : Nat} {most : Int} {x : Int} {L : List Int} (h : Ring cs fr most (x :: L)) : Ring (splice (splice cs 12 [.int .i64 (((fr + 1) % 12 : Nat) : Int)]) 13 [.int .i64 (L.length : Nat)]) ((fr + 1) % 12) most L := by
  have hs := h.size
  refine ⟨by omega, by simp [size_splice1, hs], fun j y hy => ?_, ?_, ?_, ?_, by have := h.le; simp at this; omega, h.le12⟩
  · have hj := h.has (j + 1) y (by simpa using hy)
    rw [nth_splice1, nth_splice1, if_neg (by omega), if_neg (by omega)]
    rw [show ((fr + 1) % 12 + j) % 12 = (fr + (j + 1)) % 12 by omega]
    exact hj
  · rw [nth_splice1, nth_splice1, if_neg (by omega), if_pos (by omega)]
  · rw [nth_splice1, if_pos (by simp [size_splice1, hs])]
  · rw [nth_splice1, nth_splice1, if_neg (by omega), if_neg (by omega)]; exact h.most_
theorem Ring.put_ {cs : Array Value} {fr : Nat} {most : Int} {x : Int} {L : List Int} (h : Ring cs fr most L) (hl : (L.length : Int) < most) : Ring (splice (splice cs ((fr + L.length) % 12) [.int .i64 x]) 13 [.int .i64 ((L.length : Nat) + 1)]) fr most (L ++ [x]) := by
  have hs := h.size
  have h12 := h.le12
  refine ⟨h.lt, by simp [size_splice1, hs], fun j y hy => ?_, ?_, ?_, ?_, by simp; omega, h12⟩
  · rw [nth_splice1, nth_splice1, if_neg (by omega)]
    rcases Nat.lt_or_ge j L.length with hj | hj
    · rw [List.getElem?_append_left hj] at hy
      rw [if_neg (by omega)]
      exact h.has j y hy
    · rw [List.getElem?_append_right hj] at hy
      have hj0 : j = L.length := by
        have := (List.getElem?_eq_some_iff.1 hy).1
        simp at this; omega
      subst hj0
      simp at hy
      subst hy
      rw [if_pos (by omega)]
  · rw [nth_splice1, nth_splice1, if_neg (by omega), if_neg (by omega)]; exact h.from_
  · rw [nth_splice1, if_pos (by simp [size_splice1, hs])]; simp
  · rw [nth_splice1, nth_splice1, if_neg (by omega), if_neg (by omega)]; exact h.most_
/-- A round of Drop: place k - 1 bears what place k bore. -/
theorem Ring.move_ {cs : Array Value} {fr : Nat} {most : Int} {L : List Int} (h : Ring cs fr most L) {k : Nat} {y : Int} (hk : k < L.length) : Ring (splice cs ((fr + k) % 12) [.int .i64 y]) fr most (L.set k y) := by
  have hs := h.size
  have h12 := h.le12
  have hle := h.le
  refine ⟨h.lt, by simp [size_splice1, hs], fun j z hz => ?_, ?_, ?_, ?_, by simpa using h.le, h12⟩
  · rw [List.getElem?_set] at hz
    rw [nth_splice1]
    by_cases hj : k = j
    · subst hj
      rw [if_pos rfl, if_pos hk] at hz
      simp only [Option.some.injEq] at hz
      subst hz
      rw [if_pos (by omega)]
    · rw [if_neg hj] at hz
      have := (List.getElem?_eq_some_iff.1 hz).1
      rw [if_neg (by omega)]
      exact h.has j z hz
  · rw [nth_splice1, if_neg (by omega)]; exact h.from_
  · rw [nth_splice1, if_neg (by omega), List.length_set]; exact h.many
  · rw [nth_splice1, if_neg (by omega)]; exact h.most_
theorem Ring.cut_ {cs : Array Value} {fr : Nat} {most : Int} {L L' : List Int} (h : Ring cs fr most L) (hl : L'.length + 1 = L.length) (hg : ∀ (j : Nat) (x : Int), L'[j]? = some x → L[j]? = some x) : Ring (splice cs 13 [.int .i64 (L'.length : Nat)]) fr most L' := by
  have hs := h.size
  have hle := h.le
  refine ⟨h.lt, by simp [size_splice1, hs], fun j z hz => ?_, ?_, ?_, ?_, by omega, h.le12⟩
  · rw [nth_splice1, if_neg (by omega)]
    exact h.has j z (hg j z hz)
  · rw [nth_splice1, if_neg (by omega)]; exact h.from_
  · rw [nth_splice1, if_pos (by simp [hs])]
  · rw [nth_splice1, if_neg (by omega)]; exact h.most_
theorem at_wait {w0 : World} {n : Nat} {ds : List Deferred} {R : Act → World → Prop} {env : Env} {l : List HP} {g : Nat} {most : Int} {L : List Int} (k : ∀ cs fr, Ring cs fr most L → At w0 n ds R env (cl g cs 101 :: l)) : At w0 n ds R env (WaitA g most L :: l) :=
  at_ex fun cs => at_ex fun fr => at_and fun h => at_open (k cs fr h)
theorem T20 (w0 : World) (m0 : Int) : Tri Tryz.prog w0 20 [.int .i64 m0] [] fun v m => ∃ b : Bool, b = decide (0 ≤ m0 ∧ m0 ≤ 12) ∧ (b = false → v = .tuple #[.pointer none, .int .i64 1] ∧ m = []) ∧ (b = true → ∃ g, v = .tuple #[ptrTo g, .int .i64 0] ∧ m = [WaitA g m0 []]) := by
  refine tri_of Tryz.func20 rfl rfl fun F => ?_
  simp only [Tryz.ntmps20, argEnv, List.cons_append, List.nil_append]
  by_cases h1 : 0 ≤ m0
  · by_cases h2 : m0 ≤ 12
    · refine at_seq_k (fun K0 hK0 => ?_)
      refine at_region ?_
      refine at_v (ov_assign rfl rfl) rfl rfl rfl ?_
      refine at_v (ov_assign rfl rfl) rfl rfl rfl ?_
      refine at_nil ?_
      refine at_normal ?_
      refine hK0 _ _ _ ?_
      refine at_seq_k (fun K1 hK1 => ?_)
      refine at_seq_k (fun K2 hK2 => ?_)
      refine at_region ?_
      refine at_v (ov_move rfl rfl) rfl rfl rfl ?_
      refine at_v (ov_int rfl rfl rfl rfl) rfl rfl rfl ?_
      refine at_v (ov_move rfl rfl) rfl rfl rfl ?_
      refine at_reval 6 (.bool false) rfl (congrArg Value.bool (decide_eq_false (by omega))) ?_
      refine at_wanted (j := 2) rfl ?_
      refine at_v (ov_move rfl rfl) rfl rfl rfl ?_
      refine at_wanted (j := 2) rfl ?_
      refine at_v (ov_int rfl rfl rfl rfl) rfl rfl rfl ?_
      refine at_v (ov_pick_f rfl rfl rfl) rfl rfl rfl ?_
      refine at_nil ?_
      refine at_normal ?_
      refine hK2 _ _ _ ?_
      refine at_cond_false (congrArg (fun b => some (Value.bool b)) (show _ = false from decide_eq_false (by omega))) ?_
      refine at_skip ?_
      refine at_normal ?_
      refine hK1 _ _ _ ?_
      refine at_seq_k (fun K3 hK3 => ?_)
      refine at_region ?_
      refine at_v (ov_move rfl rfl) rfl rfl rfl ?_
      refine at_v (ov_build (cs := [_, _, _, _, _, _, _, _, _, _, _, _, _, _, _]) rfl rfl rfl rfl) rfl rfl rfl ?_
      refine at_t (ot_boxA rfl rfl) rfl rfl rfl ?_
      rintro _ _ ⟨g0, rfl, rfl⟩
      refine at_v (ov_assign rfl rfl) rfl rfl rfl ?_
      refine at_v (ov_assign rfl rfl) rfl rfl rfl ?_
      refine at_nil ?_
      refine at_normal ?_
      refine hK3 _ _ _ ?_
      refine at_ret ?_
      refine at_end ?_
      have hr : Ring #[.int .i64 0, .int .i64 0, .int .i64 0, .int .i64 0, .int .i64 0, .int .i64 0, .int .i64 0, .int .i64 0, .int .i64 0, .int .i64 0, .int .i64 0, .int .i64 0, .int .i64 0, .int .i64 0, .int .i64 m0] 0 m0 [] := ⟨by omega, rfl, (fun j x h => by simp at h), rfl, rfl, rfl, by simpa using h1, h2⟩
      refine at_fold (A := WaitA g0 m0 []) [0] rfl (fun h s => ⟨_, 0, hr, s⟩) ?_
      refine at_fin (rsL (vs := [_, _]) rfl ⟨res_tmp rfl, res_tmp rfl, trivial⟩ rfl) ?_
      refine ⟨_, ⟨true, by simp [h1, h2], fun h => (by cases h), fun _ => ⟨g0, rfl, rfl⟩⟩, ?_⟩
      exact fun _ s => s.finEq (ks := [0]) (js := []) rfl rfl rfl
    · refine at_seq_k (fun K0 hK0 => ?_)
      refine at_region ?_
      refine at_v (ov_assign rfl rfl) rfl rfl rfl ?_
      refine at_v (ov_assign rfl rfl) rfl rfl rfl ?_
      refine at_nil ?_
      refine at_normal ?_
      refine hK0 _ _ _ ?_
      refine at_seq_k (fun K1 hK1 => ?_)
      refine at_seq_k (fun K2 hK2 => ?_)
      refine at_region ?_
      refine at_v (ov_move rfl rfl) rfl rfl rfl ?_
      refine at_v (ov_int rfl rfl rfl rfl) rfl rfl rfl ?_
      refine at_v (ov_move rfl rfl) rfl rfl rfl ?_
      refine at_reval 6 (.bool false) rfl (congrArg Value.bool (decide_eq_false (by omega))) ?_
      refine at_wanted (j := 2) rfl ?_
      refine at_v (ov_move rfl rfl) rfl rfl rfl ?_
      refine at_wanted (j := 2) rfl ?_
      refine at_v (ov_int rfl rfl rfl rfl) rfl rfl rfl ?_
      refine at_v (ov_pick_f rfl rfl rfl) rfl rfl rfl ?_
      refine at_nil ?_
      refine at_normal ?_
      refine hK2 _ _ _ ?_
      refine at_cond_true (congrArg (fun b => some (Value.bool b)) (show _ = true from decide_eq_true (by omega))) ?_
      refine at_seq_k (fun K3 hK3 => ?_)
      refine at_region ?_
      refine at_v (ov_assign rfl rfl) rfl rfl rfl ?_
      refine at_v (ov_assign rfl rfl) rfl rfl rfl ?_
      refine at_nil ?_
      refine at_normal ?_
      refine hK3 _ _ _ ?_
      refine at_ret ?_
      refine at_then_ret ?_
      refine at_end ?_
      refine at_fin (rsL (vs := [_, _]) rfl ⟨res_tmp rfl, res_tmp rfl, trivial⟩ rfl) ?_
      refine ⟨_, ⟨false, by simp [h1, h2], fun _ => ⟨rfl, rfl⟩, fun h => by cases h⟩, ?_⟩
      exact fun _ s => s.finEq (ks := []) (js := []) rfl rfl rfl
  · refine at_seq_k (fun K0 hK0 => ?_)
    refine at_region ?_
    refine at_v (ov_assign rfl rfl) rfl rfl rfl ?_
    refine at_v (ov_assign rfl rfl) rfl rfl rfl ?_
    refine at_nil ?_
    refine at_normal ?_
    refine hK0 _ _ _ ?_
    refine at_seq_k (fun K1 hK1 => ?_)
    refine at_seq_k (fun K2 hK2 => ?_)
    refine at_region ?_
    refine at_v (ov_move rfl rfl) rfl rfl rfl ?_
    refine at_v (ov_int rfl rfl rfl rfl) rfl rfl rfl ?_
    refine at_v (ov_move rfl rfl) rfl rfl rfl ?_
    refine at_reval 6 (.bool true) rfl (congrArg Value.bool (decide_eq_true (by omega))) ?_
    refine at_unwanted (j := 2) rfl rfl rfl rfl ?_
    refine at_unwanted (j := 2) rfl rfl rfl rfl ?_
    refine at_v (ov_pick_t rfl rfl rfl) rfl rfl rfl ?_
    refine at_nil ?_
    refine at_normal ?_
    refine hK2 _ _ _ ?_
    refine at_cond_true rfl ?_
    refine at_seq_k (fun K3 hK3 => ?_)
    refine at_region ?_
    refine at_v (ov_assign rfl rfl) rfl rfl rfl ?_
    refine at_v (ov_assign rfl rfl) rfl rfl rfl ?_
    refine at_nil ?_
    refine at_normal ?_
    refine hK3 _ _ _ ?_
    refine at_ret ?_
    refine at_then_ret ?_
    refine at_end ?_
    refine at_fin (rsL (vs := [_, _]) rfl ⟨res_tmp rfl, res_tmp rfl, trivial⟩ rfl) ?_
    refine ⟨_, ⟨false, by simp [h1], fun _ => ⟨rfl, rfl⟩, fun h => by cases h⟩, ?_⟩
    exact fun _ s => s.finEq (ks := []) (js := []) rfl rfl rfl
def atL : List Int → Int → Int → Int
  | [], _, _ => -1
  | x :: r, id, i => if x = id then i else atL r id (i + 1)
theorem atL_step {L : List Int} {k : Nat} {x id : Int} (h : L[k]? = some x) : atL (L.drop k) id k = if x = id then (k : Int) else atL (L.drop (k + 1)) id ((k : Int) + 1) := by
  obtain ⟨h1, h2⟩ := List.getElem?_eq_some_iff.1 h
  rw [List.drop_eq_getElem_cons h1, h2]; rfl
theorem T74 (w0 : World) {g : Nat} {most : Int} {L : List Int} (id : Int) : Tri Tryz.prog w0 74 [ptrTo g, .int .i64 id] [WaitA g most L] fun v m => v = .int .i64 (atL L id 0) ∧ m = [WaitA g most L] := by
  refine tri_of Tryz.func74 rfl rfl fun F => ?_
  simp only [Tryz.ntmps74, argEnv, List.cons_append, List.nil_append]
  refine at_wait fun cs fr hr => ?_
  have h1 := hr.from_
  have h2 := hr.many
  have h3 := hr.lt
  have hle := hr.le
  have h12 := hr.le12
  refine at_seq_k (fun K0 hK0 => ?_)
  refine at_region ?_
  refine at_v (ov_assign rfl rfl) rfl rfl rfl ?_
  refine at_nil ?_
  refine at_normal ?_
  refine hK0 _ _ _ ?_
  refine at_seq_k (fun K1 hK1 => ?_)
  refine at_seq_k (fun K2 hK2 => ?_)
  refine at_region ?_
  refine at_v (ov_move rfl rfl) rfl rfl rfl ?_
  refine at_v (ov_nilCheck rfl rfl) rfl rfl rfl ?_
  refine at_v (ov_fieldAddr (k := 13) (r := 13) rfl rfl rfl rfl) rfl rfl rfl ?_
  refine at_v (ov_load rfl rfl rfl (fun _ s => s.ld (k := 0) rfl (by assumption))) rfl rfl rfl ?_
  refine at_v (ov_move rfl rfl) rfl rfl rfl ?_
  refine at_nil ?_
  refine at_normal ?_
  refine hK2 _ _ _ ?_
  refine at_block ?_
  refine at_loopE [11, 12, 5, 13, 14, 15, 16, 17, 18, 19, 20, 4, 21, 10] (fun k => k ≤ L.length ∧ atL L id 0 = atL (L.drop k) id k) (fun k => [(10, .int .i64 (k : Nat))]) (fun _ l => l) (fun k => L.length - k) 0 ⟨Nat.zero_le _, rfl⟩ ⟨rfl, trivial⟩ (fun _ s => s) ?_
  rintro k ⟨hk, hp⟩
  refine at_seq_k (fun K3 hK3 => ?_)
  refine at_region ?_
  refine at_v (ov_int rfl rfl rfl rfl) rfl rfl rfl ?_
  refine at_nil ?_
  refine at_normal ?_
  refine hK3 _ _ _ ?_
  refine at_seq_k (fun K4 hK4 => ?_)
  refine at_cond rfl (fun hc => ?_) (fun hc => ?_)
  · have hlt : k < L.length := by simpa using hc
    have hget : L[k]? = some L[k] := List.getElem?_eq_getElem hlt
    have hn := hr.has k _ hget
    rw [atL_step hget] at hp
    refine at_skip ?_
    refine at_normal ?_
    refine hK4 _ _ _ ?_
    refine at_seq_k (fun K5 hK5 => ?_)
    refine at_block ?_
    refine at_seq_k (fun K6 hK6 => ?_)
    refine at_region ?_
    refine at_v (ov_move rfl rfl) rfl rfl rfl ?_
    refine at_v (ov_assign rfl rfl) rfl rfl rfl ?_
    refine at_nil ?_
    refine at_normal ?_
    refine hK6 _ _ _ ?_
    refine at_seq_k (fun K7 hK7 => ?_)
    refine at_region ?_
    refine at_v (ov_move rfl rfl) rfl rfl rfl ?_
    refine at_v (ov_move rfl rfl) rfl rfl rfl ?_
    refine at_t (ot_call (ks := [0]) rfl rfl rfl Tryz.call73 rfl (T73 _ (by first | assumption | rfl | omega | decide | (simp; done) | (simp at *; omega)) (by first | assumption | rfl | omega | decide | (simp; done) | (simp at *; omega)) (by first | assumption | rfl | omega | decide | (simp; done) | (simp at *; omega))) rfl) rfl rfl rfl ?_
    rintro v0 _ ⟨m0, hp0, rfl⟩
    obtain ⟨rfl, rfl⟩ := hp0
    simp only [List.cons_append, List.nil_append, splice, spliceL]
    refine at_v (ov_nilCheck rfl rfl) rfl rfl rfl ?_
    refine at_v (ov_load rfl rfl rfl (fun _ s => s.ld (k := 0) rfl (by assumption))) rfl rfl rfl ?_
    refine at_v (ov_move rfl rfl) rfl rfl rfl ?_
    refine at_v (ov_int rfl rfl rfl rfl) rfl rfl rfl ?_
    refine at_nil ?_
    refine at_normal ?_
    refine hK7 _ _ _ ?_
    refine at_cond rfl (fun hd => ?_) (fun hd => ?_)
    · rw [if_pos (by simpa using hd)] at hp
      refine at_seq_k (fun K8 hK8 => ?_)
      refine at_region ?_
      refine at_v (ov_move rfl rfl) rfl rfl rfl ?_
      refine at_v (ov_assign rfl rfl) rfl rfl rfl ?_
      refine at_nil ?_
      refine at_normal ?_
      refine hK8 _ _ _ ?_
      refine at_ret ?_
      refine at_inb_ret ?_
      refine at_then_ret ?_
      refine at_then_ret ?_
      refine at_inb_ret ?_
      refine at_then_ret ?_
      refine at_end ?_
      refine at_fold (A := WaitA g most L) [0] rfl (fun h s => ⟨cs, fr, hr, s⟩) ?_
      refine at_fin (rsV rfl (res_tmp rfl)) ?_
      refine ⟨_, ⟨by rw [hp], rfl⟩, ?_⟩
      exact fun _ s => s.finEq (ks := [0]) (js := []) rfl rfl rfl
    · rw [if_neg (by simpa using hd)] at hp
      refine at_skip ?_
      refine at_inb_normal ?_
      refine at_normal ?_
      refine hK5 _ _ _ ?_
      refine at_region ?_
      refine at_v ((ov_int rfl rfl rfl rfl).eq (congrArg (Value.int .i64) (inK_i64 (by omega) (by omega)))) rfl rfl rfl ?_
      refine at_v (ov_move rfl rfl) rfl rfl rfl ?_
      refine at_nil ?_
      refine at_normal ?_
      refine at_roundF (k + 1) ⟨hlt, by rw [hp]; rfl⟩ (by omega) ⟨rfl, trivial⟩ rfl ?_
      exact fun _ s => s.finEq (ks := [0]) (js := []) rfl rfl rfl
  · have hk2 : k = L.length := by
      have : ¬ k < L.length := by simpa using hc
      omega
    subst hk2
    rw [List.drop_length] at hp
    refine at_exit ?_
    refine at_then_exit ?_
    refine at_then_exit ?_
    refine at_exit_eq ?_
    refine at_normal ?_
    refine hK1 _ _ _ ?_
    refine at_seq_k (fun K5 hK5 => ?_)
    refine at_region ?_
    refine at_v (ov_assign rfl rfl) rfl rfl rfl ?_
    refine at_nil ?_
    refine at_normal ?_
    refine hK5 _ _ _ ?_
    refine at_ret ?_
    refine at_end ?_
    refine at_fold (A := WaitA g most L) [0] rfl (fun h s => ⟨cs, fr, hr, s⟩) ?_
    refine at_fin (rsV rfl (res_tmp rfl)) ?_
    refine ⟨_, ⟨by rw [hp]; rfl, rfl⟩, ?_⟩
    exact fun _ s => s.finEq (ks := [0]) (js := []) rfl rfl rfl
theorem T42 (w0 : World) {g : Nat} {most : Int} {L : List Int} : Tri Tryz.prog w0 42 [ptrTo g] [WaitA g most L] fun v m => ∃ A c, v = .slice A L.length c ∧ m = [Row wE 3 1 A c L, WaitA g most L] := by
  refine tri_of Tryz.func42 rfl rfl fun F => ?_
  simp only [Tryz.ntmps42, argEnv, List.cons_append, List.nil_append]
  refine at_wait fun cs fr hr => ?_
  have h1 := hr.from_
  have h2 := hr.many
  have h3 := hr.lt
  have hle := hr.le
  have h12 := hr.le12
  refine at_seq_k (fun K0 hK0 => ?_)
  refine at_region ?_
  refine at_v (ov_assign rfl rfl) rfl rfl rfl ?_
  refine at_nil ?_
  refine at_normal ?_
  refine hK0 _ _ _ ?_
  refine at_seq_k (fun K1 hK1 => ?_)
  refine at_region ?_
  refine at_v (ov_assign rfl rfl) rfl rfl rfl ?_
  refine at_nil ?_
  refine at_normal ?_
  refine hK1 _ _ _ ?_
  refine at_seq_k (fun K2 hK2 => ?_)
  refine at_seq_k (fun K3 hK3 => ?_)
  refine at_region ?_
  refine at_v (ov_move rfl rfl) rfl rfl rfl ?_
  refine at_v (ov_nilCheck rfl rfl) rfl rfl rfl ?_
  refine at_v (ov_fieldAddr (k := 13) (r := 13) rfl rfl rfl rfl) rfl rfl rfl ?_
  refine at_v (ov_load rfl rfl rfl (fun _ s => s.ld (k := 0) rfl (by assumption))) rfl rfl rfl ?_
  refine at_v (ov_move rfl rfl) rfl rfl rfl ?_
  refine at_nil ?_
  refine at_normal ?_
  refine hK3 _ _ _ ?_
  refine at_block ?_
  refine at_rowNil wE 3 1 ?_
  refine at_loopE [10, 11, 4, 12, 13, 14, 15, 16, 17, 18, 19, 3, 20, 9] (ι := Nat × Option Addr × Nat) (fun i => i.1 ≤ L.length) (fun i => [(9, .int .i64 (i.1 : Nat)), (3, .slice i.2.1 (L.take i.1).length i.2.2)]) (fun i l => setAt 0 (Row wE 3 1 i.2.1 i.2.2 (L.take i.1)) l) (fun i => L.length - i.1) (0, none, 0) (Nat.zero_le _) ⟨rfl, rfl, trivial⟩ (fun _ s => s) ?_
  rintro ⟨k, A, c⟩ hk
  simp only at hk
  simp only [setAt]
  refine at_seq_k (fun K4 hK4 => ?_)
  refine at_region ?_
  refine at_v (ov_int rfl rfl rfl rfl) rfl rfl rfl ?_
  refine at_nil ?_
  refine at_normal ?_
  refine hK4 _ _ _ ?_
  refine at_seq_k (fun K5 hK5 => ?_)
  refine at_cond rfl (fun hc => ?_) (fun hc => ?_)
  · have hlt : k < L.length := by simpa using hc
    have hget : L[k]? = some L[k] := List.getElem?_eq_getElem hlt
    have hn := hr.has k _ hget
    have htk : L.take (k + 1) = L.take k ++ [L[k]] := by rw [List.take_add_one, hget]; rfl
    have hl0 : (L.take k).length ≤ 12 := by rw [List.length_take]; omega
    refine at_skip ?_
    refine at_normal ?_
    refine hK5 _ _ _ ?_
    refine at_seq_k (fun K6 hK6 => ?_)
    refine at_block ?_
    refine at_seq_k (fun K7 hK7 => ?_)
    refine at_region ?_
    refine at_v (ov_move rfl rfl) rfl rfl rfl ?_
    refine at_v (ov_assign rfl rfl) rfl rfl rfl ?_
    refine at_nil ?_
    refine at_normal ?_
    refine hK7 _ _ _ ?_
    refine at_region ?_
    refine at_v (ov_move rfl rfl) rfl rfl rfl ?_
    refine at_v (ov_move rfl rfl) rfl rfl rfl ?_
    refine at_v (ov_move rfl rfl) rfl rfl rfl ?_
    refine at_t (ot_call (ks := [1]) rfl rfl rfl Tryz.call73 rfl (T73 _ (by first | assumption | rfl | omega | decide | (simp; done) | (simp at *; omega)) (by first | assumption | rfl | omega | decide | (simp; done) | (simp at *; omega)) (by first | assumption | rfl | omega | decide | (simp; done) | (simp at *; omega))) rfl) rfl rfl rfl ?_
    rintro v0 _ ⟨m0, hp0, rfl⟩
    obtain ⟨rfl, rfl⟩ := hp0
    simp only [List.cons_append, List.nil_append, splice, spliceL]
    refine at_v (ov_nilCheck rfl rfl) rfl rfl rfl ?_
    refine at_v (ov_load rfl rfl rfl (fun _ s => s.ld (k := 0) rfl (by assumption))) rfl rfl rfl ?_
    refine at_t (ot_buildSlice (cs := [_]) rfl Tryz.underlying45 rfl rfl rfl rfl rfl rfl) rfl rfl rfl ?_
    rintro _ _ ⟨g0, rfl, rfl⟩
    refine at_t (ot_append (k := 2) (size := 1) (bytes := 8) (ys := [L[k]]) (fun _ s => s.rdPt (k := 0) rfl rfl (by simp [wE])) rfl Tryz.underlying45 (ti := Tryz.t3) rfl rfl rfl rfl rfl (by decide) rfl rfl rfl (by simp [wE, Value.oneCell']) (by simp; omega) (by decide)) rfl rfl rfl ?_
    rintro _ _ ⟨A0, c0, rfl, rfl⟩
    simp only [setAt]
    rw [← htk]
    refine at_v (ov_assign rfl rfl) rfl rfl rfl ?_
    refine at_nil ?_
    refine at_inb_normal ?_
    refine at_normal ?_
    refine hK6 _ _ _ ?_
    refine at_region ?_
    refine at_v ((ov_int rfl rfl rfl rfl).eq (congrArg (Value.int .i64) (inK_i64 (by omega) (by omega)))) rfl rfl rfl ?_
    refine at_v (ov_move rfl rfl) rfl rfl rfl ?_
    refine at_nil ?_
    refine at_normal ?_
    refine at_roundF (k + 1, _, _) hlt (by simp only; omega) ⟨rfl, rfl, trivial⟩ rfl ?_
    exact fun _ s => s.finEq (ks := [2, 1]) (js := [0]) rfl rfl rfl
  · have hk2 : k = L.length := by
      have : ¬ k < L.length := by simpa using hc
      omega
    subst hk2
    simp only [List.take_length]
    refine at_exit ?_
    refine at_then_exit ?_
    refine at_then_exit ?_
    refine at_exit_eq ?_
    refine at_normal ?_
    refine hK2 _ _ _ ?_
    refine at_seq_k (fun K6 hK6 => ?_)
    refine at_region ?_
    refine at_v (ov_move rfl rfl) rfl rfl rfl ?_
    refine at_v (ov_assign rfl rfl) rfl rfl rfl ?_
    refine at_nil ?_
    refine at_normal ?_
    refine hK6 _ _ _ ?_
    refine at_ret ?_
    refine at_end ?_
    refine at_fold (A := WaitA g most L) [1] rfl (fun h s => ⟨cs, fr, hr, s⟩) ?_
    refine at_fin (rsV rfl (res_tmp rfl)) ?_
    refine ⟨_, ⟨_, _, rfl, rfl⟩, ?_⟩
    exact fun _ s => s.finEq (ks := [1, 0]) (js := []) rfl rfl rfl
theorem T45 (w0 : World) {g : Nat} {most : Int} {L : List Int} (id : Int) : Tri Tryz.prog w0 45 [ptrTo g, .int .i64 id] [WaitA g most L] fun v m =>
    v = .int .i64 (if atL L id 0 ≠ -1 then 7 else if (L.length : Int) = most then 5 else 0) ∧ m = [WaitA g most (if atL L id 0 = -1 ∧ (L.length : Int) ≠ most then L ++ [id] else L)] := by
  refine tri_of Tryz.func45 rfl rfl fun F => ?_
  simp only [Tryz.ntmps45, argEnv, List.cons_append, List.nil_append]
  by_cases hi1 : atL L id 0 = -1
  · by_cases hi2 : (L.length : Int) = most
    · rw [if_neg (by simp [hi1]), if_pos hi2, if_neg (by simp [hi2])]
      refine at_seq_k (fun K0 hK0 => ?_)
      refine at_region ?_
      refine at_v (ov_assign rfl rfl) rfl rfl rfl ?_
      refine at_nil ?_
      refine at_normal ?_
      refine hK0 _ _ _ ?_
      refine at_seq_k (fun K1 hK1 => ?_)
      refine at_block ?_
      refine at_seq_k (fun K2 hK2 => ?_)
      refine at_region ?_
      refine at_v (ov_move rfl rfl) rfl rfl rfl ?_
      refine at_v (ov_move rfl rfl) rfl rfl rfl ?_
      refine at_t (ot_call (ks := [0]) rfl rfl rfl Tryz.call74 rfl (T74 _ _) rfl) rfl rfl rfl ?_
      rintro v0 _ ⟨m0, hp0, rfl⟩
      obtain ⟨rfl, rfl⟩ := hp0
      simp only [List.cons_append, List.nil_append, splice, spliceL]
      refine at_v (ov_int rfl rfl rfl rfl) rfl rfl rfl ?_
      refine at_v (ov_assign rfl rfl) rfl rfl rfl ?_
      refine at_nil ?_
      refine at_normal ?_
      refine hK2 _ _ _ ?_
      refine at_cond_false (congrArg (fun b => some (Value.bool b)) (show _ = false from by first | assumption | (rw [Bool.not_eq_false']; exact decide_eq_true (by omega)))) ?_
      refine at_seq_k (fun K3 hK3 => ?_)
      refine at_wait fun cs fr hr => ?_
      have h1 := hr.from_
      have h2 := hr.many
      have h3 := hr.most_
      refine at_draw _ [] 1000 [(2, 0), (2, 1), (2, 2), (1, 3), (2, 4), (2, 5), (2, 6), (1, 7), (2, 8), (2, 9)] (by kernel_rfl) (by kernel_rfl) (fun _ s => (s.pulls (ks := [0]) rfl).left) ?_
      refine aq_p (ov_move rfl rfl) rfl rfl rfl ?_
      refine aq_p (ov_nilCheck rfl rfl) rfl rfl rfl ?_
      refine aq_p (ov_fieldAddr (k := 13) (r := 13) rfl rfl rfl rfl) rfl rfl rfl ?_
      refine aq_v (ov_load rfl rfl rfl (fun _ s => s.ld (k := 0) rfl (by assumption))) rfl rfl rfl ?_
      refine aq_p (ov_move rfl rfl) rfl rfl rfl ?_
      refine aq_p (ov_nilCheck rfl rfl) rfl rfl rfl ?_
      refine aq_p (ov_fieldAddr (k := 14) (r := 14) rfl rfl rfl rfl) rfl rfl rfl ?_
      refine aq_v (ov_load rfl rfl rfl (fun _ s => s.ld (k := 0) rfl (by assumption))) rfl rfl rfl ?_
      refine aq_p (ov_int rfl rfl rfl rfl) rfl rfl rfl ?_
      refine aq_p (ov_assign rfl rfl) rfl rfl rfl ?_
      refine aq_nil ?_
      refine at_normal ?_
      refine hK3 _ _ _ ?_
      refine at_cond_true (congrArg (fun b => some (Value.bool b)) (show _ = true from decide_eq_true (by omega))) ?_
      refine at_seq_k (fun K4 hK4 => ?_)
      refine at_region ?_
      refine at_v (ov_assign rfl rfl) rfl rfl rfl ?_
      refine at_nil ?_
      refine at_normal ?_
      refine hK4 _ _ _ ?_
      refine at_ret ?_
      refine at_inb_ret ?_
      refine at_then_ret ?_
      refine at_end ?_
      refine at_fold (A := WaitA g most L) [0] rfl (fun h s => ⟨cs, fr, hr, s⟩) ?_
      refine at_fin (rsV rfl (res_tmp rfl)) ?_
      refine ⟨_, ⟨rfl, rfl⟩, ?_⟩
      exact fun _ s => s.finEq (ks := [0]) (js := []) rfl rfl rfl
    · rw [if_neg (by simp [hi1]), if_neg hi2, if_pos ⟨hi1, hi2⟩]
      refine at_seq_k (fun K0 hK0 => ?_)
      refine at_region ?_
      refine at_v (ov_assign rfl rfl) rfl rfl rfl ?_
      refine at_nil ?_
      refine at_normal ?_
      refine hK0 _ _ _ ?_
      refine at_seq_k (fun K1 hK1 => ?_)
      refine at_block ?_
      refine at_seq_k (fun K2 hK2 => ?_)
      refine at_region ?_
      refine at_v (ov_move rfl rfl) rfl rfl rfl ?_
      refine at_v (ov_move rfl rfl) rfl rfl rfl ?_
      refine at_t (ot_call (ks := [0]) rfl rfl rfl Tryz.call74 rfl (T74 _ _) rfl) rfl rfl rfl ?_
      rintro v0 _ ⟨m0, hp0, rfl⟩
      obtain ⟨rfl, rfl⟩ := hp0
      simp only [List.cons_append, List.nil_append, splice, spliceL]
      refine at_v (ov_int rfl rfl rfl rfl) rfl rfl rfl ?_
      refine at_v (ov_assign rfl rfl) rfl rfl rfl ?_
      refine at_nil ?_
      refine at_normal ?_
      refine hK2 _ _ _ ?_
      refine at_cond_false (congrArg (fun b => some (Value.bool b)) (show _ = false from by first | assumption | (rw [Bool.not_eq_false']; exact decide_eq_true (by omega)))) ?_
      refine at_seq_k (fun K3 hK3 => ?_)
      refine at_wait fun cs fr hr => ?_
      have h1 := hr.from_
      have h2 := hr.many
      have h3 := hr.most_
      have h4 := hr.lt
      have hsz := hr.size
      have hle := hr.le
      have h12 := hr.le12
      have hput := hr.put_ (x := id) (by omega)
      have h5 : nth 13 (splice cs ((fr + L.length) % 12) [.int .i64 id]).toList = some (.int .i64 (L.length : Nat)) := by rw [nth_splice1, if_neg (by omega)]; exact h2
      refine at_draw _ [] 1000 [(2, 0), (2, 1), (2, 2), (1, 3), (2, 4), (2, 5), (2, 6), (1, 7), (2, 8), (2, 9)] (by kernel_rfl) (by kernel_rfl) (fun _ s => (s.pulls (ks := [0]) rfl).left) ?_
      refine aq_p (ov_move rfl rfl) rfl rfl rfl ?_
      refine aq_p (ov_nilCheck rfl rfl) rfl rfl rfl ?_
      refine aq_p (ov_fieldAddr (k := 13) (r := 13) rfl rfl rfl rfl) rfl rfl rfl ?_
      refine aq_v (ov_load rfl rfl rfl (fun _ s => s.ld (k := 0) rfl (by assumption))) rfl rfl rfl ?_
      refine aq_p (ov_move rfl rfl) rfl rfl rfl ?_
      refine aq_p (ov_nilCheck rfl rfl) rfl rfl rfl ?_
      refine aq_p (ov_fieldAddr (k := 14) (r := 14) rfl rfl rfl rfl) rfl rfl rfl ?_
      refine aq_v (ov_load rfl rfl rfl (fun _ s => s.ld (k := 0) rfl (by assumption))) rfl rfl rfl ?_
      refine aq_p (ov_int rfl rfl rfl rfl) rfl rfl rfl ?_
      refine aq_p (ov_assign rfl rfl) rfl rfl rfl ?_
      refine aq_nil ?_
      refine at_normal ?_
      refine hK3 _ _ _ ?_
      refine at_cond_false (congrArg (fun b => some (Value.bool b)) (show _ = false from decide_eq_false (by omega))) ?_
      refine at_skip ?_
      refine at_inb_normal ?_
      refine at_normal ?_
      refine hK1 _ _ _ ?_
      refine at_seq_k (fun K4 hK4 => ?_)
      refine at_region ?_
      refine at_v (ov_move rfl rfl) rfl rfl rfl ?_
      refine at_v (ov_move rfl rfl) rfl rfl rfl ?_
      refine at_v (ov_nilCheck rfl rfl) rfl rfl rfl ?_
      refine at_v (ov_fieldAddr (k := 13) (r := 13) rfl rfl rfl rfl) rfl rfl rfl ?_
      refine at_v (ov_load rfl rfl rfl (fun _ s => s.ld (k := 0) rfl (by assumption))) rfl rfl rfl ?_
      refine at_t (ot_call (ks := [0]) rfl rfl rfl Tryz.call73 rfl (T73 _ (by first | assumption | rfl | omega | decide | (simp; done) | (simp at *; omega)) (by first | assumption | rfl | omega | decide | (simp; done) | (simp at *; omega)) (by first | assumption | rfl | omega | decide | (simp; done) | (simp at *; omega))) rfl) rfl rfl rfl ?_
      rintro v0 _ ⟨m0, hp0, rfl⟩
      obtain ⟨rfl, rfl⟩ := hp0
      simp only [List.cons_append, List.nil_append, splice, spliceL]
      refine at_v (ov_move rfl rfl) rfl rfl rfl ?_
      refine at_v (ov_nilCheck rfl rfl) rfl rfl rfl ?_
      refine at_t0 (ot_storeA (k := 0) rfl rfl rfl rfl rfl (by simp only [Value.cells, List.size_toArray, List.length_cons, List.length_nil, size_splice1]; omega) rfl) rfl rfl ?_
      rintro _ _ ⟨rfl, rfl⟩
      simp only [setAt, Value.cells]
      refine at_nil ?_
      refine at_normal ?_
      refine hK4 _ _ _ ?_
      refine at_seq_k (fun K5 hK5 => ?_)
      refine at_region ?_
      refine at_v (ov_move rfl rfl) rfl rfl rfl ?_
      refine at_v (ov_nilCheck rfl rfl) rfl rfl rfl ?_
      refine at_v (ov_fieldAddr (k := 13) (r := 13) rfl rfl rfl rfl) rfl rfl rfl ?_
      refine at_v (ov_load rfl rfl rfl (fun _ s => s.ld (k := 0) rfl (by assumption))) rfl rfl rfl ?_
      refine at_v ((ov_int rfl rfl rfl rfl).eq (congrArg (Value.int .i64) (inK_i64 (by omega) (by omega)))) rfl rfl rfl ?_
      refine at_v (ov_nilCheck rfl rfl) rfl rfl rfl ?_
      refine at_v (ov_fieldAddr (k := 13) (r := 13) rfl rfl rfl rfl) rfl rfl rfl ?_
      refine at_t0 (ot_storeA (k := 0) rfl rfl rfl rfl rfl (by simp only [Value.cells, List.size_toArray, List.length_cons, List.length_nil, size_splice1]; omega) rfl) rfl rfl ?_
      rintro _ _ ⟨rfl, rfl⟩
      simp only [setAt, Value.cells]
      refine at_nil ?_
      refine at_normal ?_
      refine hK5 _ _ _ ?_
      refine at_seq_k (fun K6 hK6 => ?_)
      refine at_region ?_
      refine at_v (ov_assign rfl rfl) rfl rfl rfl ?_
      refine at_nil ?_
      refine at_normal ?_
      refine hK6 _ _ _ ?_
      refine at_ret ?_
      refine at_end ?_
      refine at_fold (A := WaitA g most (L ++ [id])) [0] rfl (fun h s => ⟨_, fr, hput, s⟩) ?_
      refine at_fin (rsV rfl (res_tmp rfl)) ?_
      refine ⟨_, ⟨rfl, rfl⟩, ?_⟩
      exact fun _ s => s.finEq (ks := [0]) (js := []) rfl rfl rfl
  · rw [if_pos hi1, if_neg (fun h => hi1 h.1)]
    refine at_seq_k (fun K0 hK0 => ?_)
    refine at_region ?_
    refine at_v (ov_assign rfl rfl) rfl rfl rfl ?_
    refine at_nil ?_
    refine at_normal ?_
    refine hK0 _ _ _ ?_
    refine at_seq_k (fun K1 hK1 => ?_)
    refine at_block ?_
    refine at_seq_k (fun K2 hK2 => ?_)
    refine at_region ?_
    refine at_v (ov_move rfl rfl) rfl rfl rfl ?_
    refine at_v (ov_move rfl rfl) rfl rfl rfl ?_
    refine at_t (ot_call (ks := [0]) rfl rfl rfl Tryz.call74 rfl (T74 _ _) rfl) rfl rfl rfl ?_
    rintro v0 _ ⟨m0, hp0, rfl⟩
    obtain ⟨rfl, rfl⟩ := hp0
    simp only [List.cons_append, List.nil_append, splice, spliceL]
    refine at_v (ov_int rfl rfl rfl rfl) rfl rfl rfl ?_
    refine at_v (ov_assign rfl rfl) rfl rfl rfl ?_
    refine at_nil ?_
    refine at_normal ?_
    refine hK2 _ _ _ ?_
    refine at_cond_true (congrArg (fun b => some (Value.bool b)) (show _ = true from by first | assumption | (rw [Bool.not_eq_true']; exact decide_eq_false (by omega)))) ?_
    refine at_seq_k (fun K3 hK3 => ?_)
    refine at_region ?_
    refine at_v (ov_assign rfl rfl) rfl rfl rfl ?_
    refine at_nil ?_
    refine at_normal ?_
    refine hK3 _ _ _ ?_
    refine at_ret ?_
    refine at_inb_ret ?_
    refine at_then_ret ?_
    refine at_end ?_
    refine at_fin (rsV rfl (res_tmp rfl)) ?_
    refine ⟨_, ⟨rfl, rfl⟩, ?_⟩
    exact fun _ s => s.finEq (ks := [0]) (js := []) rfl rfl rfl
theorem T51 (w0 : World) {g : Nat} {most : Int} {x : Int} {L : List Int} : Tri Tryz.prog w0 51 [ptrTo g] [WaitA g most (x :: L)] fun v m => v = .tuple #[.int .i64 x, .bool true] ∧ m = [WaitA g most L] := by
  refine tri_of Tryz.func51 rfl rfl fun F => ?_
  simp only [Tryz.ntmps51, argEnv, List.cons_append, List.nil_append]
  refine at_wait fun cs fr hr => ?_
  have h1 := hr.from_
  have h2 := hr.many
  have h4 := hr.lt
  have hsz := hr.size
  have hle := hr.le
  have h12 := hr.le12
  have h0 := hr.has 0 x rfl
  have htk := hr.take_
  rw [List.length_cons] at h2 hle
  have hm0 : (((fr : Int) + 1).tmod 12) = (((fr + 1) % 12 : Nat) : Int) := by rw [Int.tmod_eq_emod_of_nonneg (by omega)]; omega
  have h5 : nth 13 (splice cs 12 [.int .i64 (((fr : Int) + 1).tmod 12)]).toList = some (.int .i64 ((L.length + 1 : Nat) : Int)) := by rw [nth_splice1, if_neg (by omega)]; exact h2
  refine at_seq_k (fun K0 hK0 => ?_)
  refine at_region ?_
  refine at_v (ov_assign rfl rfl) rfl rfl rfl ?_
  refine at_v (ov_assign rfl rfl) rfl rfl rfl ?_
  refine at_nil ?_
  refine at_normal ?_
  refine hK0 _ _ _ ?_
  refine at_seq_k (fun K1 hK1 => ?_)
  refine at_seq_k (fun K2 hK2 => ?_)
  refine at_region ?_
  refine at_v (ov_move rfl rfl) rfl rfl rfl ?_
  refine at_v (ov_nilCheck rfl rfl) rfl rfl rfl ?_
  refine at_v (ov_fieldAddr (k := 13) (r := 13) rfl rfl rfl rfl) rfl rfl rfl ?_
  refine at_v (ov_load rfl rfl rfl (fun _ s => s.ld (k := 0) rfl (by assumption))) rfl rfl rfl ?_
  refine at_v (ov_int rfl rfl rfl rfl) rfl rfl rfl ?_
  refine at_nil ?_
  refine at_normal ?_
  refine hK2 _ _ _ ?_
  refine at_cond_false rfl ?_
  refine at_skip ?_
  refine at_normal ?_
  refine hK1 _ _ _ ?_
  refine at_seq_k (fun K3 hK3 => ?_)
  refine at_region ?_
  refine at_v (ov_move rfl rfl) rfl rfl rfl ?_
  refine at_t (ot_call (ks := [0]) rfl rfl rfl Tryz.call73 rfl (T73 _ (by first | assumption | rfl | omega | decide | (simp; done) | (simp at *; omega)) (by first | assumption | rfl | omega | decide | (simp; done) | (simp at *; omega)) (by first | assumption | rfl | omega | decide | (simp; done) | (simp at *; omega))) rfl) rfl rfl rfl ?_
  rintro v0 _ ⟨m0, hp0, rfl⟩
  obtain ⟨rfl, rfl⟩ := hp0
  simp only [List.cons_append, List.nil_append, splice, spliceL]
  refine at_v (ov_nilCheck rfl rfl) rfl rfl rfl ?_
  refine at_v (ov_load rfl rfl rfl (fun _ s => s.ld (k := 0) rfl (by assumption))) rfl rfl rfl ?_
  refine at_v (ov_assign rfl rfl) rfl rfl rfl ?_
  refine at_nil ?_
  refine at_normal ?_
  refine hK3 _ _ _ ?_
  refine at_seq_k (fun K4 hK4 => ?_)
  refine at_region ?_
  refine at_v (ov_move rfl rfl) rfl rfl rfl ?_
  refine at_v (ov_move rfl rfl) rfl rfl rfl ?_
  refine at_v (ov_nilCheck rfl rfl) rfl rfl rfl ?_
  refine at_v (ov_fieldAddr (k := 12) (r := 12) rfl rfl rfl rfl) rfl rfl rfl ?_
  refine at_v (ov_load rfl rfl rfl (fun _ s => s.ld (k := 0) rfl (by assumption))) rfl rfl rfl ?_
  refine at_v ((ov_int rfl rfl rfl rfl).eq (congrArg (Value.int .i64) (inK_i64 (by omega) (by omega)))) rfl rfl rfl ?_
  refine at_v (ov_rem rfl rfl rfl (by omega)) rfl rfl rfl ?_
  refine at_v (ov_nilCheck rfl rfl) rfl rfl rfl ?_
  refine at_v (ov_fieldAddr (k := 12) (r := 12) rfl rfl rfl rfl) rfl rfl rfl ?_
  refine at_t0 (ot_storeA (k := 0) rfl rfl rfl rfl rfl (by simp only [Value.cells, List.size_toArray, List.length_cons, List.length_nil, size_splice1]; omega) rfl) rfl rfl ?_
  rintro _ _ ⟨rfl, rfl⟩
  simp only [setAt, Value.cells]
  refine at_nil ?_
  refine at_normal ?_
  refine hK4 _ _ _ ?_
  refine at_seq_k (fun K5 hK5 => ?_)
  refine at_region ?_
  refine at_v (ov_move rfl rfl) rfl rfl rfl ?_
  refine at_v (ov_nilCheck rfl rfl) rfl rfl rfl ?_
  refine at_v (ov_fieldAddr (k := 13) (r := 13) rfl rfl rfl rfl) rfl rfl rfl ?_
  refine at_v (ov_load rfl rfl rfl (fun _ s => s.ld (k := 0) rfl (by assumption))) rfl rfl rfl ?_
  refine at_v ((ov_int rfl rfl rfl rfl).eq (congrArg (Value.int .i64) (inK_i64 (by omega) (by omega)))) rfl rfl rfl ?_
  refine at_v (ov_nilCheck rfl rfl) rfl rfl rfl ?_
  refine at_v (ov_fieldAddr (k := 13) (r := 13) rfl rfl rfl rfl) rfl rfl rfl ?_
  refine at_t0 (ot_storeA (k := 0) rfl rfl rfl rfl rfl (by simp only [Value.cells, List.size_toArray, List.length_cons, List.length_nil, size_splice1]; omega) rfl) rfl rfl ?_
  rintro _ _ ⟨rfl, rfl⟩
  simp only [setAt, Value.cells]
  refine at_nil ?_
  refine at_normal ?_
  refine hK5 _ _ _ ?_
  refine at_seq_k (fun K6 hK6 => ?_)
  refine at_region ?_
  refine at_v (ov_move rfl rfl) rfl rfl rfl ?_
  refine at_v (ov_assign rfl rfl) rfl rfl rfl ?_
  refine at_v (ov_assign rfl rfl) rfl rfl rfl ?_
  refine at_nil ?_
  refine at_normal ?_
  refine hK6 _ _ _ ?_
  refine at_ret ?_
  refine at_end ?_
  rw [hm0, show ((L.length + 1 : Nat) : Int) - 1 = (L.length : Nat) by omega]
  refine at_fold (A := WaitA g most L) [0] rfl (fun h s => ⟨_, _, htk, s⟩) ?_
  refine at_fin (rsL (vs := [_, _]) rfl ⟨res_tmp rfl, res_tmp rfl, trivial⟩ rfl) ?_
  refine ⟨_, ⟨rfl, rfl⟩, ?_⟩
  exact fun _ s => s.finEq (ks := [0]) (js := []) rfl rfl rfl
def dropL (L : List Int) (i : Nat) : List Int := L.eraseIdx i
/-- What the cells bear when the places up to k have been moved. -/
def dropK (L : List Int) (i k : Nat) : List Int := (L.eraseIdx i).take k ++ L.drop k
theorem dropK_len {L : List Int} {i k : Nat} (hi : i < L.length) (hk : k < L.length) : (dropK L i k).length = L.length := by
  simp [dropK, List.length_eraseIdx, hi]; omega
theorem dropK_start {L : List Int} {i : Nat} (hi : i < L.length) : dropK L i i = L := by
  refine List.ext_getElem? fun q => ?_
  unfold dropK
  rcases Nat.lt_or_ge q i with h | h
  · rw [List.getElem?_append_left (by simp [List.length_eraseIdx, hi]; omega), List.getElem?_take, if_pos h, List.getElem?_eraseIdx, if_pos h]
  · rw [List.getElem?_append_right (by simp [List.length_eraseIdx, hi]; omega)]
    simp [List.length_eraseIdx, hi]
    congr 1; omega
theorem dropK_step {L : List Int} {i k : Nat} {y : Int} (hi : i ≤ k) (hy : L[k + 1]? = some y) : (dropK L i k).set k y = dropK L i (k + 1) := by
  have hlt : k + 1 < L.length := (List.getElem?_eq_some_iff.1 hy).1
  have hl : ((L.eraseIdx i).take k).length = k := by simp [List.length_eraseIdx]; split <;> omega
  unfold dropK
  rw [List.set_append_right _ _ (by omega), hl, Nat.sub_self, List.drop_eq_getElem_cons (show k < L.length by omega), List.set_cons_zero, List.take_add_one, List.getElem?_eraseIdx, if_neg (by omega), hy]
  simp
theorem dropK_get {L : List Int} {i k : Nat} {y : Int} (hi : i < L.length) (hk : k < L.length) (hy : L[k + 1]? = some y) : (dropK L i k)[k + 1]? = some y := by
  unfold dropK
  rw [List.getElem?_append_right (by simp [List.length_eraseIdx, hi]; omega)]
  simp [List.length_eraseIdx, hi]
  rw [show k + (k + 1 - min k (L.length - 1)) = k + 1 by omega, hy]
theorem atL_spec : ∀ (L : List Int) (id i : Int), 0 ≤ i → (atL L id i = -1 ∧ id ∉ L) ∨ ∃ k : Nat, atL L id i = i + k ∧ L[k]? = some id
  | [], _, _, _ => .inl ⟨rfl, by simp⟩
  | x :: r, id, i, hi => by
    unfold atL
    by_cases h : x = id
    · rw [if_pos h]; exact .inr ⟨0, by simp, by simp [h]⟩
    · rw [if_neg h]
      rcases atL_spec r id (i + 1) (by omega) with ⟨h1, h2⟩ | ⟨k, h1, h2⟩
      · exact .inl ⟨h1, by simp [h2]; exact fun e => h e.symm⟩
      · exact .inr ⟨k + 1, by rw [h1]; omega, by simpa using h2⟩
def dropW (L : List Int) (id : Int) : List Int := if atL L id 0 = -1 then L else L.eraseIdx (atL L id 0).toNat
theorem T52 (w0 : World) {g : Nat} {most : Int} {L : List Int} (id : Int) : Tri Tryz.prog w0 52 [ptrTo g, .int .i64 id] [WaitA g most L] fun v m => v = .bool (!decide (atL L id 0 = -1)) ∧ m = [WaitA g most (dropW L id)] := by
  refine tri_of Tryz.func52 rfl rfl fun F => ?_
  simp only [Tryz.ntmps52, argEnv, List.cons_append, List.nil_append]
  by_cases hi1 : atL L id 0 = -1
  · rw [show dropW L id = L from if_pos hi1]
    refine at_seq_k (fun K0 hK0 => ?_)
    refine at_region ?_
    refine at_v (ov_assign rfl rfl) rfl rfl rfl ?_
    refine at_nil ?_
    refine at_normal ?_
    refine hK0 _ _ _ ?_
    refine at_seq_k (fun K1 hK1 => ?_)
    refine at_region ?_
    refine at_v (ov_move rfl rfl) rfl rfl rfl ?_
    refine at_v (ov_move rfl rfl) rfl rfl rfl ?_
    refine at_t (ot_call (ks := [0]) rfl rfl rfl Tryz.call74 rfl (T74 _ _) rfl) rfl rfl rfl ?_
    rintro v0 _ ⟨m0, hp0, rfl⟩
    obtain ⟨rfl, rfl⟩ := hp0
    simp only [List.cons_append, List.nil_append, splice, spliceL]
    refine at_v (ov_assign rfl rfl) rfl rfl rfl ?_
    refine at_nil ?_
    refine at_normal ?_
    refine hK1 _ _ _ ?_
    refine at_seq_k (fun K2 hK2 => ?_)
    refine at_seq_k (fun K3 hK3 => ?_)
    refine at_region ?_
    refine at_v (ov_move rfl rfl) rfl rfl rfl ?_
    refine at_v (ov_int rfl rfl rfl rfl) rfl rfl rfl ?_
    refine at_nil ?_
    refine at_normal ?_
    refine hK3 _ _ _ ?_
    refine at_cond_true (congrArg (fun b => some (Value.bool b)) (show _ = true from decide_eq_true (by omega))) ?_
    refine at_seq_k (fun K4 hK4 => ?_)
    refine at_region ?_
    refine at_v (ov_assign rfl rfl) rfl rfl rfl ?_
    refine at_nil ?_
    refine at_normal ?_
    refine hK4 _ _ _ ?_
    refine at_ret ?_
    refine at_then_ret ?_
    refine at_end ?_
    refine at_fin (rsV rfl (res_tmp rfl)) ?_
    refine ⟨_, ⟨by simp [hi1], rfl⟩, ?_⟩
    exact fun _ s => s.finEq (ks := [0]) (js := []) rfl rfl rfl
  · obtain ⟨i, hi2, hget⟩ := (atL_spec L id 0 (by omega)).resolve_left fun h => hi1 h.1
    rw [Int.zero_add] at hi2
    have hlt : i < L.length := (List.getElem?_eq_some_iff.1 hget).1
    rw [show dropW L id = L.eraseIdx i by unfold dropW; rw [if_neg hi1, hi2]; rfl]
    have hcall : Tri Tryz.prog w0 74 [ptrTo g, .int .i64 id] [WaitA g most L] fun v m => v = .int .i64 (i : Nat) ∧ m = [WaitA g most L] := by
      rw [← hi2]; exact T74 w0 id
    refine at_wait fun cs0 fr0 hr0 => ?_
    have hle := hr0.le
    have h12 := hr0.le12
    refine at_fold (A := WaitA g most L) [0] rfl (fun h s => ⟨cs0, fr0, hr0, s⟩) ?_
    refine at_seq_k (fun K0 hK0 => ?_)
    refine at_region ?_
    refine at_v (ov_assign rfl rfl) rfl rfl rfl ?_
    refine at_nil ?_
    refine at_normal ?_
    refine hK0 _ _ _ ?_
    refine at_seq_k (fun K1 hK1 => ?_)
    refine at_region ?_
    refine at_v (ov_move rfl rfl) rfl rfl rfl ?_
    refine at_v (ov_move rfl rfl) rfl rfl rfl ?_
    refine at_t (ot_call (ks := [0]) rfl rfl rfl Tryz.call74 rfl (hcall ) rfl) rfl rfl rfl ?_
    rintro v0 _ ⟨m0, hp0, rfl⟩
    obtain ⟨rfl, rfl⟩ := hp0
    simp only [List.cons_append, List.nil_append, splice, spliceL]
    refine at_v (ov_assign rfl rfl) rfl rfl rfl ?_
    refine at_nil ?_
    refine at_normal ?_
    refine hK1 _ _ _ ?_
    refine at_seq_k (fun K2 hK2 => ?_)
    refine at_seq_k (fun K3 hK3 => ?_)
    refine at_region ?_
    refine at_v (ov_move rfl rfl) rfl rfl rfl ?_
    refine at_v (ov_int rfl rfl rfl rfl) rfl rfl rfl ?_
    refine at_nil ?_
    refine at_normal ?_
    refine hK3 _ _ _ ?_
    refine at_cond_false rfl ?_
    refine at_skip ?_
    refine at_normal ?_
    refine hK2 _ _ _ ?_
    refine at_seq_k (fun K4 hK4 => ?_)
    refine at_seq_k (fun K5 hK5 => ?_)
    refine at_region ?_
    refine at_v (ov_move rfl rfl) rfl rfl rfl ?_
    refine at_v ((ov_int rfl rfl rfl rfl).eq (congrArg (Value.int .i64) (inK_i64 (by omega) (by omega)))) rfl rfl rfl ?_
    refine at_v (ov_assign rfl rfl) rfl rfl rfl ?_
    refine at_nil ?_
    refine at_normal ?_
    refine hK5 _ _ _ ?_
    refine at_block ?_
    refine at_wait fun cs fr hr => ?_
    have hr1 : Ring cs fr most (dropK L i i) := by rw [dropK_start hlt]; exact hr
    clear hr hr0
    refine at_loopE [14, 15, 16, 17, 18, 19, 22, 23, 24, 25, 26, 27, 28, 29, 30, 31, 20, 21, 6] (ι := Array Value × Nat) (fun q => i ≤ q.2 ∧ q.2 < L.length ∧ Ring q.1 fr most (dropK L i q.2)) (fun q => [(6, .int .i64 ((q.2 + 1 : Nat) : Int))]) (fun q m => setAt 0 (cl g q.1 101) m) (fun q => L.length - q.2) (cs, i) ⟨Nat.le_refl _, hlt, hr1⟩ ⟨look_eq rfl (by simp), trivial⟩ (fun _ s => s) ?_
    rintro ⟨cs1, k⟩ ⟨hik, hkl, hr⟩
    simp only at hik hkl hr
    simp only [setAt]
    have h1 := hr.from_
    have h2 := hr.many
    rw [dropK_len hlt hkl] at h2
    have h4 := hr.lt
    have hsz := hr.size
    refine at_seq_k (fun K6 hK6 => ?_)
    refine at_seq_k (fun K7 hK7 => ?_)
    refine at_region ?_
    refine at_v (ov_move rfl rfl) rfl rfl rfl ?_
    refine at_v (ov_move rfl rfl) rfl rfl rfl ?_
    refine at_v (ov_nilCheck rfl rfl) rfl rfl rfl ?_
    refine at_v (ov_fieldAddr (k := 13) (r := 13) rfl rfl rfl rfl) rfl rfl rfl ?_
    refine at_v (ov_load rfl rfl rfl (fun _ s => s.ld (k := 0) rfl (by assumption))) rfl rfl rfl ?_
    refine at_v (ov_int rfl rfl rfl rfl) rfl rfl rfl ?_
    refine at_nil ?_
    refine at_normal ?_
    refine hK7 _ _ _ ?_
    refine at_cond rfl (fun hc => ?_) (fun hc => ?_)
    · have hlt2 : k + 1 < L.length := by have := of_decide_eq_true hc
                                         omega
      have hget2 : L[k + 1]? = some L[k + 1] := List.getElem?_eq_getElem hlt2
      have hg := hr.has (k + 1) _ (dropK_get hlt hkl hget2)
      have hmv := hr.move_ (k := k) (y := L[k + 1]) (by rw [dropK_len hlt hkl]; exact hkl)
      rw [dropK_step hik hget2] at hmv
      have hat := T73 w0 (g := g) (i := k) h1 h4 (by omega)
      have hat2 := T73 w0 (g := g) (i := k + 1) h1 h4 (by omega)
      rw [show ((k : Nat) : Int) = ((k + 1 : Nat) : Int) - 1 by omega] at hat
      refine at_skip ?_
      refine at_normal ?_
      refine hK6 _ _ _ ?_
      refine at_seq_k (fun K8 hK8 => ?_)
      refine at_block ?_
      refine at_region ?_
      refine at_v (ov_move rfl rfl) rfl rfl rfl ?_
      refine at_v (ov_move rfl rfl) rfl rfl rfl ?_
      refine at_v ((ov_int rfl rfl rfl rfl).eq (congrArg (Value.int .i64) (inK_i64 (by omega) (by omega)))) rfl rfl rfl ?_
      refine at_t (ot_call (ks := [0]) rfl rfl rfl Tryz.call73 rfl (hat ) rfl) rfl rfl rfl ?_
      rintro v0 _ ⟨m0, hp0, rfl⟩
      obtain ⟨rfl, rfl⟩ := hp0
      simp only [List.cons_append, List.nil_append, splice, spliceL]
      refine at_v (ov_move rfl rfl) rfl rfl rfl ?_
      refine at_v (ov_move rfl rfl) rfl rfl rfl ?_
      refine at_t (ot_call (ks := [0]) rfl rfl rfl Tryz.call73 rfl (hat2 ) rfl) rfl rfl rfl ?_
      rintro v0 _ ⟨m0, hp0, rfl⟩
      obtain ⟨rfl, rfl⟩ := hp0
      simp only [List.cons_append, List.nil_append, splice, spliceL]
      refine at_v (ov_nilCheck rfl rfl) rfl rfl rfl ?_
      refine at_v (ov_load rfl rfl rfl (fun _ s => s.ld (k := 0) rfl (by assumption))) rfl rfl rfl ?_
      refine at_v (ov_nilCheck rfl rfl) rfl rfl rfl ?_
      refine at_t0 (ot_storeA (k := 0) rfl rfl rfl rfl rfl (by simp only [Value.cells, List.size_toArray, List.length_cons, List.length_nil, size_splice1]; omega) rfl) rfl rfl ?_
      rintro _ _ ⟨rfl, rfl⟩
      simp only [setAt, Value.cells]
      refine at_nil ?_
      refine at_inb_normal ?_
      refine at_normal ?_
      refine hK8 _ _ _ ?_
      refine at_region ?_
      refine at_v (ov_move rfl rfl) rfl rfl rfl ?_
      refine at_v ((ov_int rfl rfl rfl rfl).eq (congrArg (Value.int .i64) (inK_i64 (by omega) (by omega)))) rfl rfl rfl ?_
      refine at_v (ov_assign rfl rfl) rfl rfl rfl ?_
      refine at_nil ?_
      refine at_normal ?_
      refine at_roundF (splice cs1 ((fr + k) % 12) [.int .i64 L[k + 1]], k + 1) ⟨by simp only; omega, hlt2, hmv⟩ (by simp only; omega) ⟨look_eq rfl (congrArg (Value.int .i64) (by simp only; omega)), trivial⟩ rfl ?_
      exact fun _ s => s.finEq (ks := [0]) (js := []) rfl rfl rfl
    · have hk2 : k + 1 = L.length := by
        have : ¬ ((k + 1 : Nat) : Int) < (L.length : Nat) := of_decide_eq_false hc
        omega
      have hel : (L.eraseIdx i).length = k := by rw [List.length_eraseIdx, if_pos hlt]; omega
      have hcut := hr.cut_ (L' := L.eraseIdx i) (by rw [dropK_len hlt hkl]; omega) (fun j x hx => by
        have hj : j < (L.eraseIdx i).length := (List.getElem?_eq_some_iff.1 hx).1
        unfold dropK
        rw [List.getElem?_append_left (by simp; omega), List.getElem?_take, if_pos (by omega)]
        exact hx)
      refine at_exit ?_
      refine at_then_exit ?_
      refine at_then_exit ?_
      refine at_exit_eq ?_
      refine at_normal ?_
      refine hK4 _ _ _ ?_
      refine at_seq_k (fun K8 hK8 => ?_)
      refine at_region ?_
      refine at_v (ov_move rfl rfl) rfl rfl rfl ?_
      refine at_v (ov_nilCheck rfl rfl) rfl rfl rfl ?_
      refine at_v (ov_fieldAddr (k := 13) (r := 13) rfl rfl rfl rfl) rfl rfl rfl ?_
      refine at_v (ov_load rfl rfl rfl (fun _ s => s.ld (k := 0) rfl (by assumption))) rfl rfl rfl ?_
      refine at_v ((ov_int rfl rfl rfl rfl).eq (congrArg (Value.int .i64) (inK_i64 (by omega) (by omega)))) rfl rfl rfl ?_
      refine at_v (ov_nilCheck rfl rfl) rfl rfl rfl ?_
      refine at_v (ov_fieldAddr (k := 13) (r := 13) rfl rfl rfl rfl) rfl rfl rfl ?_
      refine at_t0 (ot_storeA (k := 0) rfl rfl rfl rfl rfl (by simp only [Value.cells, List.size_toArray, List.length_cons, List.length_nil, size_splice1]; omega) rfl) rfl rfl ?_
      rintro _ _ ⟨rfl, rfl⟩
      simp only [setAt, Value.cells]
      refine at_nil ?_
      refine at_normal ?_
      refine hK8 _ _ _ ?_
      refine at_seq_k (fun K9 hK9 => ?_)
      refine at_region ?_
      refine at_v (ov_assign rfl rfl) rfl rfl rfl ?_
      refine at_nil ?_
      refine at_normal ?_
      refine hK9 _ _ _ ?_
      refine at_ret ?_
      refine at_end ?_
      rw [show ((L.length : Nat) : Int) - 1 = ((L.eraseIdx i).length : Nat) by omega]
      refine at_fold (A := WaitA g most (L.eraseIdx i)) [0] rfl (fun h s => ⟨_, _, hcut, s⟩) ?_
      refine at_fin (rsV rfl (res_tmp rfl)) ?_
      refine ⟨_, ⟨by simp [hi1], rfl⟩, ?_⟩
      exact fun _ s => s.finEq (ks := [0]) (js := []) rfl rfl rfl
