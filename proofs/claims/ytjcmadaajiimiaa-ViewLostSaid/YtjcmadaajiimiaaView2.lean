/- The statements of layer 14 (view), walked. -/
import Derived.Test.YtjcmadaajiimiaaView
import Derived.Test.YtjcmadaajiimiaaSLRow
import Derived.KernelRfl
set_option linter.unusedSimpArgs false
set_option linter.unusedVariables false
set_option maxRecDepth 100000
namespace Go.Proofs.Ytjcmadaajiimiaa
open Go Go.Proofs.Ytjcmadaajiimiaa.SL Go.RowKit
/-- A promotion, as the statements hand it in. -/
structure PR where
  epoch : Int
  cut : Int
  pri : Int
def prE (x : PR) : List Value := [.int .u64 x.epoch, .int .u64 x.cut, .int .i64 x.pri]
def learnAll (v : VM) (l : List PR) : VM := l.foldl (fun v x => v.learn x.epoch x.pri x.cut) v
theorem learnAll_succ (v : VM) (l : List PR) (k : Nat) (h : k < l.length) : learnAll v (l.take (k + 1)) = (learnAll v (l.take k)).learn l[k].epoch l[k].pri l[k].cut := by
  unfold learnAll
  rw [List.take_succ_eq_append_getElem h, List.foldl_append]; rfl
theorem learn_len (v : VM) (a b c : Int) : (v.learn a b c).cuts.length ≤ v.cuts.length + 1 := by
  unfold VM.learn
  split <;> simp
theorem learnAll_len (v : VM) (l : List PR) : (learnAll v l).cuts.length ≤ v.cuts.length + l.length := by
  induction l generalizing v with
  | nil => simp [learnAll]
  | cons x r ih =>
    have h1 := ih (v.learn x.epoch x.pri x.cut)
    have h2 := learn_len v x.epoch x.pri x.cut
    simp only [learnAll, List.foldl_cons, List.length_cons] at h1 ⊢
    omega
theorem take_len_le {α : Type} (l : List α) (k : Nat) : (l.take k).length ≤ l.length := List.length_take_le' _ _
theorem T19 (w0 : World) (p : Int) (A : Option Addr) (c : Nat) (l : List PR) (hr : Rd prE w0 3 A l) (hl : l.length ≤ 100) : Tri Try.prog w0 19 [.int .i64 p, .slice A l.length c] [] fun v m => ∃ g, v = ptrTo g ∧ m = [ViewA g (learnAll ⟨1, p, []⟩ l)] := by
  refine tri_of Try.func19 rfl rfl fun F => ?_
  simp only [Try.ntmps19, argEnv, List.nil_append]
  refine at_seq_k (fun K0 hK0 => ?_)
  refine at_region ?_
  refine at_v (ov_assign rfl rfl) rfl rfl rfl ?_
  refine at_nil ?_
  refine at_normal ?_
  refine hK0 _ _ ?_
  refine at_seq_k (fun K1 hK1 => ?_)
  refine at_region ?_
  refine at_v (ov_move rfl rfl) rfl rfl rfl ?_
  refine at_t (ot_call (ks := []) rfl rfl rfl Try.call7 rfl (T7 _ _) rfl) rfl rfl rfl ?_
  rintro v0 _ ⟨m0, hp0, rfl⟩
  obtain ⟨g0, hp0⟩ := hp0
  obtain ⟨rfl, rfl⟩ := hp0
  simp only [List.cons_append, List.nil_append]
  refine at_v (ov_assign rfl rfl) rfl rfl rfl ?_
  refine at_nil ?_
  refine at_normal ?_
  refine hK1 _ _ ?_
  refine at_seq_k (fun K2 hK2 => ?_)
  refine at_seq_k (fun K3 hK3 => ?_)
  refine at_region ?_
  refine at_v (ov_move rfl rfl) rfl rfl rfl ?_
  refine at_v (ov_len_slice rfl Try.underlying22 rfl) rfl rfl rfl ?_
  refine at_v (ov_move rfl rfl) rfl rfl rfl ?_
  refine at_nil ?_
  refine at_normal ?_
  refine hK3 _ _ ?_
  refine at_block ?_
  refine at_loopE [13, 14, 15, 7, 16, 17, 18, 19, 20, 21, 22, 23, 24, 12] (fun k => k ≤ l.length) (fun k => [(12, .int .i64 (k : Nat))]) (fun k => setAt 0 (ViewA g0 (learnAll ⟨1, p, []⟩ (l.take k)))) (fun k => l.length - k) 0 (Nat.zero_le _) ⟨rfl, trivial⟩ (fun _ s => s) ?_
  intro k hk
  simp only [setAt]
  have hlen : (learnAll ⟨1, p, []⟩ (l.take k)).cuts.length ≤ 1000000 := by
    have h1 := learnAll_len ⟨1, p, []⟩ (l.take k)
    have h2 := take_len_le l k
    simp only [List.length_nil] at h1
    omega
  refine at_seq_k (fun K4 hK4 => ?_)
  refine at_region ?_
  refine at_v (ov_int rfl rfl rfl rfl) rfl rfl rfl ?_
  refine at_nil ?_
  refine at_normal ?_
  refine hK4 _ _ ?_
  refine at_seq_k (fun K5 hK5 => ?_)
  refine at_cond rfl (fun hc => ?_) (fun hc => ?_)
  · have hlt : k < l.length := by simpa using hc
    have hget : l[k]? = some l[k] := List.getElem?_eq_getElem hlt
    refine at_skip ?_
    refine at_normal ?_
    refine hK5 _ _ ?_
    refine at_seq_k (fun K6 hK6 => ?_)
    refine at_block ?_
    refine at_seq_k (fun K7 hK7 => ?_)
    refine at_region ?_
    refine at_v (ov_indexRd (fun _ s => hr.up s) rfl Try.underlying22 rfl rfl rfl hget) rfl rfl rfl ?_
    refine at_v (ov_loadRdS (vs := [_, _, _]) (fun _ s => hr.up s) rfl rfl rfl hget rfl rfl) rfl rfl rfl ?_
    refine at_t (ot_allocA rfl Try.zeroValue45) rfl rfl rfl ?_
    rintro _ _ ⟨g1, rfl, rfl⟩
    refine at_t0 (ot_store (k := 0) rfl rfl rfl rfl rfl rfl rfl) rfl rfl ?_
    rintro _ _ ⟨rfl, rfl⟩
    simp only [setAt, splice, spliceL, Value.cells]
    refine at_nil ?_
    refine at_normal ?_
    refine hK7 _ _ ?_
    refine at_region ?_
    refine at_v (ov_move rfl rfl) rfl rfl rfl ?_
    refine at_v (ov_fieldAddr (k := 0) (r := 0) rfl rfl rfl rfl) rfl rfl rfl ?_
    refine at_v (ov_load rfl rfl rfl (fun _ s => s.ld (k := 0) rfl rfl)) rfl rfl rfl ?_
    refine at_v (ov_fieldAddr (k := 2) (r := 2) rfl rfl rfl rfl) rfl rfl rfl ?_
    refine at_v (ov_load rfl rfl rfl (fun _ s => s.ld (k := 0) rfl rfl)) rfl rfl rfl ?_
    refine at_v (ov_fieldAddr (k := 1) (r := 1) rfl rfl rfl rfl) rfl rfl rfl ?_
    refine at_v (ov_load rfl rfl rfl (fun _ s => s.ld (k := 0) rfl rfl)) rfl rfl rfl ?_
    refine at_t (ot_call (ks := [1]) rfl rfl rfl Try.call15 rfl (T15 _ _ _ _ _ _ (by first | assumption | omega | decide | (simp; done) | (simp at *; omega))) rfl) rfl rfl rfl ?_
    rintro v0 _ ⟨m0, hp0, rfl⟩
    obtain ⟨rfl, rfl⟩ := hp0
    simp only [List.cons_append, List.nil_append]
    refine at_nil ?_
    refine at_inb_normal ?_
    refine at_normal ?_
    refine hK6 _ _ ?_
    refine at_region ?_
    refine at_v ((ov_int rfl rfl rfl rfl).eq (congrArg (Value.int .i64) (inK_i64 (by omega) (by omega)))) rfl rfl rfl ?_
    refine at_v (ov_move rfl rfl) rfl rfl rfl ?_
    refine at_nil ?_
    refine at_normal ?_
    rw [← learnAll_succ _ l k hlt]
    refine at_roundF (k + 1) hlt (by omega) ⟨rfl, trivial⟩ rfl ?_
    exact fun _ s => s.finEq (ks := [0]) (js := [0]) rfl rfl rfl
  · have hk2 : k = l.length := by
      have : ¬ k < l.length := by simpa using hc
      omega
    subst hk2
    simp only [List.take_length]
    refine at_exit ?_
    refine at_then_exit ?_
    refine at_then_exit ?_
    refine at_exit_eq ?_
    refine at_normal ?_
    refine hK2 _ _ ?_
    refine at_seq_k (fun K6 hK6 => ?_)
    refine at_region ?_
    refine at_v (ov_move rfl rfl) rfl rfl rfl ?_
    refine at_v (ov_assign rfl rfl) rfl rfl rfl ?_
    refine at_nil ?_
    refine at_normal ?_
    refine hK6 _ _ ?_
    refine at_ret ?_
    refine at_end ?_
    refine at_fin (rsV rfl (res_tmp rfl)) ?_
    refine ⟨_, ⟨g0, rfl, rfl⟩, ?_⟩
    exact fun _ s => s.finEq (ks := [0]) (js := []) rfl rfl rfl
/-- The bounds of what is handed in. -/
def PR.ok (x : PR) : Prop := 0 ≤ x.epoch ∧ x.epoch < 18446744073709551616 ∧ 0 ≤ x.cut ∧ x.cut < 18446744073709551616
theorem T3 (w0 : World) (p : Int) (A : Option Addr) (c : Nat) (l : List PR) (te tp ue up e pl : Int) (hr : Rd prE w0 3 A l) (hm : l.length ≤ 9223372036854775807) :
    Tri Try.prog w0 3 [.int .i64 p, .slice A l.length c, .agg #[.int .u64 te, .int .u64 tp], .agg #[.int .u64 ue, .int .u64 up], .int .u64 e, .int .u64 pl] [] fun v m => v = .bool true ∧ m = [] := by
  refine tri_of Try.func3 rfl rfl fun F => ?_
  simp only [Try.ntmps3, argEnv, List.nil_append]
  refine at_seq_k (fun K0 hK0 => ?_)
  refine at_region ?_
  refine at_t (ot_boxA rfl rfl) rfl rfl rfl ?_
  rintro _ _ ⟨g0, rfl, rfl⟩
  refine at_t (ot_boxA rfl rfl) rfl rfl rfl ?_
  rintro _ _ ⟨g1, rfl, rfl⟩
  refine at_v (ov_assign rfl rfl) rfl rfl rfl ?_
  refine at_nil ?_
  refine at_normal ?_
  refine hK0 _ _ ?_
  refine at_seq_k (fun K1 hK1 => ?_)
  refine at_seq_k (fun K2 hK2 => ?_)
  refine at_region ?_
  refine at_t (ot_call (ks := []) rfl rfl rfl Try.call6 rfl (T6 _) rfl) rfl rfl rfl ?_
  rintro v0 _ ⟨m0, hp0, rfl⟩
  obtain ⟨rfl, rfl⟩ := hp0
  simp only [List.cons_append, List.nil_append]
  refine at_v (ov_not rfl rfl) rfl rfl rfl ?_
  refine at_nil ?_
  refine at_normal ?_
  refine hK2 _ _ ?_
  refine at_cond_false rfl ?_
  refine at_skip ?_
  refine at_normal ?_
  refine hK1 _ _ ?_
  refine at_seq_k (fun K3 hK3 => ?_)
  refine at_seq_k (fun K4 hK4 => ?_)
  refine at_region ?_
  refine at_v (ov_move rfl rfl) rfl rfl rfl ?_
  refine at_v (ov_len_slice rfl Try.underlying22 rfl) rfl rfl rfl ?_
  refine at_v (ov_int rfl rfl rfl rfl) rfl rfl rfl ?_
  refine at_nil ?_
  refine at_normal ?_
  refine hK4 _ _ ?_
  refine at_cond rfl (fun h => ?_) (fun h => ?_)
  · refine at_seq_k (fun K5 hK5 => ?_)
    refine at_region ?_
    refine at_v (ov_assign rfl rfl) rfl rfl rfl ?_
    refine at_nil ?_
    refine at_normal ?_
    refine hK5 _ _ ?_
    refine at_ret ?_
    refine at_then_ret ?_
    refine at_end ?_
    refine at_fin (rsV rfl (res_tmp rfl)) ?_
    refine ⟨_, ⟨rfl, rfl⟩, ?_⟩
    exact fun _ s => s.finEq (ks := []) (js := [0, 0]) rfl rfl rfl
  · have hl : l.length ≤ 100 := by
      have : (l.length : Int) ≤ 100 := by simpa using h
      omega
    refine at_skip ?_
    refine at_normal ?_
    refine hK3 _ _ ?_
    refine at_seq_k (fun K5 hK5 => ?_)
    refine at_region ?_
    refine at_v (ov_move rfl rfl) rfl rfl rfl ?_
    refine at_t (ot_call (ks := []) rfl rfl rfl Try.call7 rfl (T7 _ _) rfl) rfl rfl rfl ?_
    rintro v0 _ ⟨m0, hp0, rfl⟩
    obtain ⟨g2, hp0⟩ := hp0
    obtain ⟨rfl, rfl⟩ := hp0
    simp only [List.cons_append, List.nil_append]
    refine at_v (ov_move rfl rfl) rfl rfl rfl ?_
    refine at_t (ot_call (ks := []) rfl rfl rfl Try.call8 rfl (T8 _ _) rfl) rfl rfl rfl ?_
    rintro v0 _ ⟨m0, hp0, rfl⟩
    obtain ⟨g3, hp0⟩ := hp0
    obtain ⟨rfl, rfl⟩ := hp0
    simp only [List.cons_append, List.nil_append]
    refine at_v (ov_assign rfl rfl) rfl rfl rfl ?_
    refine at_v (ov_assign rfl rfl) rfl rfl rfl ?_
    refine at_nil ?_
    refine at_normal ?_
    refine hK5 _ _ ?_
    refine at_seq_k (fun K6 hK6 => ?_)
    refine at_seq_k (fun K7 hK7 => ?_)
    refine at_region ?_
    refine at_v (ov_assign rfl rfl) rfl rfl rfl ?_
    refine at_nil ?_
    refine at_normal ?_
    refine hK7 _ _ ?_
    refine at_block ?_
    refine at_loopE [29, 30, 31, 32, 36, 37, 38, 35, 39, 40, 16, 17, 42, 43, 44, 41, 45, 46, 18, 19, 47, 48, 49, 50, 51, 52, 53, 54, 55, 56, 57, 58, 59, 60, 61, 62, 63, 64, 65, 66, 67, 68, 69, 70, 71, 72, 73, 74, 75, 76, 77, 78, 79, 80, 81, 82, 83, 84, 85, 12, 86, 87, 88, 89, 90, 91, 92, 93, 94, 95, 96, 97, 98, 99, 100, 101, 102, 103, 104, 105, 106, 107, 108, 109, 110, 111, 112, 113, 114, 115, 116, 117, 118, 119, 120, 121, 122, 123, 124, 125, 126, 33, 34, 15] (fun k => k ≤ l.length + 1) (fun k => [(15, .int .i64 (k : Nat))]) (fun k m => setAt 1 (ViewA g2 (learnAll ⟨1, p, []⟩ (l.take k))) (setAt 0 (RViewA g3 (learnAll ⟨1, p, []⟩ (l.take k))) m)) (fun k => l.length + 1 - k) 0 (Nat.zero_le _) ⟨rfl, trivial⟩ (fun _ s => s) ?_
    intro k hk
    simp only [setAt]
    have hlen : (learnAll ⟨1, p, []⟩ (l.take k)).cuts.length ≤ 1000000 := by
      have h1 := learnAll_len ⟨1, p, []⟩ (l.take k)
      have h2 := take_len_le l k
      simp only [List.length_nil] at h1
      omega
    obtain ⟨v, hv⟩ : ∃ v, v = learnAll ⟨1, p, []⟩ (l.take k) := ⟨_, rfl⟩
    rw [← hv] at hlen ⊢
    refine at_seq_k (fun K8 hK8 => ?_)
    refine at_seq_k (fun K9 hK9 => ?_)
    refine at_region ?_
    refine at_v (ov_move rfl rfl) rfl rfl rfl ?_
    refine at_v (ov_move rfl rfl) rfl rfl rfl ?_
    refine at_v (ov_len_slice rfl Try.underlying22 rfl) rfl rfl rfl ?_
    refine at_v (ov_int rfl rfl rfl rfl) rfl rfl rfl ?_
    refine at_nil ?_
    refine at_normal ?_
    refine hK9 _ _ ?_
    refine at_cond rfl (fun hc => ?_) (fun hc => ?_)
    · refine at_skip ?_
      refine at_normal ?_
      refine hK8 _ _ ?_
      refine at_seq_k (fun K10 hK10 => ?_)
      refine at_block ?_
      refine at_seq_k (fun K11 hK11 => ?_)
      refine at_region ?_
      refine at_v (ov_move rfl rfl) rfl rfl rfl ?_
      refine at_v (ov_loadS (cs := [_, _]) rfl rfl rfl rfl (fun _ s => s.lds (k := 3) rfl ⟨rfl, rfl, trivial⟩)) rfl rfl rfl ?_
      refine at_t (ot_call (ks := [1]) rfl rfl rfl Try.call9 rfl (T9 _ _ _ _ _ (by first | assumption | omega | decide | (simp; done) | (simp at *; omega))) rfl) rfl rfl rfl ?_
      rintro v0 _ ⟨m0, hp0, rfl⟩
      obtain ⟨rfl, rfl⟩ := hp0
      simp only [List.cons_append, List.nil_append]
      refine at_v (ov_move rfl rfl) rfl rfl rfl ?_
      refine at_v (ov_extract rfl rfl rfl) rfl rfl rfl ?_
      refine at_v (ov_extract rfl rfl rfl) rfl rfl rfl ?_
      refine at_t (ot_allocA rfl Try.zeroValue25) rfl rfl rfl ?_
      rintro _ _ ⟨g4, rfl, rfl⟩
      refine at_t0 (ot_store (k := 0) rfl rfl rfl rfl rfl rfl rfl) rfl rfl ?_
      rintro _ _ ⟨rfl, rfl⟩
      simp only [setAt, splice, spliceL, Value.cells]
      refine at_v (ov_assign rfl rfl) rfl rfl rfl ?_
      refine at_nil ?_
      refine at_normal ?_
      refine hK11 _ _ ?_
      refine at_seq_k (fun K12 hK12 => ?_)
      refine at_region ?_
      refine at_v (ov_move rfl rfl) rfl rfl rfl ?_
      refine at_v (ov_loadS (cs := [_, _]) rfl rfl rfl rfl (fun _ s => s.lds (k := 4) rfl ⟨rfl, rfl, trivial⟩)) rfl rfl rfl ?_
      refine at_t (ot_call (ks := [2]) rfl rfl rfl Try.call10 rfl (T10 _ _ _ _ _ (by first | assumption | omega | decide | (simp; done) | (simp at *; omega))) rfl) rfl rfl rfl ?_
      rintro v0 _ ⟨m0, hp0, rfl⟩
      obtain ⟨rfl, rfl⟩ := hp0
      simp only [List.cons_append, List.nil_append]
      refine at_v (ov_move rfl rfl) rfl rfl rfl ?_
      refine at_v (ov_extract rfl rfl rfl) rfl rfl rfl ?_
      refine at_v (ov_extract rfl rfl rfl) rfl rfl rfl ?_
      refine at_t (ot_allocA rfl Try.zeroValue33) rfl rfl rfl ?_
      rintro _ _ ⟨g5, rfl, rfl⟩
      refine at_t0 (ot_store (k := 0) rfl rfl rfl rfl rfl rfl rfl) rfl rfl ?_
      rintro _ _ ⟨rfl, rfl⟩
      simp only [setAt, splice, spliceL, Value.cells]
      refine at_v (ov_assign rfl rfl) rfl rfl rfl ?_
      refine at_nil ?_
      refine at_normal ?_
      refine hK12 _ _ ?_
      refine at_seq_k (fun K13 hK13 => ?_)
      refine at_seq_k (fun K14 hK14 => ?_)
      refine at_draw _ [(true, 0), (true, 1), (true, 2), (true, 3), (true, 4), (true, 5), (true, 6), (true, 7), (true, 8), (true, 9), (true, 10), (true, 11), (true, 12), (true, 14), (true, 15), (true, 16), (true, 17), (false, 13), (false, 18), (true, 19), (true, 20), (true, 21), (true, 22), (true, 24), (true, 25), (true, 26), (true, 27), (false, 23), (true, 28), (true, 29), (true, 30), (true, 31), (true, 33), (true, 34), (true, 35), (true, 36), (false, 32), (true, 37), (true, 38)] (by kernel_rfl) (by kernel_rfl) (fun _ s => (s.pulls (ks := [0, 0, 0, 0, 0, 0]) rfl).left) ?_
      refine aq_v (ov_loadS (cs := [_, _]) rfl rfl rfl rfl (fun _ s => s.lds (k := 2) rfl ⟨rfl, rfl, trivial⟩)) rfl rfl rfl ?_
      refine aq_v (ov_loadS (cs := [_, _]) rfl rfl rfl rfl (fun _ s => s.lds (k := 0) rfl ⟨rfl, rfl, trivial⟩)) rfl rfl rfl ?_
      refine aq_v (ov_neS rfl (by kernel_rfl) rfl rfl rfl rfl) rfl rfl rfl ?_
      refine aq_v (ov_move rfl rfl) rfl rfl rfl ?_
      refine at_reval 50 (.bool false) rfl (congrArg Value.bool (by simp; done)) ?_
      refine aq_wanted (j := 3) rfl ?_
      refine aq_v (ov_move rfl rfl) rfl rfl rfl ?_
      refine aq_wanted (j := 3) rfl ?_
      refine aq_v (ov_move rfl rfl) rfl rfl rfl ?_
      refine aq_wanted (j := 3) rfl ?_
      refine aq_v (ov_boolne rfl Try.underlying4 rfl rfl) rfl rfl rfl ?_
      refine aq_v (ov_pick_f rfl rfl rfl) rfl rfl rfl ?_
      refine aq_v (ov_move rfl rfl) rfl rfl rfl ?_
      refine at_reval 55 (.bool false) rfl (congrArg Value.bool (by simp; done)) ?_
      refine aq_wanted (j := 8) rfl ?_
      refine aq_v (ov_move rfl rfl) rfl rfl rfl ?_
      refine aq_wanted (j := 8) rfl ?_
      refine aq_v (ov_loadS (cs := [_, _]) rfl rfl rfl rfl (fun _ s => s.lds (k := 5) rfl ⟨rfl, rfl, trivial⟩)) rfl rfl rfl ?_
      refine aq_wanted (j := 8) rfl ?_
      refine aq_v (ov_move rfl rfl) rfl rfl rfl ?_
      refine aq_wanted (j := 8) rfl ?_
      refine aq_v (ov_move rfl rfl) rfl rfl rfl ?_
      refine aq_wanted (j := 8) rfl ?_
      refine aq_v (ov_move rfl rfl) rfl rfl rfl ?_
      refine aq_wanted (j := 8) rfl ?_
      refine aq_v (ov_loadS (cs := [_, _]) rfl rfl rfl rfl (fun _ s => s.lds (k := 5) rfl ⟨rfl, rfl, trivial⟩)) rfl rfl rfl ?_
      refine aq_wanted (j := 8) rfl ?_
      refine aq_v (ov_move rfl rfl) rfl rfl rfl ?_
      refine aq_wanted (j := 8) rfl ?_
      refine aq_v (ov_move rfl rfl) rfl rfl rfl ?_
      refine aq_wanted (j := 8) rfl ?_
      refine aq_t (ot_call (ks := [3]) rfl rfl rfl Try.call11 rfl (T11 _ _ _ _ _ _ _ (by first | assumption | omega | decide | (simp; done) | (simp at *; omega))) rfl) rfl rfl rfl ?_
      rintro v0 _ ⟨m0, hp0, rfl⟩
      obtain ⟨rfl, rfl⟩ := hp0
      simp only [List.cons_append, List.nil_append]
      refine ⟨fun _ s => (s.pulls (ks := [1, 1, 1, 0, 0, 0]) rfl).left, ?_⟩
      refine aq_wanted (j := 8) rfl ?_
      refine aq_t (ot_call (ks := [2]) rfl rfl rfl Try.call12 rfl (T12 _ _ _ _ _ _ _ (by first | assumption | omega | decide | (simp; done) | (simp at *; omega))) rfl) rfl rfl rfl ?_
      rintro v0 _ ⟨m0, hp0, rfl⟩
      obtain ⟨rfl, rfl⟩ := hp0
      simp only [List.cons_append, List.nil_append]
      refine ⟨fun _ s => (s.pulls (ks := [2, 0, 1, 0, 0, 0]) rfl).left, ?_⟩
      refine aq_wanted (j := 8) rfl ?_
      refine aq_v (ov_boolne rfl Try.underlying4 rfl rfl) rfl rfl rfl ?_
      refine aq_v (ov_pick_f rfl rfl rfl) rfl rfl rfl ?_
      refine aq_v (ov_move rfl rfl) rfl rfl rfl ?_
      refine at_reval 68 (.bool false) rfl (congrArg Value.bool (by simp; done)) ?_
      refine aq_wanted (j := 21) rfl ?_
      refine aq_v (ov_move rfl rfl) rfl rfl rfl ?_
      refine aq_wanted (j := 21) rfl ?_
      refine aq_v (ov_move rfl rfl) rfl rfl rfl ?_
      refine aq_wanted (j := 21) rfl ?_
      refine aq_v (ov_nilCheck rfl rfl) rfl rfl rfl ?_
      refine aq_wanted (j := 21) rfl ?_
      refine aq_v (ov_fieldAddr (k := 0) (r := 0) rfl rfl rfl rfl) rfl rfl rfl ?_
      refine aq_wanted (j := 21) rfl ?_
      refine aq_v (ov_load rfl rfl rfl (fun _ s => RViewA.ld0 s (k := 1) rfl)) rfl rfl rfl ?_
      refine aq_wanted (j := 21) rfl ?_
      refine aq_t (ot_call (ks := [1]) rfl rfl rfl Try.call13 rfl (T13 _ _ _) rfl) rfl rfl rfl ?_
      rintro v0 _ ⟨m0, hp0, rfl⟩
      obtain ⟨rfl, rfl⟩ := hp0
      simp only [List.cons_append, List.nil_append]
      refine ⟨fun _ s => (s.pulls (ks := [2, 1, 1, 0, 0, 0]) rfl).left, ?_⟩
      refine aq_wanted (j := 21) rfl ?_
      refine aq_v (ov_int rfl rfl rfl rfl) rfl rfl rfl ?_
      refine aq_v (ov_pick_f rfl rfl rfl) rfl rfl rfl ?_
      refine aq_v (ov_move rfl rfl) rfl rfl rfl ?_
      refine at_reval 77 (.bool false) rfl (congrArg Value.bool (by simp; done)) ?_
      refine aq_wanted (j := 30) rfl ?_
      refine aq_v (ov_move rfl rfl) rfl rfl rfl ?_
      refine aq_wanted (j := 30) rfl ?_
      refine aq_v (ov_move rfl rfl) rfl rfl rfl ?_
      refine aq_wanted (j := 30) rfl ?_
      refine aq_v (ov_nilCheck rfl rfl) rfl rfl rfl ?_
      refine aq_wanted (j := 30) rfl ?_
      refine aq_v (ov_fieldAddr (k := 1) (r := 1) rfl rfl rfl rfl) rfl rfl rfl ?_
      refine aq_wanted (j := 30) rfl ?_
      refine aq_v (ov_load rfl rfl rfl (fun _ s => RViewA.ld1 s (k := 1) rfl)) rfl rfl rfl ?_
      refine aq_wanted (j := 30) rfl ?_
      refine aq_t (ot_call (ks := [0]) rfl rfl rfl Try.call14 rfl (T14 _ _ _) rfl) rfl rfl rfl ?_
      rintro v0 _ ⟨m0, hp0, rfl⟩
      obtain ⟨rfl, rfl⟩ := hp0
      simp only [List.cons_append, List.nil_append]
      refine ⟨fun _ s => (s.pulls (ks := [2, 1, 1, 0, 0, 0]) rfl).left, ?_⟩
      refine aq_wanted (j := 30) rfl ?_
      refine aq_v (ov_int rfl rfl rfl rfl) rfl rfl rfl ?_
      refine aq_v (ov_pick_f rfl rfl rfl) rfl rfl rfl ?_
      refine aq_nil ?_
      refine at_normal ?_
      refine hK14 _ _ ?_
      refine at_cond_false (congrArg (fun b => some (Value.bool b)) (show _ = false from by simp; done)) ?_
      refine at_skip ?_
      refine at_normal ?_
      refine hK13 _ _ ?_
      refine at_seq_k (fun K15 hK15 => ?_)
      refine at_draw _ [(true, 0), (true, 1), (true, 2), (true, 3), (true, 4), (true, 5), (true, 6), (true, 7), (true, 8), (true, 9), (true, 10), (true, 11), (true, 12), (true, 13), (true, 14), (true, 15), (true, 16), (true, 17), (true, 18), (true, 19), (true, 20), (true, 22), (true, 23), (true, 24), (true, 25), (true, 26), (true, 27), (true, 28), (true, 29), (true, 30), (true, 31), (true, 32), (true, 33), (true, 34), (true, 35), (true, 36), (true, 37), (false, 21), (false, 38), (true, 39), (true, 40)] (by kernel_rfl) (by kernel_rfl) (fun _ s => (s.pulls (ks := [2, 2, 2, 2]) rfl).left) ?_
      refine aq_v (ov_move rfl rfl) rfl rfl rfl ?_
      refine aq_v (ov_move rfl rfl) rfl rfl rfl ?_
      refine aq_v (ov_len_slice rfl Try.underlying22 rfl) rfl rfl rfl ?_
      refine aq_v (ov_int rfl rfl rfl rfl) rfl rfl rfl ?_
      refine aq_v (ov_move rfl rfl) rfl rfl rfl ?_
      refine at_bool (t := 90) rfl (fun hd => ?_) (fun hd => ?_)
      · have hlt : k < l.length := by simpa using hd
        have hget : l[k]? = some l[k] := List.getElem?_eq_getElem hlt
        have hsu := learnAll_succ ⟨1, p, []⟩ l k hlt
        rw [← hv] at hsu
        refine aq_wanted (j := 4) rfl ?_
        refine aq_v (ov_move rfl rfl) rfl rfl rfl ?_
        refine aq_wanted (j := 4) rfl ?_
        refine aq_v (ov_move rfl rfl) rfl rfl rfl ?_
        refine aq_wanted (j := 4) rfl ?_
        refine aq_v (ov_move rfl rfl) rfl rfl rfl ?_
        refine aq_wanted (j := 4) rfl ?_
        refine aq_v (ov_indexRd (fun _ s => hr.up s) rfl Try.underlying22 rfl rfl rfl hget) rfl rfl rfl ?_
        refine aq_wanted (j := 4) rfl ?_
        refine aq_v (ov_fieldRd0 (k := 0) (fun _ s => hr.up s) rfl rfl hget rfl) rfl rfl rfl ?_
        refine aq_wanted (j := 4) rfl ?_
        refine aq_v (ov_loadRd0 (fun _ s => hr.up s) rfl rfl rfl hget rfl) rfl rfl rfl ?_
        refine aq_wanted (j := 4) rfl ?_
        refine aq_v (ov_move rfl rfl) rfl rfl rfl ?_
        refine aq_wanted (j := 4) rfl ?_
        refine aq_v (ov_move rfl rfl) rfl rfl rfl ?_
        refine aq_wanted (j := 4) rfl ?_
        refine aq_v (ov_indexRd (fun _ s => hr.up s) rfl Try.underlying22 rfl rfl rfl hget) rfl rfl rfl ?_
        refine aq_wanted (j := 4) rfl ?_
        refine aq_v (ov_fieldRd0 (k := 2) (fun _ s => hr.up s) rfl rfl hget rfl) rfl rfl rfl ?_
        refine aq_wanted (j := 4) rfl ?_
        refine aq_v (ov_loadRd (fun _ s => hr.up s) rfl rfl rfl hget rfl) rfl rfl rfl ?_
        refine aq_wanted (j := 4) rfl ?_
        refine aq_v (ov_move rfl rfl) rfl rfl rfl ?_
        refine aq_wanted (j := 4) rfl ?_
        refine aq_v (ov_move rfl rfl) rfl rfl rfl ?_
        refine aq_wanted (j := 4) rfl ?_
        refine aq_v (ov_indexRd (fun _ s => hr.up s) rfl Try.underlying22 rfl rfl rfl hget) rfl rfl rfl ?_
        refine aq_wanted (j := 4) rfl ?_
        refine aq_v (ov_fieldRd0 (k := 1) (fun _ s => hr.up s) rfl rfl hget rfl) rfl rfl rfl ?_
        refine aq_wanted (j := 4) rfl ?_
        refine aq_v (ov_loadRd (fun _ s => hr.up s) rfl rfl rfl hget rfl) rfl rfl rfl ?_
        refine aq_wanted (j := 4) rfl ?_
        refine aq_v (ov_move rfl rfl) rfl rfl rfl ?_
        refine aq_wanted (j := 4) rfl ?_
        refine aq_v (ov_move rfl rfl) rfl rfl rfl ?_
        refine aq_wanted (j := 4) rfl ?_
        refine aq_v (ov_move rfl rfl) rfl rfl rfl ?_
        refine aq_wanted (j := 4) rfl ?_
        refine aq_v (ov_indexRd (fun _ s => hr.up s) rfl Try.underlying22 rfl rfl rfl hget) rfl rfl rfl ?_
        refine aq_wanted (j := 4) rfl ?_
        refine aq_v (ov_fieldRd0 (k := 0) (fun _ s => hr.up s) rfl rfl hget rfl) rfl rfl rfl ?_
        refine aq_wanted (j := 4) rfl ?_
        refine aq_v (ov_loadRd0 (fun _ s => hr.up s) rfl rfl rfl hget rfl) rfl rfl rfl ?_
        refine aq_wanted (j := 4) rfl ?_
        refine aq_v (ov_move rfl rfl) rfl rfl rfl ?_
        refine aq_wanted (j := 4) rfl ?_
        refine aq_v (ov_move rfl rfl) rfl rfl rfl ?_
        refine aq_wanted (j := 4) rfl ?_
        refine aq_v (ov_indexRd (fun _ s => hr.up s) rfl Try.underlying22 rfl rfl rfl hget) rfl rfl rfl ?_
        refine aq_wanted (j := 4) rfl ?_
        refine aq_v (ov_fieldRd0 (k := 2) (fun _ s => hr.up s) rfl rfl hget rfl) rfl rfl rfl ?_
        refine aq_wanted (j := 4) rfl ?_
        refine aq_v (ov_loadRd (fun _ s => hr.up s) rfl rfl rfl hget rfl) rfl rfl rfl ?_
        refine aq_wanted (j := 4) rfl ?_
        refine aq_v (ov_move rfl rfl) rfl rfl rfl ?_
        refine aq_wanted (j := 4) rfl ?_
        refine aq_v (ov_move rfl rfl) rfl rfl rfl ?_
        refine aq_wanted (j := 4) rfl ?_
        refine aq_v (ov_indexRd (fun _ s => hr.up s) rfl Try.underlying22 rfl rfl rfl hget) rfl rfl rfl ?_
        refine aq_wanted (j := 4) rfl ?_
        refine aq_v (ov_fieldRd0 (k := 1) (fun _ s => hr.up s) rfl rfl hget rfl) rfl rfl rfl ?_
        refine aq_wanted (j := 4) rfl ?_
        refine aq_v (ov_loadRd (fun _ s => hr.up s) rfl rfl rfl hget rfl) rfl rfl rfl ?_
        refine aq_wanted (j := 4) rfl ?_
        refine aq_t (ot_call (ks := [0]) rfl rfl rfl Try.call15 rfl (T15 _ _ _ _ _ _ (by first | assumption | omega | decide | (simp; done) | (simp at *; omega))) rfl) rfl rfl rfl ?_
        rintro v0 _ ⟨m0, hp0, rfl⟩
        obtain ⟨rfl, rfl⟩ := hp0
        simp only [List.cons_append, List.nil_append]
        refine ⟨fun _ s => (s.pulls (ks := [2, 2, 2, 2]) rfl).left, ?_⟩
        refine aq_wanted (j := 4) rfl ?_
        refine aq_t (ot_call (ks := [1]) rfl rfl rfl Try.call16 rfl (T16 _ _ _ _ _ _ (by first | assumption | omega | decide | (simp; done) | (simp at *; omega))) rfl) rfl rfl rfl ?_
        rintro v0 _ ⟨m0, hp0, rfl⟩
        obtain ⟨rfl, rfl⟩ := hp0
        simp only [List.cons_append, List.nil_append]
        refine ⟨fun _ s => (s.pulls (ks := [2, 2, 2, 2]) rfl).left, ?_⟩
        refine aq_wanted (j := 4) rfl ?_
        refine aq_v (ov_boolne rfl Try.underlying4 rfl rfl) rfl rfl rfl ?_
        refine aq_v (ov_pick_t rfl rfl rfl) rfl rfl rfl ?_
        refine aq_nil ?_
        refine at_normal ?_
        refine hK15 _ _ ?_
        refine at_cond_false (congrArg (fun b => some (Value.bool b)) (show _ = false from by simp; done)) ?_
        refine at_skip ?_
        refine at_inb_normal ?_
        refine at_normal ?_
        refine hK10 _ _ ?_
        refine at_region ?_
        refine at_v (ov_move rfl rfl) rfl rfl rfl ?_
        refine at_v ((ov_int rfl rfl rfl rfl).eq (congrArg (Value.int .i64) (inK_i64 (by omega) (by omega)))) rfl rfl rfl ?_
        refine at_v (ov_assign rfl rfl) rfl rfl rfl ?_
        refine at_nil ?_
        refine at_normal ?_
        rw [← hsu]
        refine at_roundF (k + 1) (by omega) (by omega) ⟨rfl, trivial⟩ rfl ?_
        exact fun _ s => s.finEq (ks := [0, 0, 2, 2]) (js := [0, 0]) rfl rfl rfl
      · have hge : ¬ k < l.length := by simpa using hd
        have hcl : (k : Int) ≤ l.length := by simpa using hc
        have hsu : learnAll ⟨1, p, []⟩ (l.take (k + 1)) = v := by rw [hv, List.take_of_length_le (by omega), List.take_of_length_le (by omega)]
        refine aq_unwanted (j := 4) rfl rfl rfl rfl ?_
        refine aq_unwanted (j := 4) rfl rfl rfl rfl ?_
        refine aq_unwanted (j := 4) rfl rfl rfl rfl ?_
        refine aq_unwanted (j := 4) rfl rfl rfl rfl ?_
        refine aq_unwanted (j := 4) rfl rfl rfl rfl ?_
        refine aq_unwanted (j := 4) rfl rfl rfl rfl ?_
        refine aq_unwanted (j := 4) rfl rfl rfl rfl ?_
        refine aq_unwanted (j := 4) rfl rfl rfl rfl ?_
        refine aq_unwanted (j := 4) rfl rfl rfl rfl ?_
        refine aq_unwanted (j := 4) rfl rfl rfl rfl ?_
        refine aq_unwanted (j := 4) rfl rfl rfl rfl ?_
        refine aq_unwanted (j := 4) rfl rfl rfl rfl ?_
        refine aq_unwanted (j := 4) rfl rfl rfl rfl ?_
        refine aq_unwanted (j := 4) rfl rfl rfl rfl ?_
        refine aq_unwanted (j := 4) rfl rfl rfl rfl ?_
        refine aq_unwanted (j := 4) rfl rfl rfl rfl ?_
        refine aq_unwanted (j := 4) rfl rfl rfl rfl ?_
        refine aq_unwanted (j := 4) rfl rfl rfl rfl ?_
        refine aq_unwanted (j := 4) rfl rfl rfl rfl ?_
        refine aq_unwanted (j := 4) rfl rfl rfl rfl ?_
        refine aq_unwanted (j := 4) rfl rfl rfl rfl ?_
        refine aq_unwanted (j := 4) rfl rfl rfl rfl ?_
        refine aq_unwanted (j := 4) rfl rfl rfl rfl ?_
        refine aq_unwanted (j := 4) rfl rfl rfl rfl ?_
        refine aq_unwanted (j := 4) rfl rfl rfl rfl ?_
        refine aq_unwanted (j := 4) rfl rfl rfl rfl ?_
        refine aq_unwanted (j := 4) rfl rfl rfl rfl ?_
        refine aq_unwanted (j := 4) rfl rfl rfl rfl ?_
        refine aq_unwanted (j := 4) rfl rfl rfl rfl ?_
        refine aq_unwanted (j := 4) rfl rfl rfl rfl ?_
        refine aq_unwanted (j := 4) rfl rfl rfl rfl ?_
        refine aq_unwanted (j := 4) rfl rfl rfl rfl ?_
        refine aq_unwanted (j := 4) rfl rfl rfl rfl ?_
        refine aq_unwanted (j := 4) rfl rfl rfl rfl ?_
        refine aq_unwanted (j := 4) rfl rfl rfl rfl ?_
        refine aq_v (ov_pick_f rfl rfl rfl) rfl rfl rfl ?_
        refine aq_nil ?_
        refine at_normal ?_
        refine hK15 _ _ ?_
        refine at_cond_false rfl ?_
        refine at_skip ?_
        refine at_inb_normal ?_
        refine at_normal ?_
        refine hK10 _ _ ?_
        refine at_region ?_
        refine at_v (ov_move rfl rfl) rfl rfl rfl ?_
        refine at_v ((ov_int rfl rfl rfl rfl).eq (congrArg (Value.int .i64) (inK_i64 (by omega) (by omega)))) rfl rfl rfl ?_
        refine at_v (ov_assign rfl rfl) rfl rfl rfl ?_
        refine at_nil ?_
        refine at_normal ?_
        rw [← hsu]
        refine at_roundF (k + 1) (by omega) (by omega) ⟨rfl, trivial⟩ rfl ?_
        exact fun _ s => s.finEq (ks := [1, 0, 2, 2]) (js := [0, 0]) rfl rfl rfl
    · refine at_exit ?_
      refine at_then_exit ?_
      refine at_then_exit ?_
      refine at_exit_eq ?_
      refine at_normal ?_
      refine hK6 _ _ ?_
      refine at_seq_k (fun K10 hK10 => ?_)
      refine at_draw _ [(true, 0), (true, 1), (true, 3), (true, 4), (false, 2), (false, 5), (true, 6), (true, 7)] (by kernel_rfl) (by kernel_rfl) (fun _ s => (s.pulls (ks := [2, 2]) rfl).left) ?_
      refine aq_v (ov_loadS (cs := [_, _]) rfl rfl rfl rfl (fun _ s => s.lds (k := 1) rfl ⟨rfl, rfl, trivial⟩)) rfl rfl rfl ?_
      refine aq_v (ov_loadS (cs := [_, _]) rfl rfl rfl rfl (fun _ s => s.lds (k := 0) rfl ⟨rfl, rfl, trivial⟩)) rfl rfl rfl ?_
      refine aq_v (ov_loadS (cs := [_, _]) rfl rfl rfl rfl (fun _ s => s.lds (k := 1) rfl ⟨rfl, rfl, trivial⟩)) rfl rfl rfl ?_
      refine aq_v (ov_loadS (cs := [_, _]) rfl rfl rfl rfl (fun _ s => s.lds (k := 0) rfl ⟨rfl, rfl, trivial⟩)) rfl rfl rfl ?_
      refine aq_t (ot_call (ks := []) rfl rfl rfl Try.call17 rfl (T17 _ _ _ _ _) rfl) rfl rfl rfl ?_
      rintro v0 _ ⟨m0, hp0, rfl⟩
      obtain ⟨rfl, rfl⟩ := hp0
      simp only [List.cons_append, List.nil_append]
      refine ⟨fun _ s => (s.pulls (ks := [2, 2]) rfl).left, ?_⟩
      refine aq_t (ot_call (ks := []) rfl rfl rfl Try.call18 rfl (T18 _ _ _ _ _) rfl) rfl rfl rfl ?_
      rintro v0 _ ⟨m0, hp0, rfl⟩
      obtain ⟨rfl, rfl⟩ := hp0
      simp only [List.cons_append, List.nil_append]
      refine ⟨fun _ s => (s.pulls (ks := [2, 2]) rfl).left, ?_⟩
      refine aq_v (ov_eqS rfl (by kernel_rfl) rfl rfl rfl rfl) rfl rfl rfl ?_
      refine aq_v (ov_assign rfl rfl) rfl rfl rfl ?_
      refine aq_nil ?_
      refine at_normal ?_
      refine hK10 _ _ ?_
      refine at_ret ?_
      refine at_end ?_
      refine at_fin (rsV rfl (res_tmp rfl)) ?_
      refine ⟨_, ⟨congrArg Value.bool (by simp), rfl⟩, ?_⟩
      exact fun _ s => s.finEq (ks := []) (js := [0, 0, 0, 0]) rfl rfl rfl
/-- One rising step of 'ViewLost'. -/
def VM.step (v : VM) (x : PR) : VM := v.learn (v.e + (x.epoch.tmod 5 + 1)) x.pri x.cut
def stepAll (v : VM) (l : List PR) : VM := l.foldl VM.step v
theorem stepAll_succ (v : VM) (l : List PR) (k : Nat) (h : k < l.length) : stepAll v (l.take (k + 1)) = (stepAll v (l.take k)).step l[k] := by
  unfold stepAll
  rw [List.take_succ_eq_append_getElem h, List.foldl_append]; rfl
theorem stepAll_len (v : VM) (l : List PR) : (stepAll v l).cuts.length ≤ v.cuts.length + l.length := by
  induction l generalizing v with
  | nil => simp [stepAll]
  | cons x r ih =>
    have h1 := ih (v.step x)
    have h2 := learn_len v (v.e + (x.epoch.tmod 5 + 1)) x.pri x.cut
    simp only [stepAll, List.foldl_cons, List.length_cons, VM.step] at h1 h2 ⊢
    omega
theorem stepAll_e (v : VM) (l : List PR) (h : ∀ x ∈ l, x.ok) (h0 : 0 ≤ v.e) : v.e ≤ (stepAll v l).e ∧ (stepAll v l).e ≤ v.e + 5 * l.length := by
  induction l generalizing v with
  | nil => simp [stepAll]
  | cons x r ih =>
    obtain ⟨a, b, _, _⟩ := h x (by simp)
    have hmod : x.epoch.tmod 5 = x.epoch % 5 := Int.tmod_eq_emod_of_nonneg a
    have h2 : (v.step x).e = v.e + (x.epoch.tmod 5 + 1) := by
      unfold VM.step VM.learn
      rw [if_neg (by omega)]
    have h1 := ih (v.step x) (fun y hy => h y (by simp [hy])) (by omega)
    simp only [stepAll, List.foldl_cons, List.length_cons] at h1 ⊢
    omega
theorem T4 (w0 : World) (p : Int) (A : Option Addr) (c : Nat) (l : List PR) (te tp : Int) (hr : Rd prE w0 3 A l) (hm : l.length ≤ 9223372036854775807) (hok : ∀ x ∈ l, x.ok) :
    Tri Try.prog w0 4 [.int .i64 p, .slice A l.length c, .agg #[.int .u64 te, .int .u64 tp]] [] fun v m => v = .bool true ∧ m = [] := by
  refine tri_of Try.func4 rfl rfl fun F => ?_
  simp only [Try.ntmps4, argEnv, List.nil_append]
  refine at_seq_k (fun K0 hK0 => ?_)
  refine at_region ?_
  refine at_t (ot_boxA rfl rfl) rfl rfl rfl ?_
  rintro _ _ ⟨g0, rfl, rfl⟩
  refine at_v (ov_assign rfl rfl) rfl rfl rfl ?_
  refine at_nil ?_
  refine at_normal ?_
  refine hK0 _ _ ?_
  refine at_seq_k (fun K1 hK1 => ?_)
  refine at_seq_k (fun K2 hK2 => ?_)
  refine at_region ?_
  refine at_t (ot_call (ks := []) rfl rfl rfl Try.call6 rfl (T6 _) rfl) rfl rfl rfl ?_
  rintro v0 _ ⟨m0, hp0, rfl⟩
  obtain ⟨rfl, rfl⟩ := hp0
  simp only [List.cons_append, List.nil_append]
  refine at_v (ov_not rfl rfl) rfl rfl rfl ?_
  refine at_nil ?_
  refine at_normal ?_
  refine hK2 _ _ ?_
  refine at_cond_false rfl ?_
  refine at_skip ?_
  refine at_normal ?_
  refine hK1 _ _ ?_
  refine at_seq_k (fun K3 hK3 => ?_)
  refine at_seq_k (fun K4 hK4 => ?_)
  refine at_region ?_
  refine at_v (ov_move rfl rfl) rfl rfl rfl ?_
  refine at_v (ov_len_slice rfl Try.underlying22 rfl) rfl rfl rfl ?_
  refine at_v (ov_int rfl rfl rfl rfl) rfl rfl rfl ?_
  refine at_nil ?_
  refine at_normal ?_
  refine hK4 _ _ ?_
  refine at_cond rfl (fun h => ?_) (fun h => ?_)
  · refine at_seq_k (fun K5 hK5 => ?_)
    refine at_region ?_
    refine at_v (ov_assign rfl rfl) rfl rfl rfl ?_
    refine at_nil ?_
    refine at_normal ?_
    refine hK5 _ _ ?_
    refine at_ret ?_
    refine at_then_ret ?_
    refine at_end ?_
    refine at_fin (rsV rfl (res_tmp rfl)) ?_
    refine ⟨_, ⟨rfl, rfl⟩, ?_⟩
    exact fun _ s => s.finEq (ks := []) (js := [0]) rfl rfl rfl
  · have hl : l.length ≤ 100 := by
      have : (l.length : Int) ≤ 100 := by simpa using h
      omega
    refine at_skip ?_
    refine at_normal ?_
    refine hK3 _ _ ?_
    refine at_seq_k (fun K5 hK5 => ?_)
    refine at_region ?_
    refine at_v (ov_move rfl rfl) rfl rfl rfl ?_
    refine at_t (ot_call (ks := []) rfl rfl rfl Try.call7 rfl (T7 _ _) rfl) rfl rfl rfl ?_
    rintro v0 _ ⟨m0, hp0, rfl⟩
    obtain ⟨g1, hp0⟩ := hp0
    obtain ⟨rfl, rfl⟩ := hp0
    simp only [List.cons_append, List.nil_append]
    refine at_v (ov_assign rfl rfl) rfl rfl rfl ?_
    refine at_nil ?_
    refine at_normal ?_
    refine hK5 _ _ ?_
    refine at_seq_k (fun K6 hK6 => ?_)
    refine at_region ?_
    refine at_v (ov_assign rfl rfl) rfl rfl rfl ?_
    refine at_nil ?_
    refine at_normal ?_
    refine hK6 _ _ ?_
    refine at_seq_k (fun K7 hK7 => ?_)
    refine at_region ?_
    refine at_v (ov_fieldAddr (k := 1) (r := 1) rfl rfl rfl rfl) rfl rfl rfl ?_
    refine at_v (ov_load rfl rfl rfl (fun _ s => s.ld (k := 1) rfl rfl)) rfl rfl rfl ?_
    refine at_v (ov_assign rfl rfl) rfl rfl rfl ?_
    refine at_nil ?_
    refine at_normal ?_
    refine hK7 _ _ ?_
    refine at_seq_k (fun K8 hK8 => ?_)
    refine at_seq_k (fun K9 hK9 => ?_)
    refine at_region ?_
    refine at_v (ov_move rfl rfl) rfl rfl rfl ?_
    refine at_v (ov_len_slice rfl Try.underlying22 rfl) rfl rfl rfl ?_
    refine at_v (ov_move rfl rfl) rfl rfl rfl ?_
    refine at_nil ?_
    refine at_normal ?_
    refine hK9 _ _ ?_
    refine at_block ?_
    refine at_loopE [28, 29, 30, 11, 31, 32, 33, 34, 35, 36, 8, 37, 38, 39, 40, 41, 42, 43, 44, 45, 46, 47, 48, 49, 50, 51, 52, 53, 54, 55, 56, 57, 6, 58, 59, 60, 61, 62, 63, 64, 65, 9, 67, 68, 69, 66, 70, 71, 12, 13, 72, 73, 74, 75, 76, 77, 78, 79, 80, 81, 82, 83, 84, 85, 86, 87, 88, 89, 90, 91, 92, 93, 94, 95, 97, 98, 99, 96, 100, 101, 14, 15, 102, 103, 104, 105, 106, 107, 108, 109, 27] (fun k => k ≤ l.length) (fun k => [(27, .int .i64 (k : Nat)), (8, .int .u64 (stepAll ⟨1, p, []⟩ (l.take k)).e), (9, .int .u64 (leftN te tp (stepAll ⟨1, p, []⟩ (l.take k)).cuts))]) (fun k => setAt 0 (ViewA g1 (stepAll ⟨1, p, []⟩ (l.take k)))) (fun k => l.length - k) 0 (Nat.zero_le _) ⟨rfl, rfl, rfl, trivial⟩ (fun _ s => s) ?_
    intro k hk
    simp only [setAt]
    have hlen : (stepAll ⟨1, p, []⟩ (l.take k)).cuts.length ≤ 1000000 := by
      have h1 := stepAll_len ⟨1, p, []⟩ (l.take k)
      have h2 := take_len_le l k
      simp only [List.length_nil] at h1
      omega
    have hep := stepAll_e ⟨1, p, []⟩ (l.take k) (fun x hx => hok x (List.mem_of_mem_take hx)) (by simp)
    have hep2 : (stepAll ⟨1, p, []⟩ (l.take k)).e ≤ 501 := by
      have h2 := take_len_le l k
      simp only at hep
      omega
    have hsu0 : ∀ (hlt : k < l.length), stepAll ⟨1, p, []⟩ (l.take (k + 1)) = (stepAll ⟨1, p, []⟩ (l.take k)).step l[k] := fun hlt => stepAll_succ _ l k hlt
    obtain ⟨v, hv⟩ : ∃ v, v = stepAll ⟨1, p, []⟩ (l.take k) := ⟨_, rfl⟩
    rw [← hv] at hlen hep hep2 hsu0 ⊢
    simp only at hep
    refine at_seq_k (fun K10 hK10 => ?_)
    refine at_region ?_
    refine at_v (ov_int rfl rfl rfl rfl) rfl rfl rfl ?_
    refine at_nil ?_
    refine at_normal ?_
    refine hK10 _ _ ?_
    refine at_seq_k (fun K11 hK11 => ?_)
    refine at_cond rfl (fun hc => ?_) (fun hc => ?_)
    · have hlt : k < l.length := by simpa using hc
      have hget : l[k]? = some l[k] := List.getElem?_eq_getElem hlt
      have hsu := hsu0 hlt
      have hx := hok _ (List.mem_of_getElem? hget)
      obtain ⟨x, hxx⟩ : ∃ x, x = l[k] := ⟨_, rfl⟩
      rw [← hxx] at hget hsu hx
      obtain ⟨hx1, hx2, hx3, hx4⟩ := hx
      have hmod : x.epoch.tmod 5 = x.epoch % 5 := Int.tmod_eq_emod_of_nonneg hx1
      have hm5 : x.epoch % 5 < 5 := Int.emod_lt_of_pos _ (by omega)
      have hm0 : 0 ≤ x.epoch % 5 := Int.emod_nonneg _ (by omega)
      have hst : v.step x = ⟨v.e + (x.epoch.tmod 5 + 1), x.pri, v.cuts ++ [(v.e + (x.epoch.tmod 5 + 1), x.cut)]⟩ := if_neg (by omega)
      have hlearn : v.learn (v.e + (x.epoch.tmod 5 + 1)) x.pri x.cut = v.step x := rfl
      have hlearns : v.learns (v.e + (x.epoch.tmod 5 + 1)) = true := decide_eq_true (by omega)
      have hi1 : (v.learn (v.e + (x.epoch.tmod 5 + 1)) x.pri x.cut).e = v.e + (x.epoch.tmod 5 + 1) := by rw [hlearn, hst]
      have hi2 : (v.learn (v.e + (x.epoch.tmod 5 + 1)) x.pri x.cut).p = x.pri := by rw [hlearn, hst]
      have hlen2 : (v.learn (v.e + (x.epoch.tmod 5 + 1)) x.pri x.cut).cuts.length ≤ 1000000 := by
        have := learn_len v (v.e + (x.epoch.tmod 5 + 1)) x.pri x.cut
        have h3 := stepAll_len ⟨1, p, []⟩ (l.take k)
        have h4 := take_len_le l k
        rw [← hv] at h3
        simp only [List.length_nil] at h3
        omega
      have hcu : (v.step x).cuts = v.cuts ++ [(v.e + (x.epoch.tmod 5 + 1), x.cut)] := by rw [hst]
      have hse : (v.step x).e = v.e + (x.epoch.tmod 5 + 1) := by rw [hst]
      have hlf : leftN te tp (v.step x).cuts = left1 te (leftN te tp v.cuts) (v.e + (x.epoch.tmod 5 + 1), x.cut) := by rw [hcu]; simp [leftN]
      rw [← hlearn] at hse hlf
      by_cases hte : te < v.e + (x.epoch.tmod 5 + 1)
      · have hl2 : left1 te (leftN te tp v.cuts) (v.e + (x.epoch.tmod 5 + 1), x.cut) = min (leftN te tp v.cuts) x.cut := if_pos hte
        have hT : bringT (v.learn (v.e + (x.epoch.tmod 5 + 1)) x.pri x.cut) te tp = (v.e + (x.epoch.tmod 5 + 1), min (leftN te tp v.cuts) x.cut) := by
          unfold bringT; rw [if_neg (by omega), hse, hlf, hl2]
        have hi3 := hT
        have hi4 : bringB (v.learn (v.e + (x.epoch.tmod 5 + 1)) x.pri x.cut) te tp = decide (min (leftN te tp v.cuts) x.cut = tp) := by
          unfold bringB; rw [if_neg (by omega), hlf, hl2]
        have hi5 : bringT (v.learn (v.e + (x.epoch.tmod 5 + 1)) x.pri x.cut) (v.e + (x.epoch.tmod 5 + 1)) (min (leftN te tp v.cuts) x.cut) = (v.e + (x.epoch.tmod 5 + 1), min (leftN te tp v.cuts) x.cut) := by
          unfold bringT; rw [if_pos (by omega)]
        have hi6 : bringB (v.learn (v.e + (x.epoch.tmod 5 + 1)) x.pri x.cut) (v.e + (x.epoch.tmod 5 + 1)) (min (leftN te tp v.cuts) x.cut) = true := by
          unfold bringB; rw [if_pos (by omega)]
        refine at_skip ?_
        refine at_normal ?_
        refine hK11 _ _ ?_
        refine at_seq_k (fun K12 hK12 => ?_)
        refine at_block ?_
        refine at_seq_k (fun K13 hK13 => ?_)
        refine at_region ?_
        refine at_v (ov_indexRd (fun _ s => hr.up s) rfl Try.underlying22 rfl rfl rfl hget) rfl rfl rfl ?_
        refine at_v (ov_loadRdS (vs := [_, _, _]) (fun _ s => hr.up s) rfl rfl rfl hget rfl rfl) rfl rfl rfl ?_
        refine at_t (ot_allocA rfl Try.zeroValue45) rfl rfl rfl ?_
        rintro _ _ ⟨g2, rfl, rfl⟩
        refine at_t0 (ot_store (k := 0) rfl rfl rfl rfl rfl rfl rfl) rfl rfl ?_
        rintro _ _ ⟨rfl, rfl⟩
        simp only [setAt, splice, spliceL, Value.cells]
        refine at_nil ?_
        refine at_normal ?_
        refine hK13 _ _ ?_
        refine at_seq_k (fun K14 hK14 => ?_)
        refine at_region ?_
        refine at_v (ov_move rfl rfl) rfl rfl rfl ?_
        refine at_v (ov_fieldAddr (k := 0) (r := 0) rfl rfl rfl rfl) rfl rfl rfl ?_
        refine at_v (ov_load rfl rfl rfl (fun _ s => s.ld (k := 0) rfl rfl)) rfl rfl rfl ?_
        refine at_v (ov_rem rfl rfl rfl (by omega)) rfl rfl rfl ?_
        refine at_v ((ov_int rfl rfl rfl rfl).eq (congrArg (Value.int .u64) (inK_u64 (by omega) (by omega)))) rfl rfl rfl ?_
        refine at_v ((ov_int rfl rfl rfl rfl).eq (congrArg (Value.int .u64) (inK_u64 (by omega) (by omega)))) rfl rfl rfl ?_
        refine at_v (ov_assign rfl rfl) rfl rfl rfl ?_
        refine at_nil ?_
        refine at_normal ?_
        refine hK14 _ _ ?_
        refine at_seq_k (fun K15 hK15 => ?_)
        refine at_seq_k (fun K16 hK16 => ?_)
        refine at_draw _ [(true, 0), (true, 1), (true, 2), (true, 3), (true, 4), (true, 5), (false, 6), (true, 7), (true, 8), (true, 9), (true, 11), (false, 10), (true, 12), (true, 13), (true, 14), (true, 15), (true, 17), (true, 18), (false, 16), (true, 19), (true, 20)] (by kernel_rfl) (by kernel_rfl) (fun _ s => (s.pulls (ks := [0, 1]) rfl).left) ?_
        refine aq_v (ov_move rfl rfl) rfl rfl rfl ?_
        refine aq_v (ov_move rfl rfl) rfl rfl rfl ?_
        refine aq_v (ov_fieldAddr (k := 2) (r := 2) rfl rfl rfl rfl) rfl rfl rfl ?_
        refine aq_v (ov_load rfl rfl rfl (fun _ s => s.ld (k := 0) rfl rfl)) rfl rfl rfl ?_
        refine aq_v (ov_fieldAddr (k := 1) (r := 1) rfl rfl rfl rfl) rfl rfl rfl ?_
        refine aq_v (ov_load rfl rfl rfl (fun _ s => s.ld (k := 0) rfl rfl)) rfl rfl rfl ?_
        refine aq_t (ot_call (ks := [1]) rfl rfl rfl Try.call15 rfl (T15 _ _ _ _ _ _ (by first | assumption | omega | decide | (simp; done) | (simp at *; omega))) rfl) rfl rfl rfl ?_
        rintro v0 _ ⟨m0, hp0, rfl⟩
        obtain ⟨rfl, rfl⟩ := hp0
        simp only [List.cons_append, List.nil_append]
        refine ⟨fun _ s => (s.pulls (ks := [1, 1]) rfl).left, ?_⟩
        refine aq_v (ov_not rfl rfl) rfl rfl rfl ?_
        refine aq_v (ov_move rfl rfl) rfl rfl rfl ?_
        refine at_reval 45 (.bool false) rfl (congrArg Value.bool (by simp [h, hc, hlearns, hi1, hi2, hi3, hi4, hi5, hi6]; done)) ?_
        refine aq_wanted (j := 8) rfl ?_
        refine aq_v (ov_move rfl rfl) rfl rfl rfl ?_
        refine aq_wanted (j := 8) rfl ?_
        refine aq_v (ov_move rfl rfl) rfl rfl rfl ?_
        refine aq_wanted (j := 8) rfl ?_
        refine aq_t (ot_call (ks := [0]) rfl rfl rfl Try.call13 rfl (T13 _ _ _) rfl) rfl rfl rfl ?_
        rintro v0 _ ⟨m0, hp0, rfl⟩
        obtain ⟨rfl, rfl⟩ := hp0
        simp only [List.cons_append, List.nil_append]
        refine ⟨fun _ s => (s.pulls (ks := [1, 1]) rfl).left, ?_⟩
        refine aq_wanted (j := 8) rfl ?_
        refine aq_v (ov_int rfl rfl rfl rfl) rfl rfl rfl ?_
        refine aq_v (ov_pick_f rfl rfl rfl) rfl rfl rfl ?_
        refine aq_v (ov_move rfl rfl) rfl rfl rfl ?_
        refine at_reval 51 (.bool false) rfl (congrArg Value.bool (by simp [h, hc, hlearns, hi1, hi2, hi3, hi4, hi5, hi6]; done)) ?_
        refine aq_wanted (j := 14) rfl ?_
        refine aq_v (ov_move rfl rfl) rfl rfl rfl ?_
        refine aq_wanted (j := 14) rfl ?_
        refine aq_v (ov_fieldAddr (k := 2) (r := 2) rfl rfl rfl rfl) rfl rfl rfl ?_
        refine aq_wanted (j := 14) rfl ?_
        refine aq_v (ov_load rfl rfl rfl (fun _ s => s.ld (k := 0) rfl rfl)) rfl rfl rfl ?_
        refine aq_wanted (j := 14) rfl ?_
        refine aq_t (ot_call (ks := [0]) rfl rfl rfl Try.call14 rfl (T14 _ _ _) rfl) rfl rfl rfl ?_
        rintro v0 _ ⟨m0, hp0, rfl⟩
        obtain ⟨rfl, rfl⟩ := hp0
        simp only [List.cons_append, List.nil_append]
        refine ⟨fun _ s => (s.pulls (ks := [1, 1]) rfl).left, ?_⟩
        refine aq_wanted (j := 14) rfl ?_
        refine aq_v (ov_int rfl rfl rfl rfl) rfl rfl rfl ?_
        refine aq_v (ov_pick_f rfl rfl rfl) rfl rfl rfl ?_
        refine aq_nil ?_
        refine at_normal ?_
        refine hK16 _ _ ?_
        refine at_cond_false (congrArg (fun b => some (Value.bool b)) (show _ = false from by simp [h, hc, hlearns, hi1, hi2, hi3, hi4, hi5, hi6]; done)) ?_
        refine at_skip ?_
        refine at_normal ?_
        refine hK15 _ _ ?_
        refine at_seq_k (fun K17 hK17 => ?_)
        refine at_seq_k (fun K18 hK18 => ?_)
        refine at_region ?_
        refine at_v (ov_move rfl rfl) rfl rfl rfl ?_
        refine at_v (ov_fieldAddr (k := 0) (r := 0) rfl rfl rfl rfl) rfl rfl rfl ?_
        refine at_v (ov_load rfl rfl rfl (fun _ s => s.ld (k := 2) rfl rfl)) rfl rfl rfl ?_
        refine at_v (ov_int rfl rfl rfl rfl) rfl rfl rfl ?_
        refine at_nil ?_
        refine at_normal ?_
        refine hK18 _ _ ?_
        refine at_cond rfl (fun h0 => ?_) (fun h0 => ?_)
        ·
          simp only [decide_eq_true_eq, decide_eq_false_iff_not, Bool.not_eq_true', Bool.not_eq_false', Int.not_lt, Int.not_le, Bool.and_eq_true, Bool.or_eq_true, Bool.and_eq_false_iff, Bool.or_eq_false_iff, gt_iff_lt, ge_iff_le] at h0
          refine at_region ?_
          refine at_v (ov_move rfl rfl) rfl rfl rfl ?_
          refine at_v (ov_fieldAddr (k := 1) (r := 1) rfl rfl rfl rfl) rfl rfl rfl ?_
          refine at_v (ov_load rfl rfl rfl (fun _ s => s.ld (k := 1) rfl rfl)) rfl rfl rfl ?_
          refine at_v (ov_min rfl rfl rfl) rfl rfl rfl ?_
          refine at_v (ov_assign rfl rfl) rfl rfl rfl ?_
          refine at_nil ?_
          refine at_normal ?_
          refine hK17 _ _ ?_
          refine at_seq_k (fun K19 hK19 => ?_)
          refine at_region ?_
          refine at_v (ov_move rfl rfl) rfl rfl rfl ?_
          refine at_v (ov_loadS (cs := [_, _]) rfl rfl rfl rfl (fun _ s => s.lds (k := 2) rfl ⟨rfl, rfl, trivial⟩)) rfl rfl rfl ?_
          refine at_t (ot_call (ks := [0]) rfl rfl rfl Try.call9 rfl (T9 _ _ _ _ _ (by first | assumption | omega | decide | (simp; done) | (simp at *; omega))) rfl) rfl rfl rfl ?_
          rintro v0 _ ⟨m0, hp0, rfl⟩
          obtain ⟨rfl, rfl⟩ := hp0
          simp only [List.cons_append, List.nil_append]
          refine at_v (ov_move rfl rfl) rfl rfl rfl ?_
          refine at_v (ov_extract rfl rfl rfl) rfl rfl rfl ?_
          refine at_v (ov_extract rfl rfl rfl) rfl rfl rfl ?_
          refine at_t (ot_allocA rfl Try.zeroValue25) rfl rfl rfl ?_
          rintro _ _ ⟨g3, rfl, rfl⟩
          refine at_t0 (ot_store (k := 0) rfl rfl rfl rfl rfl rfl rfl) rfl rfl ?_
          rintro _ _ ⟨rfl, rfl⟩
          simp only [setAt, splice, spliceL, Value.cells]
          refine at_v (ov_assign rfl rfl) rfl rfl rfl ?_
          refine at_nil ?_
          refine at_normal ?_
          refine hK19 _ _ ?_
          refine at_seq_k (fun K20 hK20 => ?_)
          refine at_seq_k (fun K21 hK21 => ?_)
          refine at_region ?_
          refine at_v (ov_fieldAddr (k := 0) (r := 0) rfl rfl rfl rfl) rfl rfl rfl ?_
          refine at_v (ov_load rfl rfl rfl (fun _ s => s.ld (k := 3) rfl rfl)) rfl rfl rfl ?_
          refine at_v (ov_move rfl rfl) rfl rfl rfl ?_
          refine at_v (ov_int rfl rfl rfl rfl) rfl rfl rfl ?_
          refine at_nil ?_
          refine at_normal ?_
          refine hK21 _ _ ?_
          refine at_cond rfl (fun h1 => ?_) (fun h1 => ?_)
          ·
            simp only [decide_eq_true_eq, decide_eq_false_iff_not, Bool.not_eq_true', Bool.not_eq_false', Int.not_lt, Int.not_le, Bool.and_eq_true, Bool.or_eq_true, Bool.and_eq_false_iff, Bool.or_eq_false_iff, gt_iff_lt, ge_iff_le] at h1
            (exfalso; omega)
          ·
            simp only [decide_eq_true_eq, decide_eq_false_iff_not, Bool.not_eq_true', Bool.not_eq_false', Int.not_lt, Int.not_le, Bool.and_eq_true, Bool.or_eq_true, Bool.and_eq_false_iff, Bool.or_eq_false_iff, gt_iff_lt, ge_iff_le] at h1
            refine at_skip ?_
            refine at_normal ?_
            refine hK20 _ _ ?_
            refine at_seq_k (fun K22 hK22 => ?_)
            refine at_seq_k (fun K23 hK23 => ?_)
            refine at_region ?_
            refine at_v (ov_move rfl rfl) rfl rfl rfl ?_
            refine at_v (ov_move rfl rfl) rfl rfl rfl ?_
            refine at_v (ov_fieldAddr (k := 1) (r := 1) rfl rfl rfl rfl) rfl rfl rfl ?_
            refine at_v (ov_load rfl rfl rfl (fun _ s => s.ld (k := 3) rfl rfl)) rfl rfl rfl ?_
            refine at_v (ov_int rfl rfl rfl rfl) rfl rfl rfl ?_
            refine at_v (ov_boolne rfl Try.underlying4 rfl rfl) rfl rfl rfl ?_
            refine at_v (ov_move rfl rfl) rfl rfl rfl ?_
            refine at_reval 89 (.bool false) rfl (congrArg Value.bool (by simp [h, hc, hlearns, hi1, hi2, hi3, hi4, hi5, hi6]; done)) ?_
            refine at_wanted (j := 6) rfl ?_
            refine at_v (ov_loadS (cs := [_, _]) rfl rfl rfl rfl (fun _ s => s.lds (k := 0) rfl ⟨rfl, rfl, trivial⟩)) rfl rfl rfl ?_
            refine at_wanted (j := 6) rfl ?_
            refine at_v (ov_move rfl rfl) rfl rfl rfl ?_
            refine at_wanted (j := 6) rfl ?_
            refine at_v (ov_move rfl rfl) rfl rfl rfl ?_
            refine at_wanted (j := 6) rfl ?_
            refine at_v (ov_build (cs := [_, _]) rfl rfl rfl rfl) rfl rfl rfl ?_
            refine at_wanted (j := 6) rfl ?_
            refine at_v (ov_neS rfl (by kernel_rfl) rfl rfl rfl rfl) rfl rfl rfl ?_
            refine at_v (ov_pick_f rfl rfl rfl) rfl rfl rfl ?_
            refine at_nil ?_
            refine at_normal ?_
            refine hK23 _ _ ?_
            refine at_cond_false (congrArg (fun b => some (Value.bool b)) (show _ = false from by simp [h, hc, hlearns, hi1, hi2, hi3, hi4, hi5, hi6]; done)) ?_
            refine at_skip ?_
            refine at_normal ?_
            refine hK22 _ _ ?_
            refine at_seq_k (fun K24 hK24 => ?_)
            refine at_region ?_
            refine at_v (ov_move rfl rfl) rfl rfl rfl ?_
            refine at_v (ov_loadS (cs := [_, _]) rfl rfl rfl rfl (fun _ s => s.lds (k := 0) rfl ⟨rfl, rfl, trivial⟩)) rfl rfl rfl ?_
            refine at_t (ot_call (ks := [1]) rfl rfl rfl Try.call9 rfl (T9 _ _ _ _ _ (by first | assumption | omega | decide | (simp; done) | (simp at *; omega))) rfl) rfl rfl rfl ?_
            rintro v0 _ ⟨m0, hp0, rfl⟩
            obtain ⟨rfl, rfl⟩ := hp0
            simp only [List.cons_append, List.nil_append]
            refine at_v (ov_move rfl rfl) rfl rfl rfl ?_
            refine at_v (ov_extract rfl rfl rfl) rfl rfl rfl ?_
            refine at_v (ov_extract rfl rfl rfl) rfl rfl rfl ?_
            refine at_t (ot_allocA rfl Try.zeroValue25) rfl rfl rfl ?_
            rintro _ _ ⟨g4, rfl, rfl⟩
            refine at_t0 (ot_store (k := 0) rfl rfl rfl rfl rfl rfl rfl) rfl rfl ?_
            rintro _ _ ⟨rfl, rfl⟩
            simp only [setAt, splice, spliceL, Value.cells]
            refine at_v (ov_assign rfl rfl) rfl rfl rfl ?_
            refine at_nil ?_
            refine at_normal ?_
            refine hK24 _ _ ?_
            refine at_seq_k (fun K25 hK25 => ?_)
            refine at_region ?_
            refine at_v (ov_move rfl rfl) rfl rfl rfl ?_
            refine at_v (ov_not rfl rfl) rfl rfl rfl ?_
            refine at_v (ov_move rfl rfl) rfl rfl rfl ?_
            refine at_reval 104 (.bool false) rfl (congrArg Value.bool (by simp [h, hc, hlearns, hi1, hi2, hi3, hi4, hi5, hi6]; done)) ?_
            refine at_wanted (j := 2) rfl ?_
            refine at_v (ov_loadS (cs := [_, _]) rfl rfl rfl rfl (fun _ s => s.lds (k := 0) rfl ⟨rfl, rfl, trivial⟩)) rfl rfl rfl ?_
            refine at_wanted (j := 2) rfl ?_
            refine at_v (ov_loadS (cs := [_, _]) rfl rfl rfl rfl (fun _ s => s.lds (k := 2) rfl ⟨rfl, rfl, trivial⟩)) rfl rfl rfl ?_
            refine at_wanted (j := 2) rfl ?_
            refine at_v (ov_neS rfl (by kernel_rfl) rfl rfl rfl rfl) rfl rfl rfl ?_
            refine at_v (ov_pick_f rfl rfl rfl) rfl rfl rfl ?_
            refine at_nil ?_
            refine at_normal ?_
            refine hK25 _ _ ?_
            refine at_cond_false (congrArg (fun b => some (Value.bool b)) (show _ = false from by simp [h, hc, hlearns, hi1, hi2, hi3, hi4, hi5, hi6]; done)) ?_
            refine at_skip ?_
            refine at_inb_normal ?_
            refine at_normal ?_
            refine hK12 _ _ ?_
            refine at_region ?_
            refine at_v ((ov_int rfl rfl rfl rfl).eq (congrArg (Value.int .i64) (inK_i64 (by omega) (by omega)))) rfl rfl rfl ?_
            refine at_v (ov_move rfl rfl) rfl rfl rfl ?_
            refine at_nil ?_
            refine at_normal ?_
            refine at_roundF (k + 1) hlt (by omega) ⟨rfl, ?_, ?_, trivial⟩ rfl ?_
            exact look_eq rfl (congrArg (Value.int .u64) (by rw [hsu, hst]))
            exact look_eq rfl (congrArg (Value.int .u64) (by rw [hsu, ← hlearn, hlf, hl2]))
            rw [hsu, hlearn]
            exact fun _ s => s.finEq (ks := [1, 3]) (js := [0, 0, 0]) rfl rfl rfl
        ·
          simp only [decide_eq_true_eq, decide_eq_false_iff_not, Bool.not_eq_true', Bool.not_eq_false', Int.not_lt, Int.not_le, Bool.and_eq_true, Bool.or_eq_true, Bool.and_eq_false_iff, Bool.or_eq_false_iff, gt_iff_lt, ge_iff_le] at h0
          (exfalso; omega)
      · have hl2 : left1 te (leftN te tp v.cuts) (v.e + (x.epoch.tmod 5 + 1), x.cut) = leftN te tp v.cuts := if_neg hte
        have hi3 : bringT (v.learn (v.e + (x.epoch.tmod 5 + 1)) x.pri x.cut) te tp = (te, tp) := by
          unfold bringT; rw [if_pos (by omega)]
        have hi4 : bringB (v.learn (v.e + (x.epoch.tmod 5 + 1)) x.pri x.cut) te tp = true := by
          unfold bringB; rw [if_pos (by omega)]
        refine at_skip ?_
        refine at_normal ?_
        refine hK11 _ _ ?_
        refine at_seq_k (fun K12 hK12 => ?_)
        refine at_block ?_
        refine at_seq_k (fun K13 hK13 => ?_)
        refine at_region ?_
        refine at_v (ov_indexRd (fun _ s => hr.up s) rfl Try.underlying22 rfl rfl rfl hget) rfl rfl rfl ?_
        refine at_v (ov_loadRdS (vs := [_, _, _]) (fun _ s => hr.up s) rfl rfl rfl hget rfl rfl) rfl rfl rfl ?_
        refine at_t (ot_allocA rfl Try.zeroValue45) rfl rfl rfl ?_
        rintro _ _ ⟨g2, rfl, rfl⟩
        refine at_t0 (ot_store (k := 0) rfl rfl rfl rfl rfl rfl rfl) rfl rfl ?_
        rintro _ _ ⟨rfl, rfl⟩
        simp only [setAt, splice, spliceL, Value.cells]
        refine at_nil ?_
        refine at_normal ?_
        refine hK13 _ _ ?_
        refine at_seq_k (fun K14 hK14 => ?_)
        refine at_region ?_
        refine at_v (ov_move rfl rfl) rfl rfl rfl ?_
        refine at_v (ov_fieldAddr (k := 0) (r := 0) rfl rfl rfl rfl) rfl rfl rfl ?_
        refine at_v (ov_load rfl rfl rfl (fun _ s => s.ld (k := 0) rfl rfl)) rfl rfl rfl ?_
        refine at_v (ov_rem rfl rfl rfl (by omega)) rfl rfl rfl ?_
        refine at_v ((ov_int rfl rfl rfl rfl).eq (congrArg (Value.int .u64) (inK_u64 (by omega) (by omega)))) rfl rfl rfl ?_
        refine at_v ((ov_int rfl rfl rfl rfl).eq (congrArg (Value.int .u64) (inK_u64 (by omega) (by omega)))) rfl rfl rfl ?_
        refine at_v (ov_assign rfl rfl) rfl rfl rfl ?_
        refine at_nil ?_
        refine at_normal ?_
        refine hK14 _ _ ?_
        refine at_seq_k (fun K15 hK15 => ?_)
        refine at_seq_k (fun K16 hK16 => ?_)
        refine at_draw _ [(true, 0), (true, 1), (true, 2), (true, 3), (true, 4), (true, 5), (false, 6), (true, 7), (true, 8), (true, 9), (true, 11), (false, 10), (true, 12), (true, 13), (true, 14), (true, 15), (true, 17), (true, 18), (false, 16), (true, 19), (true, 20)] (by kernel_rfl) (by kernel_rfl) (fun _ s => (s.pulls (ks := [0, 1]) rfl).left) ?_
        refine aq_v (ov_move rfl rfl) rfl rfl rfl ?_
        refine aq_v (ov_move rfl rfl) rfl rfl rfl ?_
        refine aq_v (ov_fieldAddr (k := 2) (r := 2) rfl rfl rfl rfl) rfl rfl rfl ?_
        refine aq_v (ov_load rfl rfl rfl (fun _ s => s.ld (k := 0) rfl rfl)) rfl rfl rfl ?_
        refine aq_v (ov_fieldAddr (k := 1) (r := 1) rfl rfl rfl rfl) rfl rfl rfl ?_
        refine aq_v (ov_load rfl rfl rfl (fun _ s => s.ld (k := 0) rfl rfl)) rfl rfl rfl ?_
        refine aq_t (ot_call (ks := [1]) rfl rfl rfl Try.call15 rfl (T15 _ _ _ _ _ _ (by first | assumption | omega | decide | (simp; done) | (simp at *; omega))) rfl) rfl rfl rfl ?_
        rintro v0 _ ⟨m0, hp0, rfl⟩
        obtain ⟨rfl, rfl⟩ := hp0
        simp only [List.cons_append, List.nil_append]
        refine ⟨fun _ s => (s.pulls (ks := [1, 1]) rfl).left, ?_⟩
        refine aq_v (ov_not rfl rfl) rfl rfl rfl ?_
        refine aq_v (ov_move rfl rfl) rfl rfl rfl ?_
        refine at_reval 45 (.bool false) rfl (congrArg Value.bool (by simp [h, hc, hlearns, hi1, hi2, hi3, hi4]; done)) ?_
        refine aq_wanted (j := 8) rfl ?_
        refine aq_v (ov_move rfl rfl) rfl rfl rfl ?_
        refine aq_wanted (j := 8) rfl ?_
        refine aq_v (ov_move rfl rfl) rfl rfl rfl ?_
        refine aq_wanted (j := 8) rfl ?_
        refine aq_t (ot_call (ks := [0]) rfl rfl rfl Try.call13 rfl (T13 _ _ _) rfl) rfl rfl rfl ?_
        rintro v0 _ ⟨m0, hp0, rfl⟩
        obtain ⟨rfl, rfl⟩ := hp0
        simp only [List.cons_append, List.nil_append]
        refine ⟨fun _ s => (s.pulls (ks := [1, 1]) rfl).left, ?_⟩
        refine aq_wanted (j := 8) rfl ?_
        refine aq_v (ov_int rfl rfl rfl rfl) rfl rfl rfl ?_
        refine aq_v (ov_pick_f rfl rfl rfl) rfl rfl rfl ?_
        refine aq_v (ov_move rfl rfl) rfl rfl rfl ?_
        refine at_reval 51 (.bool false) rfl (congrArg Value.bool (by simp [h, hc, hlearns, hi1, hi2, hi3, hi4]; done)) ?_
        refine aq_wanted (j := 14) rfl ?_
        refine aq_v (ov_move rfl rfl) rfl rfl rfl ?_
        refine aq_wanted (j := 14) rfl ?_
        refine aq_v (ov_fieldAddr (k := 2) (r := 2) rfl rfl rfl rfl) rfl rfl rfl ?_
        refine aq_wanted (j := 14) rfl ?_
        refine aq_v (ov_load rfl rfl rfl (fun _ s => s.ld (k := 0) rfl rfl)) rfl rfl rfl ?_
        refine aq_wanted (j := 14) rfl ?_
        refine aq_t (ot_call (ks := [0]) rfl rfl rfl Try.call14 rfl (T14 _ _ _) rfl) rfl rfl rfl ?_
        rintro v0 _ ⟨m0, hp0, rfl⟩
        obtain ⟨rfl, rfl⟩ := hp0
        simp only [List.cons_append, List.nil_append]
        refine ⟨fun _ s => (s.pulls (ks := [1, 1]) rfl).left, ?_⟩
        refine aq_wanted (j := 14) rfl ?_
        refine aq_v (ov_int rfl rfl rfl rfl) rfl rfl rfl ?_
        refine aq_v (ov_pick_f rfl rfl rfl) rfl rfl rfl ?_
        refine aq_nil ?_
        refine at_normal ?_
        refine hK16 _ _ ?_
        refine at_cond_false (congrArg (fun b => some (Value.bool b)) (show _ = false from by simp [h, hc, hlearns, hi1, hi2, hi3, hi4]; done)) ?_
        refine at_skip ?_
        refine at_normal ?_
        refine hK15 _ _ ?_
        refine at_seq_k (fun K17 hK17 => ?_)
        refine at_seq_k (fun K18 hK18 => ?_)
        refine at_region ?_
        refine at_v (ov_move rfl rfl) rfl rfl rfl ?_
        refine at_v (ov_fieldAddr (k := 0) (r := 0) rfl rfl rfl rfl) rfl rfl rfl ?_
        refine at_v (ov_load rfl rfl rfl (fun _ s => s.ld (k := 2) rfl rfl)) rfl rfl rfl ?_
        refine at_v (ov_int rfl rfl rfl rfl) rfl rfl rfl ?_
        refine at_nil ?_
        refine at_normal ?_
        refine hK18 _ _ ?_
        refine at_cond rfl (fun h0 => ?_) (fun h0 => ?_)
        ·
          simp only [decide_eq_true_eq, decide_eq_false_iff_not, Bool.not_eq_true', Bool.not_eq_false', Int.not_lt, Int.not_le, Bool.and_eq_true, Bool.or_eq_true, Bool.and_eq_false_iff, Bool.or_eq_false_iff, gt_iff_lt, ge_iff_le] at h0
          (exfalso; omega)
        ·
          simp only [decide_eq_true_eq, decide_eq_false_iff_not, Bool.not_eq_true', Bool.not_eq_false', Int.not_lt, Int.not_le, Bool.and_eq_true, Bool.or_eq_true, Bool.and_eq_false_iff, Bool.or_eq_false_iff, gt_iff_lt, ge_iff_le] at h0
          refine at_skip ?_
          refine at_normal ?_
          refine hK17 _ _ ?_
          refine at_seq_k (fun K19 hK19 => ?_)
          refine at_region ?_
          refine at_v (ov_move rfl rfl) rfl rfl rfl ?_
          refine at_v (ov_loadS (cs := [_, _]) rfl rfl rfl rfl (fun _ s => s.lds (k := 2) rfl ⟨rfl, rfl, trivial⟩)) rfl rfl rfl ?_
          refine at_t (ot_call (ks := [0]) rfl rfl rfl Try.call9 rfl (T9 _ _ _ _ _ (by first | assumption | omega | decide | (simp; done) | (simp at *; omega))) rfl) rfl rfl rfl ?_
          rintro v0 _ ⟨m0, hp0, rfl⟩
          obtain ⟨rfl, rfl⟩ := hp0
          simp only [List.cons_append, List.nil_append]
          refine at_v (ov_move rfl rfl) rfl rfl rfl ?_
          refine at_v (ov_extract rfl rfl rfl) rfl rfl rfl ?_
          refine at_v (ov_extract rfl rfl rfl) rfl rfl rfl ?_
          refine at_t (ot_allocA rfl Try.zeroValue25) rfl rfl rfl ?_
          rintro _ _ ⟨g3, rfl, rfl⟩
          refine at_t0 (ot_store (k := 0) rfl rfl rfl rfl rfl rfl rfl) rfl rfl ?_
          rintro _ _ ⟨rfl, rfl⟩
          simp only [setAt, splice, spliceL, Value.cells]
          refine at_v (ov_assign rfl rfl) rfl rfl rfl ?_
          refine at_nil ?_
          refine at_normal ?_
          refine hK19 _ _ ?_
          refine at_seq_k (fun K20 hK20 => ?_)
          refine at_seq_k (fun K21 hK21 => ?_)
          refine at_region ?_
          refine at_v (ov_fieldAddr (k := 0) (r := 0) rfl rfl rfl rfl) rfl rfl rfl ?_
          refine at_v (ov_load rfl rfl rfl (fun _ s => s.ld (k := 3) rfl rfl)) rfl rfl rfl ?_
          refine at_v (ov_move rfl rfl) rfl rfl rfl ?_
          refine at_v (ov_int rfl rfl rfl rfl) rfl rfl rfl ?_
          refine at_nil ?_
          refine at_normal ?_
          refine hK21 _ _ ?_
          refine at_cond rfl (fun h1 => ?_) (fun h1 => ?_)
          ·
            simp only [decide_eq_true_eq, decide_eq_false_iff_not, Bool.not_eq_true', Bool.not_eq_false', Int.not_lt, Int.not_le, Bool.and_eq_true, Bool.or_eq_true, Bool.and_eq_false_iff, Bool.or_eq_false_iff, gt_iff_lt, ge_iff_le] at h1
            refine at_seq_k (fun K22 hK22 => ?_)
            refine at_seq_k (fun K23 hK23 => ?_)
            refine at_region ?_
            refine at_v (ov_loadS (cs := [_, _]) rfl rfl rfl rfl (fun _ s => s.lds (k := 0) rfl ⟨rfl, rfl, trivial⟩)) rfl rfl rfl ?_
            refine at_v (ov_loadS (cs := [_, _]) rfl rfl rfl rfl (fun _ s => s.lds (k := 3) rfl ⟨rfl, rfl, trivial⟩)) rfl rfl rfl ?_
            refine at_v (ov_neS rfl (by kernel_rfl) rfl rfl rfl rfl) rfl rfl rfl ?_
            refine at_v (ov_move rfl rfl) rfl rfl rfl ?_
            refine at_reval 79 (.bool false) rfl (congrArg Value.bool (by simp [h, hc, hlearns, hi1, hi2, hi3, hi4]; done)) ?_
            refine at_wanted (j := 3) rfl ?_
            refine at_v (ov_move rfl rfl) rfl rfl rfl ?_
            refine at_wanted (j := 3) rfl ?_
            refine at_v (ov_not rfl rfl) rfl rfl rfl ?_
            refine at_v (ov_pick_f rfl rfl rfl) rfl rfl rfl ?_
            refine at_nil ?_
            refine at_normal ?_
            refine hK23 _ _ ?_
            refine at_cond_false (congrArg (fun b => some (Value.bool b)) (show _ = false from by simp [h, hc, hlearns, hi1, hi2, hi3, hi4]; done)) ?_
            refine at_skip ?_
            refine at_normal ?_
            refine hK22 _ _ ?_
            refine at_exit ?_
            refine at_then_exit ?_
            refine at_exit_eq ?_
            refine at_normal ?_
            refine hK12 _ _ ?_
            refine at_region ?_
            refine at_v ((ov_int rfl rfl rfl rfl).eq (congrArg (Value.int .i64) (inK_i64 (by omega) (by omega)))) rfl rfl rfl ?_
            refine at_v (ov_move rfl rfl) rfl rfl rfl ?_
            refine at_nil ?_
            refine at_normal ?_
            refine at_roundF (k + 1) hlt (by omega) ⟨rfl, ?_, ?_, trivial⟩ rfl ?_
            exact look_eq rfl (congrArg (Value.int .u64) (by rw [hsu, hst]))
            exact look_eq rfl (congrArg (Value.int .u64) (by rw [hsu, ← hlearn, hlf, hl2]))
            rw [hsu, hlearn]
            exact fun _ s => s.finEq (ks := [1, 2]) (js := [0, 0]) rfl rfl rfl
          ·
            simp only [decide_eq_true_eq, decide_eq_false_iff_not, Bool.not_eq_true', Bool.not_eq_false', Int.not_lt, Int.not_le, Bool.and_eq_true, Bool.or_eq_true, Bool.and_eq_false_iff, Bool.or_eq_false_iff, gt_iff_lt, ge_iff_le] at h1
            (exfalso; omega)
    · refine at_exit ?_
      refine at_then_exit ?_
      refine at_then_exit ?_
      refine at_exit_eq ?_
      refine at_normal ?_
      refine hK8 _ _ ?_
      refine at_seq_k (fun K12 hK12 => ?_)
      refine at_region ?_
      refine at_v (ov_assign rfl rfl) rfl rfl rfl ?_
      refine at_nil ?_
      refine at_normal ?_
      refine hK12 _ _ ?_
      refine at_ret ?_
      refine at_end ?_
      refine at_fin (rsV rfl (res_tmp rfl)) ?_
      refine ⟨_, ⟨rfl, rfl⟩, ?_⟩
      exact fun _ s => s.finEq (ks := []) (js := [0, 0]) rfl rfl rfl
theorem leftN_le (te tp : Int) (cuts : List (Int × Int)) : leftN te tp cuts ≤ tp := by
  induction cuts generalizing tp with
  | nil => simp [leftN]
  | cons c r ih =>
    have h := ih (left1 te tp c)
    have : left1 te tp c ≤ tp := by unfold left1; split <;> omega
    simp only [leftN, List.foldl_cons] at h ⊢
    omega
theorem leftN_mono (te : Int) {x y : Int} (h : x ≤ y) (cuts : List (Int × Int)) (hy : leftN te y cuts = y) : leftN te x cuts = x := by
  induction cuts generalizing x y with
  | nil => rfl
  | cons c r ih =>
    have h1 := leftN_le te (left1 te y c) r
    have h2 : left1 te y c ≤ y := by unfold left1; split <;> omega
    simp only [leftN, List.foldl_cons] at h1 hy ⊢
    have h3 : left1 te y c = y := by omega
    have h4 : left1 te x c = x := by
      unfold left1 at h3 ⊢
      split at h3 <;> rename_i hh
      · rw [if_pos hh]; omega
      · rw [if_neg hh]
    rw [h4]
    rw [h3] at hy
    exact ih h hy
theorem bring_mono (v : VM) (te : Int) {x y : Int} (h : x ≤ y) (hy : bringB v te y = true) : bringB v te x = true := by
  unfold bringB at hy ⊢
  split
  · rfl
  · rename_i hh
    rw [if_neg hh] at hy
    exact decide_eq_true (leftN_mono te h v.cuts (of_decide_eq_true hy))
theorem covers_mono (v : VM) (te le lp : Int) {x y : Int} (h : x ≤ y) (hy : coversB v te y le lp = true) : coversB v te x le lp = true := by
  unfold coversB at hy ⊢
  simp only [Bool.and_eq_true, decide_eq_true_eq] at hy ⊢
  obtain ⟨h1, h2, h3⟩ := hy
  have hb := bring_mono v te h h1
  refine ⟨hb, ?_, ?_⟩
  · unfold bringT at h2 ⊢
    split <;> rename_i hh
    · rw [if_pos hh] at h2; exact h2
    · rw [if_neg hh] at h2; exact h2
  · unfold bringB at hb h1
    unfold bringT at h3 ⊢
    split <;> rename_i hh
    · rw [if_pos hh] at h3; simp only at h3 ⊢; omega
    · rw [if_neg hh] at h3 hb h1
      have e1 := of_decide_eq_true hb
      have e2 := of_decide_eq_true h1
      simp only at h3 ⊢
      rw [e1]; rw [e2] at h3; omega
theorem T5 (w0 : World) (p : Int) (A : Option Addr) (c : Nat) (l : List PR) (e a b le lp : Int) (hr : Rd prE w0 3 A l) (hm : l.length ≤ 9223372036854775807) :
    Tri Try.prog w0 5 [.int .i64 p, .slice A l.length c, .int .u64 e, .int .u64 a, .int .u64 b, .int .u64 le, .int .u64 lp] [] fun v m => v = .bool true ∧ m = [] := by
  refine tri_of Try.func5 rfl rfl fun F => ?_
  simp only [Try.ntmps5, argEnv, List.nil_append]
  refine at_seq_k (fun K0 hK0 => ?_)
  refine at_region ?_
  refine at_v (ov_assign rfl rfl) rfl rfl rfl ?_
  refine at_nil ?_
  refine at_normal ?_
  refine hK0 _ _ ?_
  refine at_seq_k (fun K1 hK1 => ?_)
  refine at_seq_k (fun K2 hK2 => ?_)
  refine at_region ?_
  refine at_t (ot_call (ks := []) rfl rfl rfl Try.call6 rfl (T6 _) rfl) rfl rfl rfl ?_
  rintro v0 _ ⟨m0, hp0, rfl⟩
  obtain ⟨rfl, rfl⟩ := hp0
  simp only [List.cons_append, List.nil_append]
  refine at_v (ov_not rfl rfl) rfl rfl rfl ?_
  refine at_nil ?_
  refine at_normal ?_
  refine hK2 _ _ ?_
  refine at_cond_false rfl ?_
  refine at_skip ?_
  refine at_normal ?_
  refine hK1 _ _ ?_
  refine at_seq_k (fun K3 hK3 => ?_)
  refine at_seq_k (fun K4 hK4 => ?_)
  refine at_region ?_
  refine at_v (ov_move rfl rfl) rfl rfl rfl ?_
  refine at_v (ov_len_slice rfl Try.underlying22 rfl) rfl rfl rfl ?_
  refine at_v (ov_int rfl rfl rfl rfl) rfl rfl rfl ?_
  refine at_nil ?_
  refine at_normal ?_
  refine hK4 _ _ ?_
  refine at_cond rfl (fun h => ?_) (fun h => ?_)
  · refine at_seq_k (fun K5 hK5 => ?_)
    refine at_region ?_
    refine at_v (ov_assign rfl rfl) rfl rfl rfl ?_
    refine at_nil ?_
    refine at_normal ?_
    refine hK5 _ _ ?_
    refine at_ret ?_
    refine at_then_ret ?_
    refine at_end ?_
    refine at_fin (rsV rfl (res_tmp rfl)) ?_
    refine ⟨_, ⟨rfl, rfl⟩, ?_⟩
    exact fun _ s => s.finEq (ks := []) (js := []) rfl rfl rfl
  · have hl : l.length ≤ 100 := by
      have : (l.length : Int) ≤ 100 := by simpa using h
      omega
    have hlen : (learnAll ⟨1, p, []⟩ l).cuts.length ≤ 1000000 := by
      have h1 := learnAll_len ⟨1, p, []⟩ l
      simp only [List.length_nil] at h1
      omega
    have hab : min a b ≤ max a b := by omega
    have hb := bring_mono (learnAll ⟨1, p, []⟩ l) e hab
    have hcv := covers_mono (learnAll ⟨1, p, []⟩ l) e le lp hab
    have hl1 : laterT e (min a b) e (max a b) = (e, max a b) := if_neg (by omega)
    have hl2 : laterT e (max a b) e (min a b) = (e, max a b) := by
      unfold laterT
      split
      · rfl
      · rw [show min a b = max a b by omega]
    refine at_skip ?_
    refine at_normal ?_
    refine hK3 _ _ ?_
    refine at_seq_k (fun K5 hK5 => ?_)
    refine at_region ?_
    refine at_v (ov_move rfl rfl) rfl rfl rfl ?_
    refine at_v (ov_move rfl rfl) rfl rfl rfl ?_
    refine at_t (ot_call (ks := []) rfl rfl rfl Try.call19 rfl (T19 _ _ _ _ _ (by first | assumption | omega | decide | (simp; done) | (simp at *; omega)) (by first | assumption | omega | decide | (simp; done) | (simp at *; omega))) rfl) rfl rfl rfl ?_
    rintro v0 _ ⟨m0, hp0, rfl⟩
    obtain ⟨g0, hp0⟩ := hp0
    obtain ⟨rfl, rfl⟩ := hp0
    simp only [List.cons_append, List.nil_append]
    refine at_v (ov_assign rfl rfl) rfl rfl rfl ?_
    refine at_nil ?_
    refine at_normal ?_
    refine hK5 _ _ ?_
    refine at_seq_k (fun K6 hK6 => ?_)
    refine at_region ?_
    refine at_v (ov_move rfl rfl) rfl rfl rfl ?_
    refine at_v (ov_move rfl rfl) rfl rfl rfl ?_
    refine at_v (ov_move rfl rfl) rfl rfl rfl ?_
    refine at_v (ov_min rfl rfl rfl) rfl rfl rfl ?_
    refine at_v (ov_build (cs := [_, _]) rfl rfl rfl rfl) rfl rfl rfl ?_
    refine at_v (ov_move rfl rfl) rfl rfl rfl ?_
    refine at_v (ov_move rfl rfl) rfl rfl rfl ?_
    refine at_v (ov_move rfl rfl) rfl rfl rfl ?_
    refine at_v (ov_max rfl rfl rfl) rfl rfl rfl ?_
    refine at_v (ov_build (cs := [_, _]) rfl rfl rfl rfl) rfl rfl rfl ?_
    refine at_t (ot_allocA rfl Try.zeroValue25) rfl rfl rfl ?_
    rintro _ _ ⟨g1, rfl, rfl⟩
    refine at_t (ot_allocA rfl Try.zeroValue25) rfl rfl rfl ?_
    rintro _ _ ⟨g2, rfl, rfl⟩
    refine at_t0 (ot_store (k := 1) rfl rfl rfl rfl rfl rfl rfl) rfl rfl ?_
    rintro _ _ ⟨rfl, rfl⟩
    simp only [setAt, splice, spliceL, Value.cells]
    refine at_t0 (ot_store (k := 0) rfl rfl rfl rfl rfl rfl rfl) rfl rfl ?_
    rintro _ _ ⟨rfl, rfl⟩
    simp only [setAt, splice, spliceL, Value.cells]
    refine at_nil ?_
    refine at_normal ?_
    refine hK6 _ _ ?_
    refine at_seq_k (fun K7 hK7 => ?_)
    refine at_region ?_
    refine at_v (ov_move rfl rfl) rfl rfl rfl ?_
    refine at_v (ov_loadS (cs := [_, _]) rfl rfl rfl rfl (fun _ s => s.lds (k := 1) rfl ⟨rfl, rfl, trivial⟩)) rfl rfl rfl ?_
    refine at_t (ot_call (ks := [2]) rfl rfl rfl Try.call9 rfl (T9 _ _ _ _ _ (by first | assumption | omega | decide | (simp; done) | (simp at *; omega))) rfl) rfl rfl rfl ?_
    rintro v0 _ ⟨m0, hp0, rfl⟩
    obtain ⟨rfl, rfl⟩ := hp0
    simp only [List.cons_append, List.nil_append]
    refine at_v (ov_move rfl rfl) rfl rfl rfl ?_
    refine at_v (ov_extract rfl rfl rfl) rfl rfl rfl ?_
    refine at_v (ov_extract rfl rfl rfl) rfl rfl rfl ?_
    refine at_t (ot_allocA rfl Try.zeroValue25) rfl rfl rfl ?_
    rintro _ _ ⟨g3, rfl, rfl⟩
    refine at_t0 (ot_store (k := 0) rfl rfl rfl rfl rfl rfl rfl) rfl rfl ?_
    rintro _ _ ⟨rfl, rfl⟩
    simp only [setAt, splice, spliceL, Value.cells]
    refine at_v (ov_assign rfl rfl) rfl rfl rfl ?_
    refine at_nil ?_
    refine at_normal ?_
    refine hK7 _ _ ?_
    refine at_seq_k (fun K8 hK8 => ?_)
    refine at_region ?_
    refine at_v (ov_move rfl rfl) rfl rfl rfl ?_
    refine at_v (ov_loadS (cs := [_, _]) rfl rfl rfl rfl (fun _ s => s.lds (k := 2) rfl ⟨rfl, rfl, trivial⟩)) rfl rfl rfl ?_
    refine at_t (ot_call (ks := [1]) rfl rfl rfl Try.call9 rfl (T9 _ _ _ _ _ (by first | assumption | omega | decide | (simp; done) | (simp at *; omega))) rfl) rfl rfl rfl ?_
    rintro v0 _ ⟨m0, hp0, rfl⟩
    obtain ⟨rfl, rfl⟩ := hp0
    simp only [List.cons_append, List.nil_append]
    refine at_v (ov_move rfl rfl) rfl rfl rfl ?_
    refine at_v (ov_extract rfl rfl rfl) rfl rfl rfl ?_
    refine at_v (ov_extract rfl rfl rfl) rfl rfl rfl ?_
    refine at_t (ot_allocA rfl Try.zeroValue25) rfl rfl rfl ?_
    rintro _ _ ⟨g4, rfl, rfl⟩
    refine at_t0 (ot_store (k := 0) rfl rfl rfl rfl rfl rfl rfl) rfl rfl ?_
    rintro _ _ ⟨rfl, rfl⟩
    simp only [setAt, splice, spliceL, Value.cells]
    refine at_v (ov_assign rfl rfl) rfl rfl rfl ?_
    refine at_nil ?_
    refine at_normal ?_
    refine hK8 _ _ ?_
    refine at_seq_k (fun K9 hK9 => ?_)
    refine at_seq_k (fun K10 hK10 => ?_)
    refine at_region ?_
    refine at_v (ov_move rfl rfl) rfl rfl rfl ?_
    refine at_v (ov_not rfl rfl) rfl rfl rfl ?_
    refine at_v (ov_move rfl rfl) rfl rfl rfl ?_
    refine at_bool (t := 54) rfl (fun h0 => ?_) (fun h0 => ?_)
    ·
      simp only [decide_eq_true_eq, decide_eq_false_iff_not, Bool.not_eq_true', Bool.not_eq_false', Int.not_lt, Int.not_le, Bool.and_eq_true, Bool.or_eq_true, Bool.and_eq_false_iff, Bool.or_eq_false_iff, gt_iff_lt, ge_iff_le] at h0
      refine at_wanted (j := 2) rfl ?_
      refine at_v (ov_move rfl rfl) rfl rfl rfl ?_
      refine at_v (ov_pick_t rfl rfl rfl) rfl rfl rfl ?_
      refine at_v (ov_move rfl rfl) rfl rfl rfl ?_
      refine at_bool (t := 57) rfl (fun h1 => ?_) (fun h1 => ?_)
      ·
        refine at_unwanted (j := 5) rfl rfl rfl rfl ?_
        refine at_unwanted (j := 5) rfl rfl rfl rfl ?_
        refine at_unwanted (j := 5) rfl rfl rfl rfl ?_
        refine at_unwanted (j := 5) rfl rfl rfl rfl ?_
        refine at_unwanted (j := 5) rfl rfl rfl rfl ?_
        refine at_unwanted (j := 5) rfl rfl rfl rfl ?_
        refine at_unwantedN (j := 11) rfl rfl rfl ?_
        refine at_unwantedN (j := 11) rfl rfl rfl ?_
        refine at_unwantedN (j := 11) rfl rfl rfl ?_
        refine at_unwantedN (j := 11) rfl rfl rfl ?_
        refine at_unwantedN (j := 11) rfl rfl rfl ?_
        refine at_unwantedN (j := 11) rfl rfl rfl ?_
        refine at_unwanted (j := 5) rfl rfl rfl rfl ?_
        refine at_v (ov_pick_t rfl rfl rfl) rfl rfl rfl ?_
        refine at_nil ?_
        refine at_normal ?_
        refine hK10 _ _ ?_
        refine at_cond_true rfl ?_
        refine at_seq_k (fun K11 hK11 => ?_)
        refine at_region ?_
        refine at_v (ov_assign rfl rfl) rfl rfl rfl ?_
        refine at_nil ?_
        refine at_normal ?_
        refine hK11 _ _ ?_
        refine at_ret ?_
        refine at_then_ret ?_
        refine at_end ?_
        refine at_fin (rsV rfl (res_tmp rfl)) ?_
        refine ⟨_, ⟨congrArg Value.bool (by simp_all), rfl⟩, ?_⟩
        exact fun _ s => s.finEq (ks := []) (js := [0, 0, 0, 0, 0]) rfl rfl rfl
      ·
        refine at_wanted (j := 5) rfl ?_
        refine at_v (ov_move rfl rfl) rfl rfl rfl ?_
        refine at_wanted (j := 5) rfl ?_
        refine at_v (ov_loadS (cs := [_, _]) rfl rfl rfl rfl (fun _ s => s.lds (k := 3) rfl ⟨rfl, rfl, trivial⟩)) rfl rfl rfl ?_
        refine at_wanted (j := 5) rfl ?_
        refine at_v (ov_move rfl rfl) rfl rfl rfl ?_
        refine at_wanted (j := 5) rfl ?_
        refine at_v (ov_move rfl rfl) rfl rfl rfl ?_
        refine at_wanted (j := 5) rfl ?_
        refine at_t (ot_call (ks := [1]) rfl rfl rfl Try.call11 rfl (T11 _ _ _ _ _ _ _ (by first | assumption | omega | decide | (simp; done) | (simp at *; omega))) rfl) rfl rfl rfl ?_
        rintro v0 _ ⟨m0, hp0, rfl⟩
        obtain ⟨rfl, rfl⟩ := hp0
        simp only [List.cons_append, List.nil_append]
        refine at_wanted (j := 5) rfl ?_
        refine at_v (ov_move rfl rfl) rfl rfl rfl ?_
        refine at_bool (t := 63) rfl (fun h2 => ?_) (fun h2 => ?_)
        ·
          refine at_wanted (j := 11) rfl ?_
          refine at_v (ov_move rfl rfl) rfl rfl rfl ?_
          refine at_wanted (j := 11) rfl ?_
          refine at_v (ov_loadS (cs := [_, _]) rfl rfl rfl rfl (fun _ s => s.lds (k := 4) rfl ⟨rfl, rfl, trivial⟩)) rfl rfl rfl ?_
          refine at_wanted (j := 11) rfl ?_
          refine at_v (ov_move rfl rfl) rfl rfl rfl ?_
          refine at_wanted (j := 11) rfl ?_
          refine at_v (ov_move rfl rfl) rfl rfl rfl ?_
          refine at_wanted (j := 11) rfl ?_
          refine at_t (ot_call (ks := [0]) rfl rfl rfl Try.call11 rfl (T11 _ _ _ _ _ _ _ (by first | assumption | omega | decide | (simp; done) | (simp at *; omega))) rfl) rfl rfl rfl ?_
          rintro v0 _ ⟨m0, hp0, rfl⟩
          obtain ⟨rfl, rfl⟩ := hp0
          simp only [List.cons_append, List.nil_append]
          refine at_wanted (j := 11) rfl ?_
          refine at_v (ov_not rfl rfl) rfl rfl rfl ?_
          refine at_wanted (j := 5) rfl ?_
          refine at_v (ov_pick_t rfl rfl rfl) rfl rfl rfl ?_
          refine at_v (ov_pick_f rfl rfl rfl) rfl rfl rfl ?_
          refine at_nil ?_
          refine at_normal ?_
          refine hK10 _ _ ?_
          refine at_cond rfl (fun h3 => ?_) (fun h3 => ?_)
          ·
            simp only [decide_eq_true_eq, decide_eq_false_iff_not, Bool.not_eq_true', Bool.not_eq_false', Int.not_lt, Int.not_le, Bool.and_eq_true, Bool.or_eq_true, Bool.and_eq_false_iff, Bool.or_eq_false_iff, gt_iff_lt, ge_iff_le] at h3
            refine at_seq_k (fun K11 hK11 => ?_)
            refine at_region ?_
            refine at_v (ov_assign rfl rfl) rfl rfl rfl ?_
            refine at_nil ?_
            refine at_normal ?_
            refine hK11 _ _ ?_
            refine at_ret ?_
            refine at_then_ret ?_
            refine at_end ?_
            refine at_fin (rsV rfl (res_tmp rfl)) ?_
            refine ⟨_, ⟨congrArg Value.bool (by simp_all), rfl⟩, ?_⟩
            exact fun _ s => s.finEq (ks := []) (js := [0, 0, 0, 0, 0]) rfl rfl rfl
          ·
            simp only [decide_eq_true_eq, decide_eq_false_iff_not, Bool.not_eq_true', Bool.not_eq_false', Int.not_lt, Int.not_le, Bool.and_eq_true, Bool.or_eq_true, Bool.and_eq_false_iff, Bool.or_eq_false_iff, gt_iff_lt, ge_iff_le] at h3
            refine at_skip ?_
            refine at_normal ?_
            refine hK9 _ _ ?_
            refine at_seq_k (fun K11 hK11 => ?_)
            refine at_draw _ [(true, 0), (true, 1), (true, 3), (false, 2), (true, 4), (true, 5), (true, 6), (true, 7), (true, 9), (false, 8), (true, 10), (true, 11), (true, 12)] (by kernel_rfl) (by kernel_rfl) (fun _ s => (s.pulls (ks := [1, 1, 1, 1]) rfl).left) ?_
            refine aq_v (ov_loadS (cs := [_, _]) rfl rfl rfl rfl (fun _ s => s.lds (k := 3) rfl ⟨rfl, rfl, trivial⟩)) rfl rfl rfl ?_
            refine aq_v (ov_loadS (cs := [_, _]) rfl rfl rfl rfl (fun _ s => s.lds (k := 2) rfl ⟨rfl, rfl, trivial⟩)) rfl rfl rfl ?_
            refine aq_v (ov_loadS (cs := [_, _]) rfl rfl rfl rfl (fun _ s => s.lds (k := 2) rfl ⟨rfl, rfl, trivial⟩)) rfl rfl rfl ?_
            refine aq_t (ot_call (ks := []) rfl rfl rfl Try.call17 rfl (T17 _ _ _ _ _) rfl) rfl rfl rfl ?_
            rintro v0 _ ⟨m0, hp0, rfl⟩
            obtain ⟨rfl, rfl⟩ := hp0
            simp only [List.cons_append, List.nil_append]
            refine ⟨fun _ s => (s.pulls (ks := [1, 1, 1, 1]) rfl).left, ?_⟩
            refine aq_v (ov_eqS rfl (by kernel_rfl) rfl rfl rfl rfl) rfl rfl rfl ?_
            refine aq_v (ov_move rfl rfl) rfl rfl rfl ?_
            refine at_bool (t := 77) rfl (fun h4 => ?_) (fun h4 => ?_)
            ·
              simp only [decide_eq_true_eq, decide_eq_false_iff_not, Bool.not_eq_true', Bool.not_eq_false', Int.not_lt, Int.not_le, Bool.and_eq_true, Bool.or_eq_true, Bool.and_eq_false_iff, Bool.or_eq_false_iff, gt_iff_lt, ge_iff_le] at h4
              refine aq_wanted (j := 5) rfl ?_
              refine aq_v (ov_loadS (cs := [_, _]) rfl rfl rfl rfl (fun _ s => s.lds (k := 2) rfl ⟨rfl, rfl, trivial⟩)) rfl rfl rfl ?_
              refine aq_wanted (j := 5) rfl ?_
              refine aq_v (ov_loadS (cs := [_, _]) rfl rfl rfl rfl (fun _ s => s.lds (k := 3) rfl ⟨rfl, rfl, trivial⟩)) rfl rfl rfl ?_
              refine aq_wanted (j := 5) rfl ?_
              refine aq_v (ov_loadS (cs := [_, _]) rfl rfl rfl rfl (fun _ s => s.lds (k := 2) rfl ⟨rfl, rfl, trivial⟩)) rfl rfl rfl ?_
              refine aq_wanted (j := 5) rfl ?_
              refine aq_t (ot_call (ks := []) rfl rfl rfl Try.call17 rfl (T17 _ _ _ _ _) rfl) rfl rfl rfl ?_
              rintro v0 _ ⟨m0, hp0, rfl⟩
              obtain ⟨rfl, rfl⟩ := hp0
              simp only [List.cons_append, List.nil_append]
              refine ⟨fun _ s => (s.pulls (ks := [1, 1, 1, 1]) rfl).left, ?_⟩
              refine aq_wanted (j := 5) rfl ?_
              refine aq_v (ov_eqS rfl (by kernel_rfl) rfl rfl rfl rfl) rfl rfl rfl ?_
              refine aq_v (ov_pick_t rfl rfl rfl) rfl rfl rfl ?_
              refine aq_v (ov_assign rfl rfl) rfl rfl rfl ?_
              refine aq_nil ?_
              refine at_normal ?_
              refine hK11 _ _ ?_
              refine at_ret ?_
              refine at_end ?_
              refine at_fin (rsV rfl (res_tmp rfl)) ?_
              refine ⟨_, ⟨congrArg Value.bool (by simp_all), rfl⟩, ?_⟩
              exact fun _ s => s.finEq (ks := []) (js := [0, 0, 0, 0, 0]) rfl rfl rfl
            ·
              simp only [decide_eq_true_eq, decide_eq_false_iff_not, Bool.not_eq_true', Bool.not_eq_false', Int.not_lt, Int.not_le, Bool.and_eq_true, Bool.or_eq_true, Bool.and_eq_false_iff, Bool.or_eq_false_iff, gt_iff_lt, ge_iff_le] at h4
              refine aq_unwanted (j := 5) rfl rfl rfl rfl ?_
              refine aq_unwanted (j := 5) rfl rfl rfl rfl ?_
              refine aq_unwanted (j := 5) rfl rfl rfl rfl ?_
              refine aq_unwanted (j := 5) rfl rfl rfl rfl ?_
              refine aq_unwanted (j := 5) rfl rfl rfl rfl ?_
              refine aq_v (ov_pick_f rfl rfl rfl) rfl rfl rfl ?_
              refine aq_v (ov_assign rfl rfl) rfl rfl rfl ?_
              refine aq_nil ?_
              refine at_normal ?_
              refine hK11 _ _ ?_
              refine at_ret ?_
              refine at_end ?_
              refine at_fin (rsV rfl (res_tmp rfl)) ?_
              refine ⟨_, ⟨congrArg Value.bool (by simp_all), rfl⟩, ?_⟩
              exact fun _ s => s.finEq (ks := []) (js := [0, 0, 0, 0, 0]) rfl rfl rfl
        ·
          refine at_unwanted (j := 11) rfl rfl rfl rfl ?_
          refine at_unwanted (j := 11) rfl rfl rfl rfl ?_
          refine at_unwanted (j := 11) rfl rfl rfl rfl ?_
          refine at_unwanted (j := 11) rfl rfl rfl rfl ?_
          refine at_unwanted (j := 11) rfl rfl rfl rfl ?_
          refine at_unwanted (j := 11) rfl rfl rfl rfl ?_
          refine at_wanted (j := 5) rfl ?_
          refine at_v (ov_pick_f rfl rfl rfl) rfl rfl rfl ?_
          refine at_v (ov_pick_f rfl rfl rfl) rfl rfl rfl ?_
          refine at_nil ?_
          refine at_normal ?_
          refine hK10 _ _ ?_
          refine at_cond_false rfl ?_
          refine at_skip ?_
          refine at_normal ?_
          refine hK9 _ _ ?_
          refine at_seq_k (fun K11 hK11 => ?_)
          refine at_draw _ [(true, 0), (true, 1), (true, 3), (false, 2), (true, 4), (true, 5), (true, 6), (true, 7), (true, 9), (false, 8), (true, 10), (true, 11), (true, 12)] (by kernel_rfl) (by kernel_rfl) (fun _ s => (s.pulls (ks := [1, 1, 1, 1]) rfl).left) ?_
          refine aq_v (ov_loadS (cs := [_, _]) rfl rfl rfl rfl (fun _ s => s.lds (k := 3) rfl ⟨rfl, rfl, trivial⟩)) rfl rfl rfl ?_
          refine aq_v (ov_loadS (cs := [_, _]) rfl rfl rfl rfl (fun _ s => s.lds (k := 2) rfl ⟨rfl, rfl, trivial⟩)) rfl rfl rfl ?_
          refine aq_v (ov_loadS (cs := [_, _]) rfl rfl rfl rfl (fun _ s => s.lds (k := 2) rfl ⟨rfl, rfl, trivial⟩)) rfl rfl rfl ?_
          refine aq_t (ot_call (ks := []) rfl rfl rfl Try.call17 rfl (T17 _ _ _ _ _) rfl) rfl rfl rfl ?_
          rintro v0 _ ⟨m0, hp0, rfl⟩
          obtain ⟨rfl, rfl⟩ := hp0
          simp only [List.cons_append, List.nil_append]
          refine ⟨fun _ s => (s.pulls (ks := [1, 1, 1, 1]) rfl).left, ?_⟩
          refine aq_v (ov_eqS rfl (by kernel_rfl) rfl rfl rfl rfl) rfl rfl rfl ?_
          refine aq_v (ov_move rfl rfl) rfl rfl rfl ?_
          refine at_bool (t := 77) rfl (fun h3 => ?_) (fun h3 => ?_)
          ·
            simp only [decide_eq_true_eq, decide_eq_false_iff_not, Bool.not_eq_true', Bool.not_eq_false', Int.not_lt, Int.not_le, Bool.and_eq_true, Bool.or_eq_true, Bool.and_eq_false_iff, Bool.or_eq_false_iff, gt_iff_lt, ge_iff_le] at h3
            refine aq_wanted (j := 5) rfl ?_
            refine aq_v (ov_loadS (cs := [_, _]) rfl rfl rfl rfl (fun _ s => s.lds (k := 2) rfl ⟨rfl, rfl, trivial⟩)) rfl rfl rfl ?_
            refine aq_wanted (j := 5) rfl ?_
            refine aq_v (ov_loadS (cs := [_, _]) rfl rfl rfl rfl (fun _ s => s.lds (k := 3) rfl ⟨rfl, rfl, trivial⟩)) rfl rfl rfl ?_
            refine aq_wanted (j := 5) rfl ?_
            refine aq_v (ov_loadS (cs := [_, _]) rfl rfl rfl rfl (fun _ s => s.lds (k := 2) rfl ⟨rfl, rfl, trivial⟩)) rfl rfl rfl ?_
            refine aq_wanted (j := 5) rfl ?_
            refine aq_t (ot_call (ks := []) rfl rfl rfl Try.call17 rfl (T17 _ _ _ _ _) rfl) rfl rfl rfl ?_
            rintro v0 _ ⟨m0, hp0, rfl⟩
            obtain ⟨rfl, rfl⟩ := hp0
            simp only [List.cons_append, List.nil_append]
            refine ⟨fun _ s => (s.pulls (ks := [1, 1, 1, 1]) rfl).left, ?_⟩
            refine aq_wanted (j := 5) rfl ?_
            refine aq_v (ov_eqS rfl (by kernel_rfl) rfl rfl rfl rfl) rfl rfl rfl ?_
            refine aq_v (ov_pick_t rfl rfl rfl) rfl rfl rfl ?_
            refine aq_v (ov_assign rfl rfl) rfl rfl rfl ?_
            refine aq_nil ?_
            refine at_normal ?_
            refine hK11 _ _ ?_
            refine at_ret ?_
            refine at_end ?_
            refine at_fin (rsV rfl (res_tmp rfl)) ?_
            refine ⟨_, ⟨congrArg Value.bool (by simp_all), rfl⟩, ?_⟩
            exact fun _ s => s.finEq (ks := []) (js := [0, 0, 0, 0, 0]) rfl rfl rfl
          ·
            simp only [decide_eq_true_eq, decide_eq_false_iff_not, Bool.not_eq_true', Bool.not_eq_false', Int.not_lt, Int.not_le, Bool.and_eq_true, Bool.or_eq_true, Bool.and_eq_false_iff, Bool.or_eq_false_iff, gt_iff_lt, ge_iff_le] at h3
            refine aq_unwanted (j := 5) rfl rfl rfl rfl ?_
            refine aq_unwanted (j := 5) rfl rfl rfl rfl ?_
            refine aq_unwanted (j := 5) rfl rfl rfl rfl ?_
            refine aq_unwanted (j := 5) rfl rfl rfl rfl ?_
            refine aq_unwanted (j := 5) rfl rfl rfl rfl ?_
            refine aq_v (ov_pick_f rfl rfl rfl) rfl rfl rfl ?_
            refine aq_v (ov_assign rfl rfl) rfl rfl rfl ?_
            refine aq_nil ?_
            refine at_normal ?_
            refine hK11 _ _ ?_
            refine at_ret ?_
            refine at_end ?_
            refine at_fin (rsV rfl (res_tmp rfl)) ?_
            refine ⟨_, ⟨congrArg Value.bool (by simp_all), rfl⟩, ?_⟩
            exact fun _ s => s.finEq (ks := []) (js := [0, 0, 0, 0, 0]) rfl rfl rfl
    ·
      simp only [decide_eq_true_eq, decide_eq_false_iff_not, Bool.not_eq_true', Bool.not_eq_false', Int.not_lt, Int.not_le, Bool.and_eq_true, Bool.or_eq_true, Bool.and_eq_false_iff, Bool.or_eq_false_iff, gt_iff_lt, ge_iff_le] at h0
      refine at_unwanted (j := 2) rfl rfl rfl rfl ?_
      refine at_v (ov_pick_f rfl rfl rfl) rfl rfl rfl ?_
      refine at_v (ov_move rfl rfl) rfl rfl rfl ?_
      refine at_wanted (j := 5) rfl ?_
      refine at_v (ov_move rfl rfl) rfl rfl rfl ?_
      refine at_wanted (j := 5) rfl ?_
      refine at_v (ov_loadS (cs := [_, _]) rfl rfl rfl rfl (fun _ s => s.lds (k := 3) rfl ⟨rfl, rfl, trivial⟩)) rfl rfl rfl ?_
      refine at_wanted (j := 5) rfl ?_
      refine at_v (ov_move rfl rfl) rfl rfl rfl ?_
      refine at_wanted (j := 5) rfl ?_
      refine at_v (ov_move rfl rfl) rfl rfl rfl ?_
      refine at_wanted (j := 5) rfl ?_
      refine at_t (ot_call (ks := [1]) rfl rfl rfl Try.call11 rfl (T11 _ _ _ _ _ _ _ (by first | assumption | omega | decide | (simp; done) | (simp at *; omega))) rfl) rfl rfl rfl ?_
      rintro v0 _ ⟨m0, hp0, rfl⟩
      obtain ⟨rfl, rfl⟩ := hp0
      simp only [List.cons_append, List.nil_append]
      refine at_wanted (j := 5) rfl ?_
      refine at_v (ov_move rfl rfl) rfl rfl rfl ?_
      refine at_bool (t := 63) rfl (fun h1 => ?_) (fun h1 => ?_)
      ·
        refine at_wanted (j := 11) rfl ?_
        refine at_v (ov_move rfl rfl) rfl rfl rfl ?_
        refine at_wanted (j := 11) rfl ?_
        refine at_v (ov_loadS (cs := [_, _]) rfl rfl rfl rfl (fun _ s => s.lds (k := 4) rfl ⟨rfl, rfl, trivial⟩)) rfl rfl rfl ?_
        refine at_wanted (j := 11) rfl ?_
        refine at_v (ov_move rfl rfl) rfl rfl rfl ?_
        refine at_wanted (j := 11) rfl ?_
        refine at_v (ov_move rfl rfl) rfl rfl rfl ?_
        refine at_wanted (j := 11) rfl ?_
        refine at_t (ot_call (ks := [0]) rfl rfl rfl Try.call11 rfl (T11 _ _ _ _ _ _ _ (by first | assumption | omega | decide | (simp; done) | (simp at *; omega))) rfl) rfl rfl rfl ?_
        rintro v0 _ ⟨m0, hp0, rfl⟩
        obtain ⟨rfl, rfl⟩ := hp0
        simp only [List.cons_append, List.nil_append]
        refine at_wanted (j := 11) rfl ?_
        refine at_v (ov_not rfl rfl) rfl rfl rfl ?_
        refine at_wanted (j := 5) rfl ?_
        refine at_v (ov_pick_t rfl rfl rfl) rfl rfl rfl ?_
        refine at_v (ov_pick_f rfl rfl rfl) rfl rfl rfl ?_
        refine at_nil ?_
        refine at_normal ?_
        refine hK10 _ _ ?_
        refine at_cond rfl (fun h2 => ?_) (fun h2 => ?_)
        ·
          simp only [decide_eq_true_eq, decide_eq_false_iff_not, Bool.not_eq_true', Bool.not_eq_false', Int.not_lt, Int.not_le, Bool.and_eq_true, Bool.or_eq_true, Bool.and_eq_false_iff, Bool.or_eq_false_iff, gt_iff_lt, ge_iff_le] at h2
          refine at_seq_k (fun K11 hK11 => ?_)
          refine at_region ?_
          refine at_v (ov_assign rfl rfl) rfl rfl rfl ?_
          refine at_nil ?_
          refine at_normal ?_
          refine hK11 _ _ ?_
          refine at_ret ?_
          refine at_then_ret ?_
          refine at_end ?_
          refine at_fin (rsV rfl (res_tmp rfl)) ?_
          refine ⟨_, ⟨congrArg Value.bool (by simp_all), rfl⟩, ?_⟩
          exact fun _ s => s.finEq (ks := []) (js := [0, 0, 0, 0, 0]) rfl rfl rfl
        ·
          simp only [decide_eq_true_eq, decide_eq_false_iff_not, Bool.not_eq_true', Bool.not_eq_false', Int.not_lt, Int.not_le, Bool.and_eq_true, Bool.or_eq_true, Bool.and_eq_false_iff, Bool.or_eq_false_iff, gt_iff_lt, ge_iff_le] at h2
          refine at_skip ?_
          refine at_normal ?_
          refine hK9 _ _ ?_
          refine at_seq_k (fun K11 hK11 => ?_)
          refine at_draw _ [(true, 0), (true, 1), (true, 3), (false, 2), (true, 4), (true, 5), (true, 6), (true, 7), (true, 9), (false, 8), (true, 10), (true, 11), (true, 12)] (by kernel_rfl) (by kernel_rfl) (fun _ s => (s.pulls (ks := [1, 1, 1, 1]) rfl).left) ?_
          refine aq_v (ov_loadS (cs := [_, _]) rfl rfl rfl rfl (fun _ s => s.lds (k := 3) rfl ⟨rfl, rfl, trivial⟩)) rfl rfl rfl ?_
          refine aq_v (ov_loadS (cs := [_, _]) rfl rfl rfl rfl (fun _ s => s.lds (k := 2) rfl ⟨rfl, rfl, trivial⟩)) rfl rfl rfl ?_
          refine aq_v (ov_loadS (cs := [_, _]) rfl rfl rfl rfl (fun _ s => s.lds (k := 2) rfl ⟨rfl, rfl, trivial⟩)) rfl rfl rfl ?_
          refine aq_t (ot_call (ks := []) rfl rfl rfl Try.call17 rfl (T17 _ _ _ _ _) rfl) rfl rfl rfl ?_
          rintro v0 _ ⟨m0, hp0, rfl⟩
          obtain ⟨rfl, rfl⟩ := hp0
          simp only [List.cons_append, List.nil_append]
          refine ⟨fun _ s => (s.pulls (ks := [1, 1, 1, 1]) rfl).left, ?_⟩
          refine aq_v (ov_eqS rfl (by kernel_rfl) rfl rfl rfl rfl) rfl rfl rfl ?_
          refine aq_v (ov_move rfl rfl) rfl rfl rfl ?_
          refine at_bool (t := 77) rfl (fun h3 => ?_) (fun h3 => ?_)
          ·
            simp only [decide_eq_true_eq, decide_eq_false_iff_not, Bool.not_eq_true', Bool.not_eq_false', Int.not_lt, Int.not_le, Bool.and_eq_true, Bool.or_eq_true, Bool.and_eq_false_iff, Bool.or_eq_false_iff, gt_iff_lt, ge_iff_le] at h3
            refine aq_wanted (j := 5) rfl ?_
            refine aq_v (ov_loadS (cs := [_, _]) rfl rfl rfl rfl (fun _ s => s.lds (k := 2) rfl ⟨rfl, rfl, trivial⟩)) rfl rfl rfl ?_
            refine aq_wanted (j := 5) rfl ?_
            refine aq_v (ov_loadS (cs := [_, _]) rfl rfl rfl rfl (fun _ s => s.lds (k := 3) rfl ⟨rfl, rfl, trivial⟩)) rfl rfl rfl ?_
            refine aq_wanted (j := 5) rfl ?_
            refine aq_v (ov_loadS (cs := [_, _]) rfl rfl rfl rfl (fun _ s => s.lds (k := 2) rfl ⟨rfl, rfl, trivial⟩)) rfl rfl rfl ?_
            refine aq_wanted (j := 5) rfl ?_
            refine aq_t (ot_call (ks := []) rfl rfl rfl Try.call17 rfl (T17 _ _ _ _ _) rfl) rfl rfl rfl ?_
            rintro v0 _ ⟨m0, hp0, rfl⟩
            obtain ⟨rfl, rfl⟩ := hp0
            simp only [List.cons_append, List.nil_append]
            refine ⟨fun _ s => (s.pulls (ks := [1, 1, 1, 1]) rfl).left, ?_⟩
            refine aq_wanted (j := 5) rfl ?_
            refine aq_v (ov_eqS rfl (by kernel_rfl) rfl rfl rfl rfl) rfl rfl rfl ?_
            refine aq_v (ov_pick_t rfl rfl rfl) rfl rfl rfl ?_
            refine aq_v (ov_assign rfl rfl) rfl rfl rfl ?_
            refine aq_nil ?_
            refine at_normal ?_
            refine hK11 _ _ ?_
            refine at_ret ?_
            refine at_end ?_
            refine at_fin (rsV rfl (res_tmp rfl)) ?_
            refine ⟨_, ⟨congrArg Value.bool (by simp_all), rfl⟩, ?_⟩
            exact fun _ s => s.finEq (ks := []) (js := [0, 0, 0, 0, 0]) rfl rfl rfl
          ·
            simp only [decide_eq_true_eq, decide_eq_false_iff_not, Bool.not_eq_true', Bool.not_eq_false', Int.not_lt, Int.not_le, Bool.and_eq_true, Bool.or_eq_true, Bool.and_eq_false_iff, Bool.or_eq_false_iff, gt_iff_lt, ge_iff_le] at h3
            refine aq_unwanted (j := 5) rfl rfl rfl rfl ?_
            refine aq_unwanted (j := 5) rfl rfl rfl rfl ?_
            refine aq_unwanted (j := 5) rfl rfl rfl rfl ?_
            refine aq_unwanted (j := 5) rfl rfl rfl rfl ?_
            refine aq_unwanted (j := 5) rfl rfl rfl rfl ?_
            refine aq_v (ov_pick_f rfl rfl rfl) rfl rfl rfl ?_
            refine aq_v (ov_assign rfl rfl) rfl rfl rfl ?_
            refine aq_nil ?_
            refine at_normal ?_
            refine hK11 _ _ ?_
            refine at_ret ?_
            refine at_end ?_
            refine at_fin (rsV rfl (res_tmp rfl)) ?_
            refine ⟨_, ⟨congrArg Value.bool (by simp_all), rfl⟩, ?_⟩
            exact fun _ s => s.finEq (ks := []) (js := [0, 0, 0, 0, 0]) rfl rfl rfl
      ·
        refine at_unwanted (j := 11) rfl rfl rfl rfl ?_
        refine at_unwanted (j := 11) rfl rfl rfl rfl ?_
        refine at_unwanted (j := 11) rfl rfl rfl rfl ?_
        refine at_unwanted (j := 11) rfl rfl rfl rfl ?_
        refine at_unwanted (j := 11) rfl rfl rfl rfl ?_
        refine at_unwanted (j := 11) rfl rfl rfl rfl ?_
        refine at_wanted (j := 5) rfl ?_
        refine at_v (ov_pick_f rfl rfl rfl) rfl rfl rfl ?_
        refine at_v (ov_pick_f rfl rfl rfl) rfl rfl rfl ?_
        refine at_nil ?_
        refine at_normal ?_
        refine hK10 _ _ ?_
        refine at_cond_false rfl ?_
        refine at_skip ?_
        refine at_normal ?_
        refine hK9 _ _ ?_
        refine at_seq_k (fun K11 hK11 => ?_)
        refine at_draw _ [(true, 0), (true, 1), (true, 3), (false, 2), (true, 4), (true, 5), (true, 6), (true, 7), (true, 9), (false, 8), (true, 10), (true, 11), (true, 12)] (by kernel_rfl) (by kernel_rfl) (fun _ s => (s.pulls (ks := [1, 1, 1, 1]) rfl).left) ?_
        refine aq_v (ov_loadS (cs := [_, _]) rfl rfl rfl rfl (fun _ s => s.lds (k := 3) rfl ⟨rfl, rfl, trivial⟩)) rfl rfl rfl ?_
        refine aq_v (ov_loadS (cs := [_, _]) rfl rfl rfl rfl (fun _ s => s.lds (k := 2) rfl ⟨rfl, rfl, trivial⟩)) rfl rfl rfl ?_
        refine aq_v (ov_loadS (cs := [_, _]) rfl rfl rfl rfl (fun _ s => s.lds (k := 2) rfl ⟨rfl, rfl, trivial⟩)) rfl rfl rfl ?_
        refine aq_t (ot_call (ks := []) rfl rfl rfl Try.call17 rfl (T17 _ _ _ _ _) rfl) rfl rfl rfl ?_
        rintro v0 _ ⟨m0, hp0, rfl⟩
        obtain ⟨rfl, rfl⟩ := hp0
        simp only [List.cons_append, List.nil_append]
        refine ⟨fun _ s => (s.pulls (ks := [1, 1, 1, 1]) rfl).left, ?_⟩
        refine aq_v (ov_eqS rfl (by kernel_rfl) rfl rfl rfl rfl) rfl rfl rfl ?_
        refine aq_v (ov_move rfl rfl) rfl rfl rfl ?_
        refine at_bool (t := 77) rfl (fun h2 => ?_) (fun h2 => ?_)
        ·
          simp only [decide_eq_true_eq, decide_eq_false_iff_not, Bool.not_eq_true', Bool.not_eq_false', Int.not_lt, Int.not_le, Bool.and_eq_true, Bool.or_eq_true, Bool.and_eq_false_iff, Bool.or_eq_false_iff, gt_iff_lt, ge_iff_le] at h2
          refine aq_wanted (j := 5) rfl ?_
          refine aq_v (ov_loadS (cs := [_, _]) rfl rfl rfl rfl (fun _ s => s.lds (k := 2) rfl ⟨rfl, rfl, trivial⟩)) rfl rfl rfl ?_
          refine aq_wanted (j := 5) rfl ?_
          refine aq_v (ov_loadS (cs := [_, _]) rfl rfl rfl rfl (fun _ s => s.lds (k := 3) rfl ⟨rfl, rfl, trivial⟩)) rfl rfl rfl ?_
          refine aq_wanted (j := 5) rfl ?_
          refine aq_v (ov_loadS (cs := [_, _]) rfl rfl rfl rfl (fun _ s => s.lds (k := 2) rfl ⟨rfl, rfl, trivial⟩)) rfl rfl rfl ?_
          refine aq_wanted (j := 5) rfl ?_
          refine aq_t (ot_call (ks := []) rfl rfl rfl Try.call17 rfl (T17 _ _ _ _ _) rfl) rfl rfl rfl ?_
          rintro v0 _ ⟨m0, hp0, rfl⟩
          obtain ⟨rfl, rfl⟩ := hp0
          simp only [List.cons_append, List.nil_append]
          refine ⟨fun _ s => (s.pulls (ks := [1, 1, 1, 1]) rfl).left, ?_⟩
          refine aq_wanted (j := 5) rfl ?_
          refine aq_v (ov_eqS rfl (by kernel_rfl) rfl rfl rfl rfl) rfl rfl rfl ?_
          refine aq_v (ov_pick_t rfl rfl rfl) rfl rfl rfl ?_
          refine aq_v (ov_assign rfl rfl) rfl rfl rfl ?_
          refine aq_nil ?_
          refine at_normal ?_
          refine hK11 _ _ ?_
          refine at_ret ?_
          refine at_end ?_
          refine at_fin (rsV rfl (res_tmp rfl)) ?_
          refine ⟨_, ⟨congrArg Value.bool (by simp_all), rfl⟩, ?_⟩
          exact fun _ s => s.finEq (ks := []) (js := [0, 0, 0, 0, 0]) rfl rfl rfl
        ·
          simp only [decide_eq_true_eq, decide_eq_false_iff_not, Bool.not_eq_true', Bool.not_eq_false', Int.not_lt, Int.not_le, Bool.and_eq_true, Bool.or_eq_true, Bool.and_eq_false_iff, Bool.or_eq_false_iff, gt_iff_lt, ge_iff_le] at h2
          refine aq_unwanted (j := 5) rfl rfl rfl rfl ?_
          refine aq_unwanted (j := 5) rfl rfl rfl rfl ?_
          refine aq_unwanted (j := 5) rfl rfl rfl rfl ?_
          refine aq_unwanted (j := 5) rfl rfl rfl rfl ?_
          refine aq_unwanted (j := 5) rfl rfl rfl rfl ?_
          refine aq_v (ov_pick_f rfl rfl rfl) rfl rfl rfl ?_
          refine aq_v (ov_assign rfl rfl) rfl rfl rfl ?_
          refine aq_nil ?_
          refine at_normal ?_
          refine hK11 _ _ ?_
          refine at_ret ?_
          refine at_end ?_
          refine at_fin (rsV rfl (res_tmp rfl)) ?_
          refine ⟨_, ⟨congrArg Value.bool (by simp_all), rfl⟩, ?_⟩
          exact fun _ s => s.finEq (ks := []) (js := [0, 0, 0, 0, 0]) rfl rfl rfl
end Go.Proofs.Ytjcmadaajiimiaa
