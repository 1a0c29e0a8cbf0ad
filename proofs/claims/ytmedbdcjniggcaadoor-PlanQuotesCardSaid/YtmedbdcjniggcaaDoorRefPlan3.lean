/- The reference of plans, walked: Writes; the law's large. -/
import Derived.Test.YtmedbdcjniggcaaDoorProg
import Derived.Test.YtmedbdcjniggcaaDoorRefPlan2
import Derived.Test.YtmedbdcjniggcaaDoorSLCmp
import Derived.Test.YtmedbdcjniggcaaDoorSLStr
import Derived.KernelRfl
set_option linter.unusedSimpArgs false
set_option linter.unusedVariables false
set_option maxRecDepth 100000
set_option maxHeartbeats 4000000
namespace Go.Proofs.YtmedbdcjniggcaaDoor
open Go Go.Proofs.YtmedbdcjniggcaaDoor.SL Go.RowKit
theorem rwAll_succ (p : PM) {l : List PR} {k : Nat} {x : PR} (h : l[k]? = some x) : rwAll p (l.take (k + 1)) = rwStep p x (rwAll p (l.take k)) := by
  unfold rwAll
  rw [List.take_add_one, h, List.foldl_append]
  rfl
theorem rwStep_len (p : PM) (x : PR) (s : RW) : (rwStep p x s).out.length ≤ s.out.length + 2 := by
  unfold rwStep
  split <;> split <;> simp only
  · simp
  · split <;> simp
  · simp
  · split <;> simp
theorem rwAll_len (p : PM) (l : List PR) : ∀ k, k ≤ l.length → (rwAll p (l.take k)).out.length ≤ 2 * k
  | 0, _ => by simp [rwAll]
  | k + 1, h => by
    obtain ⟨x, hx⟩ : ∃ x, l[k]? = some x := ⟨_, List.getElem?_eq_getElem (by omega)⟩
    rw [rwAll_succ p hx]
    have := rwStep_len p x (rwAll p (l.take k))
    have := rwAll_len p l k (by omega)
    omega
theorem T9 (w0 : World) (p : PM) {A : Option Addr} {c c' : Nat} {l : List PR} (hm : l.length ≤ 1000000) :
    Tri Tryd.prog w0 9 [.agg #[.int .i64 p.1, SV p.2.1, SV p.2.2], .slice A l.length c] [Row pE 46 2 A c' l] fun v m => ∃ B e, v = .tuple #[.slice B (refWrites p l).1.length e, .int .i64 (refWrites p l).2] ∧ m = [Row pE 46 2 B e (refWrites p l).1, Row pE 46 2 A c' l] := by
  refine tri_of Tryd.func9 rfl rfl fun F => ?_
  simp only [Tryd.ntmps9, argEnv, List.cons_append, List.nil_append]
  refine at_seq_k (fun K0 hK0 => ?_)
  refine at_region ?_
  refine at_t (ot_boxA rfl rfl) rfl rfl rfl ?_
  rintro _ _ ⟨g0, rfl, rfl⟩
  refine at_v (ov_assign rfl rfl) rfl rfl rfl ?_
  refine at_v (ov_assign rfl rfl) rfl rfl rfl ?_
  refine at_nil ?_
  refine at_normal ?_
  refine hK0 _ _ _ ?_
  refine at_seq_k (fun K1 hK1 => ?_)
  refine at_region ?_
  refine at_t (ot_buildSlice (cs := []) rfl Tryd.underlying29 rfl rfl rfl rfl rfl rfl) rfl rfl rfl ?_
  rintro _ _ ⟨g1, rfl, rfl⟩
  refine at_v (ov_assign rfl rfl) rfl rfl rfl ?_
  refine at_nil ?_
  refine at_normal ?_
  refine hK1 _ _ _ ?_
  refine at_seq_k (fun K2 hK2 => ?_)
  refine at_region ?_
  refine at_v (ov_assign rfl rfl) rfl rfl rfl ?_
  refine at_nil ?_
  refine at_normal ?_
  refine hK2 _ _ _ ?_
  refine at_seq_k (fun K3 hK3 => ?_)
  refine at_region ?_
  refine at_v (ov_assign rfl rfl) rfl rfl rfl ?_
  refine at_nil ?_
  refine at_normal ?_
  refine hK3 _ _ _ ?_
  refine at_seq_k (fun K4 hK4 => ?_)
  refine at_seq_k (fun K5 hK5 => ?_)
  refine at_region ?_
  refine at_v (ov_assign rfl rfl) rfl rfl rfl ?_
  refine at_nil ?_
  refine at_normal ?_
  refine hK5 _ _ _ ?_
  refine at_block ?_
  refine at_rowOf (c := 0) (size := 2) pE 0 [] rfl (by simp) (by simp) (by decide) (by simp) rfl ?_
  simp only [setAt]
  refine at_loopE [11, 12, 13, 14, 17, 18, 19, 20, 21, 22, 23, 24, 25, 26, 27, 28, 29, 30, 31, 32, 33, 34, 35, 36, 37, 38, 39, 40, 41, 6, 8, 42, 43, 44, 45, 46, 47, 48, 49, 50, 51, 52, 53, 54, 55, 56, 57, 58, 59, 60, 61, 62, 63, 64, 65, 66, 7, 67, 68, 69, 70, 71, 72, 73, 74, 75, 76, 77, 15, 16, 9] (fun i : Nat × Option Addr × Nat => i.1 ≤ l.length) (fun i => [(9, .int .i64 (i.1 : Nat)), (6, .slice i.2.1 (rwAll p (l.take i.1)).out.length i.2.2), (7, .int .i64 (rwAll p (l.take i.1)).n), (8, .bool (rwAll p (l.take i.1)).done)]) (fun i m => setAt 0 (Row pE 46 2 i.2.1 i.2.2 (rwAll p (l.take i.1)).out) m) (fun i => l.length - i.1) (0, some ⟨g1, 0, none⟩, 0) (Nat.zero_le _) ⟨rfl, rfl, rfl, rfl, trivial⟩ (fun _ s => s) ?_
  rintro ⟨k, B, e⟩ hk
  simp only [setAt] at hk ⊢
  have hlen := rwAll_len p l k hk
  rcases Nat.lt_or_ge k l.length with hlt | hge
  · have hi1 : decide ((k : Int) < l.length) = true := decide_eq_true (by omega)
    obtain ⟨x, hget⟩ : ∃ x, l[k]? = some x := ⟨_, List.getElem?_eq_getElem hlt⟩
    have hs := rwAll_succ p hget
    obtain ⟨out, n, dn, hsv⟩ : ∃ out n dn, rwAll p (l.take k) = ⟨out, n, dn⟩ := ⟨_, _, _, rfl⟩
    rw [hsv] at hs hlen ⊢
    simp only at hlen ⊢
    by_cases h3 : p.1 = 3
    · have hi3 : decide (p.1 = 3) = true := decide_eq_true h3
      have hi4 : decide (p.1 < 3) = false := decide_eq_false (by omega)
      have hi5 : decide (p.1 > 5) = false := decide_eq_false (by omega)
      have hi6 : (!decide (p.1 = 5)) = true := by simp [h3]
      cases dn with
      | true =>
        by_cases hx : x.1 = p.2.1
        · have hi7 : (!decide (x.1 = p.2.1)) = false := by simp [hx]
          have hst : rwStep p x ⟨out, n, true⟩ = ⟨out ++ [(p.2.1, p.2.2)], 1, true⟩ := by
            unfold rwStep
            simp [h3, hx]
          rw [hst] at hs
          refine at_seq_k (fun K6 hK6 => ?_)
          refine at_seq_k (fun K7 hK7 => ?_)
          refine at_region ?_
          refine at_v (ov_move rfl rfl) rfl rfl rfl ?_
          refine at_v (ov_move rfl rfl) rfl rfl rfl ?_
          refine at_v (ov_len_slice rfl Tryd.underlying29 rfl) rfl rfl rfl ?_
          refine at_v (ov_int rfl rfl rfl rfl) rfl rfl rfl ?_
          refine at_nil ?_
          refine at_normal ?_
          refine hK7 _ _ _ ?_
          refine at_cond_true (congrArg (fun b => some (Value.bool b)) (show _ = true from decide_eq_true (by omega))) ?_
          refine at_skip ?_
          refine at_normal ?_
          refine hK6 _ _ _ ?_
          refine at_seq_k (fun K8 hK8 => ?_)
          refine at_block ?_
          refine at_seq_k (fun K9 hK9 => ?_)
          refine at_seq_k (fun K10 hK10 => ?_)
          refine at_draw _ [] 1000 [(2, 0), (1, 1), (2, 2), (2, 3), (2, 4), (2, 5), (2, 6), (2, 7), (2, 8), (2, 9), (1, 10), (2, 11), (1, 12), (2, 13), (1, 14), (2, 15), (2, 16)] (by kernel_rfl) (by kernel_rfl) (fun _ s => (s.pulls (ks := [1]) rfl).left) ?_
          refine aq_p (ov_fieldAddr (k := 0) (r := 0) rfl rfl rfl rfl) rfl rfl rfl ?_
          refine aq_v (ov_load rfl rfl rfl (fun _ s => s.ld (k := 0) rfl rfl)) rfl rfl rfl ?_
          refine aq_p (ov_int rfl rfl rfl rfl) rfl rfl rfl ?_
          refine aq_p (ov_move rfl rfl) rfl rfl rfl ?_
          refine at_reval 20 (.bool true) rfl (congrArg Value.bool (decide_eq_true (by omega))) ?_
          refine aq_wanted (j := 3) rfl ?_
          refine aq_p (ov_move rfl rfl) rfl rfl rfl ?_
          refine aq_wanted (j := 3) rfl ?_
          refine aq_p (ov_not rfl rfl) rfl rfl rfl ?_
          refine aq_p (ov_pick_t rfl rfl rfl) rfl rfl rfl ?_
          refine aq_p (ov_move rfl rfl) rfl rfl rfl ?_
          refine aq_unwanted (j := 7) rfl rfl rfl rfl rfl ?_
          refine aq_unwanted (j := 7) rfl rfl rfl rfl rfl ?_
          refine aq_unwanted (j := 7) rfl rfl rfl rfl rfl ?_
          refine aq_unwanted (j := 7) rfl rfl rfl rfl rfl ?_
          refine aq_unwanted (j := 7) rfl rfl rfl rfl rfl ?_
          refine aq_unwanted (j := 7) rfl rfl rfl rfl rfl ?_
          refine aq_unwanted (j := 7) rfl rfl rfl rfl rfl ?_
          refine aq_unwanted (j := 7) rfl rfl rfl rfl rfl ?_
          refine aq_p (ov_pick_f rfl rfl rfl) rfl rfl rfl ?_
          refine aq_nil ?_
          refine at_normal ?_
          refine hK10 _ _ _ ?_
          refine at_cond_false rfl ?_
          refine at_skip ?_
          refine at_normal ?_
          refine hK9 _ _ _ ?_
          refine at_seq_k (fun K11 hK11 => ?_)
          refine at_seq_k (fun K12 hK12 => ?_)
          refine at_draw _ [] 1000 [(2, 0), (2, 1), (1, 2), (1, 3), (1, 4), (2, 5), (1, 6), (2, 7), (2, 8), (2, 9), (1, 10), (2, 11), (2, 12), (2, 13), (2, 14), (1, 15), (2, 16), (2, 17)] (by kernel_rfl) (by kernel_rfl) (fun _ s => (s.pulls (ks := [0, 0, 0]) rfl).left) ?_
          refine aq_p (ov_move rfl rfl) rfl rfl rfl ?_
          refine aq_p (ov_move rfl rfl) rfl rfl rfl ?_
          refine aq_v (ov_indexRd (fun _ s => s.rd (k := 2) rfl) rfl Tryd.underlying29 rfl rfl rfl hget) rfl rfl rfl ?_
          refine aq_v (ov_fieldRd0 (k := 0) (fun _ s => s.rd (k := 2) rfl) rfl rfl hget rfl) rfl rfl rfl ?_
          refine aq_v (ov_loadRd0 (fun _ s => s.rd (k := 2) rfl) rfl rfl rfl hget rfl) rfl rfl rfl ?_
          refine aq_p (ov_fieldAddr (k := 1) (r := 1) rfl rfl rfl rfl) rfl rfl rfl ?_
          refine aq_v (ov_load rfl rfl rfl (fun _ s => s.ld (k := 1) rfl rfl)) rfl rfl rfl ?_
          refine aq_p (ov_strL rfl rfl rfl rfl) rfl rfl rfl ?_
          refine aq_p (ov_move rfl rfl) rfl rfl rfl ?_
          refine at_reval 50 (.bool false) rfl (congrArg Value.bool (by first | assumption | (rw [Bool.not_eq_false']; exact decide_eq_true (by omega)))) ?_
          refine aq_wanted (j := 8) rfl ?_
          refine aq_p (ov_fieldAddr (k := 0) (r := 0) rfl rfl rfl rfl) rfl rfl rfl ?_
          refine aq_wanted (j := 8) rfl ?_
          refine aq_v (ov_load rfl rfl rfl (fun _ s => s.ld (k := 1) rfl rfl)) rfl rfl rfl ?_
          refine aq_wanted (j := 8) rfl ?_
          refine aq_p (ov_int rfl rfl rfl rfl) rfl rfl rfl ?_
          refine aq_p (ov_pick_f rfl rfl rfl) rfl rfl rfl ?_
          refine aq_p (ov_move rfl rfl) rfl rfl rfl ?_
          refine at_reval 55 (.bool false) rfl (congrArg Value.bool (decide_eq_false (by omega))) ?_
          refine aq_wanted (j := 13) rfl ?_
          refine aq_p (ov_fieldAddr (k := 0) (r := 0) rfl rfl rfl rfl) rfl rfl rfl ?_
          refine aq_wanted (j := 13) rfl ?_
          refine aq_v (ov_load rfl rfl rfl (fun _ s => s.ld (k := 1) rfl rfl)) rfl rfl rfl ?_
          refine aq_wanted (j := 13) rfl ?_
          refine aq_p (ov_int rfl rfl rfl rfl) rfl rfl rfl ?_
          refine aq_p (ov_pick_f rfl rfl rfl) rfl rfl rfl ?_
          refine aq_nil ?_
          refine at_normal ?_
          refine hK12 _ _ _ ?_
          refine at_cond_false (congrArg (fun b => some (Value.bool b)) (show _ = false from decide_eq_false (by omega))) ?_
          refine at_skip ?_
          refine at_normal ?_
          refine hK11 _ _ _ ?_
          refine at_seq_k (fun K13 hK13 => ?_)
          refine at_region ?_
          refine at_v (ov_assign rfl rfl) rfl rfl rfl ?_
          refine at_nil ?_
          refine at_normal ?_
          refine hK13 _ _ _ ?_
          refine at_seq_k (fun K14 hK14 => ?_)
          refine at_region ?_
          refine at_v (ov_assign rfl rfl) rfl rfl rfl ?_
          refine at_nil ?_
          refine at_normal ?_
          refine hK14 _ _ _ ?_
          refine at_seq_k (fun K15 hK15 => ?_)
          refine at_region ?_
          refine at_v (ov_fieldAddr (k := 0) (r := 0) rfl rfl rfl rfl) rfl rfl rfl ?_
          refine at_v (ov_load rfl rfl rfl (fun _ s => s.ld (k := 1) rfl rfl)) rfl rfl rfl ?_
          refine at_v (ov_int rfl rfl rfl rfl) rfl rfl rfl ?_
          refine at_nil ?_
          refine at_normal ?_
          refine hK15 _ _ _ ?_
          refine at_cond_true (congrArg (fun b => some (Value.bool b)) (show _ = true from by first | assumption | (rw [Bool.not_eq_true']; exact decide_eq_false (by omega)))) ?_
          refine at_region ?_
          refine at_v (ov_move rfl rfl) rfl rfl rfl ?_
          refine at_v (ov_fieldAddr (k := 1) (r := 1) rfl rfl rfl rfl) rfl rfl rfl ?_
          refine at_v (ov_load rfl rfl rfl (fun _ s => s.ld (k := 1) rfl rfl)) rfl rfl rfl ?_
          refine at_v (ov_fieldAddr (k := 2) (r := 2) rfl rfl rfl rfl) rfl rfl rfl ?_
          refine at_v (ov_load rfl rfl rfl (fun _ s => s.ld (k := 1) rfl rfl)) rfl rfl rfl ?_
          refine at_v (ov_build (cs := [_, _]) rfl rfl rfl rfl) rfl rfl rfl ?_
          refine at_t (ot_buildSlice (cs := [_, _]) rfl Tryd.underlying29 rfl rfl rfl rfl rfl rfl) rfl rfl rfl ?_
          rintro _ _ ⟨g2, rfl, rfl⟩
          refine at_t (ot_append (k := 1) (size := 2) (bytes := 32) (ys := [(p.2.1, p.2.2)]) (fun _ s => s.rdPt (k := 0) rfl rfl (by simp [pE])) rfl Tryd.underlying29 (ti := Tryd.t46) rfl rfl rfl rfl rfl (by decide) rfl rfl rfl (by simp [pE, Value.oneCell']) (by simp; omega) (by decide)) rfl rfl rfl ?_
          rintro _ _ ⟨A0, c0, rfl, rfl⟩
          simp only [setAt]
          refine at_v (ov_assign rfl rfl) rfl rfl rfl ?_
          refine at_nil ?_
          refine at_inb_normal ?_
          refine at_normal ?_
          refine hK8 _ _ _ ?_
          refine at_region ?_
          refine at_v (ov_move rfl rfl) rfl rfl rfl ?_
          refine at_v ((ov_int rfl rfl rfl rfl).eq (congrArg (Value.int .i64) (inK_i64 (by omega) (by omega)))) rfl rfl rfl ?_
          refine at_v (ov_assign rfl rfl) rfl rfl rfl ?_
          refine at_nil ?_
          refine at_normal ?_
          refine at_roundF (k + 1, A0, c0) hlt (by simp only; omega) ⟨rfl, look_eq rfl (by simp [hs]), look_eq rfl (by simp [hs]), look_eq rfl (by simp [hs]), trivial⟩ rfl ?_
          simp only [setAt, hs]
          exact fun _ s => s.finEq (ks := [1, 1, 1]) (js := [0]) rfl rfl rfl
        · have hi7 : (!decide (x.1 = p.2.1)) = true := by simp [hx]
          have hst : rwStep p x ⟨out, n, true⟩ = ⟨out ++ [x], n, true⟩ := by
            unfold rwStep
            simp [h3, hx]
          rw [hst] at hs
          refine at_seq_k (fun K6 hK6 => ?_)
          refine at_seq_k (fun K7 hK7 => ?_)
          refine at_region ?_
          refine at_v (ov_move rfl rfl) rfl rfl rfl ?_
          refine at_v (ov_move rfl rfl) rfl rfl rfl ?_
          refine at_v (ov_len_slice rfl Tryd.underlying29 rfl) rfl rfl rfl ?_
          refine at_v (ov_int rfl rfl rfl rfl) rfl rfl rfl ?_
          refine at_nil ?_
          refine at_normal ?_
          refine hK7 _ _ _ ?_
          refine at_cond_true (congrArg (fun b => some (Value.bool b)) (show _ = true from decide_eq_true (by omega))) ?_
          refine at_skip ?_
          refine at_normal ?_
          refine hK6 _ _ _ ?_
          refine at_seq_k (fun K8 hK8 => ?_)
          refine at_block ?_
          refine at_seq_k (fun K9 hK9 => ?_)
          refine at_seq_k (fun K10 hK10 => ?_)
          refine at_draw _ [] 1000 [(2, 0), (1, 1), (2, 2), (2, 3), (2, 4), (2, 5), (2, 6), (2, 7), (2, 8), (2, 9), (1, 10), (2, 11), (1, 12), (2, 13), (1, 14), (2, 15), (2, 16)] (by kernel_rfl) (by kernel_rfl) (fun _ s => (s.pulls (ks := [1]) rfl).left) ?_
          refine aq_p (ov_fieldAddr (k := 0) (r := 0) rfl rfl rfl rfl) rfl rfl rfl ?_
          refine aq_v (ov_load rfl rfl rfl (fun _ s => s.ld (k := 0) rfl rfl)) rfl rfl rfl ?_
          refine aq_p (ov_int rfl rfl rfl rfl) rfl rfl rfl ?_
          refine aq_p (ov_move rfl rfl) rfl rfl rfl ?_
          refine at_reval 20 (.bool true) rfl (congrArg Value.bool (decide_eq_true (by omega))) ?_
          refine aq_wanted (j := 3) rfl ?_
          refine aq_p (ov_move rfl rfl) rfl rfl rfl ?_
          refine aq_wanted (j := 3) rfl ?_
          refine aq_p (ov_not rfl rfl) rfl rfl rfl ?_
          refine aq_p (ov_pick_t rfl rfl rfl) rfl rfl rfl ?_
          refine aq_p (ov_move rfl rfl) rfl rfl rfl ?_
          refine aq_unwanted (j := 7) rfl rfl rfl rfl rfl ?_
          refine aq_unwanted (j := 7) rfl rfl rfl rfl rfl ?_
          refine aq_unwanted (j := 7) rfl rfl rfl rfl rfl ?_
          refine aq_unwanted (j := 7) rfl rfl rfl rfl rfl ?_
          refine aq_unwanted (j := 7) rfl rfl rfl rfl rfl ?_
          refine aq_unwanted (j := 7) rfl rfl rfl rfl rfl ?_
          refine aq_unwanted (j := 7) rfl rfl rfl rfl rfl ?_
          refine aq_unwanted (j := 7) rfl rfl rfl rfl rfl ?_
          refine aq_p (ov_pick_f rfl rfl rfl) rfl rfl rfl ?_
          refine aq_nil ?_
          refine at_normal ?_
          refine hK10 _ _ _ ?_
          refine at_cond_false rfl ?_
          refine at_skip ?_
          refine at_normal ?_
          refine hK9 _ _ _ ?_
          refine at_seq_k (fun K11 hK11 => ?_)
          refine at_seq_k (fun K12 hK12 => ?_)
          refine at_draw _ [] 1000 [(2, 0), (2, 1), (1, 2), (1, 3), (1, 4), (2, 5), (1, 6), (2, 7), (2, 8), (2, 9), (1, 10), (2, 11), (2, 12), (2, 13), (2, 14), (1, 15), (2, 16), (2, 17)] (by kernel_rfl) (by kernel_rfl) (fun _ s => (s.pulls (ks := [0, 0, 0]) rfl).left) ?_
          refine aq_p (ov_move rfl rfl) rfl rfl rfl ?_
          refine aq_p (ov_move rfl rfl) rfl rfl rfl ?_
          refine aq_v (ov_indexRd (fun _ s => s.rd (k := 2) rfl) rfl Tryd.underlying29 rfl rfl rfl hget) rfl rfl rfl ?_
          refine aq_v (ov_fieldRd0 (k := 0) (fun _ s => s.rd (k := 2) rfl) rfl rfl hget rfl) rfl rfl rfl ?_
          refine aq_v (ov_loadRd0 (fun _ s => s.rd (k := 2) rfl) rfl rfl rfl hget rfl) rfl rfl rfl ?_
          refine aq_p (ov_fieldAddr (k := 1) (r := 1) rfl rfl rfl rfl) rfl rfl rfl ?_
          refine aq_v (ov_load rfl rfl rfl (fun _ s => s.ld (k := 1) rfl rfl)) rfl rfl rfl ?_
          refine aq_p (ov_strL rfl rfl rfl rfl) rfl rfl rfl ?_
          refine aq_p (ov_move rfl rfl) rfl rfl rfl ?_
          refine at_reval 50 (.bool true) rfl (congrArg Value.bool (by first | assumption | (rw [Bool.not_eq_true']; exact decide_eq_false (by omega)))) ?_
          refine aq_unwanted (j := 8) rfl rfl rfl rfl rfl ?_
          refine aq_unwanted (j := 8) rfl rfl rfl rfl rfl ?_
          refine aq_unwanted (j := 8) rfl rfl rfl rfl rfl ?_
          refine aq_p (ov_pick_t rfl rfl rfl) rfl rfl rfl ?_
          refine aq_p (ov_move rfl rfl) rfl rfl rfl ?_
          refine aq_unwanted (j := 13) rfl rfl rfl rfl rfl ?_
          refine aq_unwanted (j := 13) rfl rfl rfl rfl rfl ?_
          refine aq_unwanted (j := 13) rfl rfl rfl rfl rfl ?_
          refine aq_p (ov_pick_t rfl rfl rfl) rfl rfl rfl ?_
          refine aq_nil ?_
          refine at_normal ?_
          refine hK12 _ _ _ ?_
          refine at_cond_true rfl ?_
          refine at_seq_k (fun K13 hK13 => ?_)
          refine at_region ?_
          refine at_v (ov_move rfl rfl) rfl rfl rfl ?_
          refine at_v (ov_move rfl rfl) rfl rfl rfl ?_
          refine at_v (ov_move rfl rfl) rfl rfl rfl ?_
          refine at_v (ov_indexRd (fun _ s => s.rd (k := 2) rfl) rfl Tryd.underlying29 rfl rfl rfl hget) rfl rfl rfl ?_
          refine at_v (ov_loadRdS (vs := [_, _]) (fun _ s => s.rd (k := 2) rfl) rfl rfl rfl hget rfl rfl) rfl rfl rfl ?_
          refine at_t (ot_buildSlice (cs := [_, _]) rfl Tryd.underlying29 rfl rfl rfl rfl rfl rfl) rfl rfl rfl ?_
          rintro _ _ ⟨g2, rfl, rfl⟩
          refine at_t (ot_append (k := 1) (size := 2) (bytes := 32) (ys := [x]) (fun _ s => s.rdPt (k := 0) rfl rfl (by simp [pE])) rfl Tryd.underlying29 (ti := Tryd.t46) rfl rfl rfl rfl rfl (by decide) rfl rfl rfl (by simp [pE, Value.oneCell']) (by simp; omega) (by decide)) rfl rfl rfl ?_
          rintro _ _ ⟨A0, c0, rfl, rfl⟩
          simp only [setAt]
          refine at_v (ov_assign rfl rfl) rfl rfl rfl ?_
          refine at_nil ?_
          refine at_normal ?_
          refine hK13 _ _ _ ?_
          refine at_exit ?_
          refine at_then_exit ?_
          refine at_exit_eq ?_
          refine at_normal ?_
          refine hK8 _ _ _ ?_
          refine at_region ?_
          refine at_v (ov_move rfl rfl) rfl rfl rfl ?_
          refine at_v ((ov_int rfl rfl rfl rfl).eq (congrArg (Value.int .i64) (inK_i64 (by omega) (by omega)))) rfl rfl rfl ?_
          refine at_v (ov_assign rfl rfl) rfl rfl rfl ?_
          refine at_nil ?_
          refine at_normal ?_
          refine at_roundF (k + 1, A0, c0) hlt (by simp only; omega) ⟨rfl, look_eq rfl (by simp [hs]), look_eq rfl (by simp [hs]), look_eq rfl (by simp [hs]), trivial⟩ rfl ?_
          simp only [setAt, hs]
          exact fun _ s => s.finEq (ks := [1, 1, 1]) (js := [0]) rfl rfl rfl
      | false =>
        rcases tri_cases x.1 p.2.1 with hc | hc | ⟨hc, hc2, hc3⟩
        · have hx := ltB_ne hc
          have has := ltB_asymm hc
          have hi7 : (!decide (x.1 = p.2.1)) = true := by simp [hx]
          have hi8 : (!(Op.bytesLess x.1 p.2.1 || decide (x.1 = p.2.1))) = false := by simp [show Op.bytesLess x.1 p.2.1 = true from hc]
          have hst : rwStep p x ⟨out, n, false⟩ = ⟨out ++ [x], n, false⟩ := by
            unfold rwStep
            simp [h3, hx, has]
          rw [hst] at hs
          refine at_seq_k (fun K6 hK6 => ?_)
          refine at_seq_k (fun K7 hK7 => ?_)
          refine at_region ?_
          refine at_v (ov_move rfl rfl) rfl rfl rfl ?_
          refine at_v (ov_move rfl rfl) rfl rfl rfl ?_
          refine at_v (ov_len_slice rfl Tryd.underlying29 rfl) rfl rfl rfl ?_
          refine at_v (ov_int rfl rfl rfl rfl) rfl rfl rfl ?_
          refine at_nil ?_
          refine at_normal ?_
          refine hK7 _ _ _ ?_
          refine at_cond_true (congrArg (fun b => some (Value.bool b)) (show _ = true from decide_eq_true (by omega))) ?_
          refine at_skip ?_
          refine at_normal ?_
          refine hK6 _ _ _ ?_
          refine at_seq_k (fun K8 hK8 => ?_)
          refine at_block ?_
          refine at_seq_k (fun K9 hK9 => ?_)
          refine at_seq_k (fun K10 hK10 => ?_)
          refine at_draw _ [] 1000 [(2, 0), (1, 1), (2, 2), (2, 3), (2, 4), (2, 5), (2, 6), (2, 7), (2, 8), (2, 9), (1, 10), (1, 11), (1, 12), (2, 13), (1, 14), (2, 15), (2, 16)] (by kernel_rfl) (by kernel_rfl) (fun _ s => (s.pulls (ks := [0, 0, 0]) rfl).left) ?_
          refine aq_p (ov_fieldAddr (k := 0) (r := 0) rfl rfl rfl rfl) rfl rfl rfl ?_
          refine aq_v (ov_load rfl rfl rfl (fun _ s => s.ld (k := 1) rfl rfl)) rfl rfl rfl ?_
          refine aq_p (ov_int rfl rfl rfl rfl) rfl rfl rfl ?_
          refine aq_p (ov_move rfl rfl) rfl rfl rfl ?_
          refine at_reval 20 (.bool true) rfl (congrArg Value.bool (decide_eq_true (by omega))) ?_
          refine aq_wanted (j := 3) rfl ?_
          refine aq_p (ov_move rfl rfl) rfl rfl rfl ?_
          refine aq_wanted (j := 3) rfl ?_
          refine aq_p (ov_not rfl rfl) rfl rfl rfl ?_
          refine aq_p (ov_pick_t rfl rfl rfl) rfl rfl rfl ?_
          refine aq_p (ov_move rfl rfl) rfl rfl rfl ?_
          refine aq_wanted (j := 7) rfl ?_
          refine aq_p (ov_move rfl rfl) rfl rfl rfl ?_
          refine aq_wanted (j := 7) rfl ?_
          refine aq_p (ov_move rfl rfl) rfl rfl rfl ?_
          refine aq_wanted (j := 7) rfl ?_
          refine aq_v (ov_indexRd (fun _ s => s.rd (k := 2) rfl) rfl Tryd.underlying29 rfl rfl rfl hget) rfl rfl rfl ?_
          refine aq_wanted (j := 7) rfl ?_
          refine aq_v (ov_fieldRd0 (k := 0) (fun _ s => s.rd (k := 2) rfl) rfl rfl hget rfl) rfl rfl rfl ?_
          refine aq_wanted (j := 7) rfl ?_
          refine aq_v (ov_loadRd0 (fun _ s => s.rd (k := 2) rfl) rfl rfl rfl hget rfl) rfl rfl rfl ?_
          refine aq_wanted (j := 7) rfl ?_
          refine aq_p (ov_fieldAddr (k := 1) (r := 1) rfl rfl rfl rfl) rfl rfl rfl ?_
          refine aq_wanted (j := 7) rfl ?_
          refine aq_v (ov_load rfl rfl rfl (fun _ s => s.ld (k := 1) rfl rfl)) rfl rfl rfl ?_
          refine aq_wanted (j := 7) rfl ?_
          refine aq_p (ov_cmpL rfl rfl rfl rfl) rfl rfl rfl ?_
          refine aq_p (ov_pick_t rfl rfl rfl) rfl rfl rfl ?_
          refine aq_nil ?_
          refine at_normal ?_
          refine hK10 _ _ _ ?_
          refine at_cond_false (congrArg (fun b => some (Value.bool b)) (show _ = false from by first | assumption | (rw [Bool.not_eq_false']; exact decide_eq_true (by omega)))) ?_
          refine at_skip ?_
          refine at_normal ?_
          refine hK9 _ _ _ ?_
          refine at_seq_k (fun K11 hK11 => ?_)
          refine at_seq_k (fun K12 hK12 => ?_)
          refine at_draw _ [] 1000 [(2, 0), (2, 1), (1, 2), (1, 3), (1, 4), (2, 5), (1, 6), (2, 7), (2, 8), (2, 9), (1, 10), (2, 11), (2, 12), (2, 13), (2, 14), (1, 15), (2, 16), (2, 17)] (by kernel_rfl) (by kernel_rfl) (fun _ s => (s.pulls (ks := [0, 0, 0]) rfl).left) ?_
          refine aq_p (ov_move rfl rfl) rfl rfl rfl ?_
          refine aq_p (ov_move rfl rfl) rfl rfl rfl ?_
          refine aq_v (ov_indexRd (fun _ s => s.rd (k := 2) rfl) rfl Tryd.underlying29 rfl rfl rfl hget) rfl rfl rfl ?_
          refine aq_v (ov_fieldRd0 (k := 0) (fun _ s => s.rd (k := 2) rfl) rfl rfl hget rfl) rfl rfl rfl ?_
          refine aq_v (ov_loadRd0 (fun _ s => s.rd (k := 2) rfl) rfl rfl rfl hget rfl) rfl rfl rfl ?_
          refine aq_p (ov_fieldAddr (k := 1) (r := 1) rfl rfl rfl rfl) rfl rfl rfl ?_
          refine aq_v (ov_load rfl rfl rfl (fun _ s => s.ld (k := 1) rfl rfl)) rfl rfl rfl ?_
          refine aq_p (ov_strL rfl rfl rfl rfl) rfl rfl rfl ?_
          refine aq_p (ov_move rfl rfl) rfl rfl rfl ?_
          refine at_reval 50 (.bool true) rfl (congrArg Value.bool (by first | assumption | (rw [Bool.not_eq_true']; exact decide_eq_false (by omega)))) ?_
          refine aq_unwanted (j := 8) rfl rfl rfl rfl rfl ?_
          refine aq_unwanted (j := 8) rfl rfl rfl rfl rfl ?_
          refine aq_unwanted (j := 8) rfl rfl rfl rfl rfl ?_
          refine aq_p (ov_pick_t rfl rfl rfl) rfl rfl rfl ?_
          refine aq_p (ov_move rfl rfl) rfl rfl rfl ?_
          refine aq_unwanted (j := 13) rfl rfl rfl rfl rfl ?_
          refine aq_unwanted (j := 13) rfl rfl rfl rfl rfl ?_
          refine aq_unwanted (j := 13) rfl rfl rfl rfl rfl ?_
          refine aq_p (ov_pick_t rfl rfl rfl) rfl rfl rfl ?_
          refine aq_nil ?_
          refine at_normal ?_
          refine hK12 _ _ _ ?_
          refine at_cond_true rfl ?_
          refine at_seq_k (fun K13 hK13 => ?_)
          refine at_region ?_
          refine at_v (ov_move rfl rfl) rfl rfl rfl ?_
          refine at_v (ov_move rfl rfl) rfl rfl rfl ?_
          refine at_v (ov_move rfl rfl) rfl rfl rfl ?_
          refine at_v (ov_indexRd (fun _ s => s.rd (k := 2) rfl) rfl Tryd.underlying29 rfl rfl rfl hget) rfl rfl rfl ?_
          refine at_v (ov_loadRdS (vs := [_, _]) (fun _ s => s.rd (k := 2) rfl) rfl rfl rfl hget rfl rfl) rfl rfl rfl ?_
          refine at_t (ot_buildSlice (cs := [_, _]) rfl Tryd.underlying29 rfl rfl rfl rfl rfl rfl) rfl rfl rfl ?_
          rintro _ _ ⟨g2, rfl, rfl⟩
          refine at_t (ot_append (k := 1) (size := 2) (bytes := 32) (ys := [x]) (fun _ s => s.rdPt (k := 0) rfl rfl (by simp [pE])) rfl Tryd.underlying29 (ti := Tryd.t46) rfl rfl rfl rfl rfl (by decide) rfl rfl rfl (by simp [pE, Value.oneCell']) (by simp; omega) (by decide)) rfl rfl rfl ?_
          rintro _ _ ⟨A0, c0, rfl, rfl⟩
          simp only [setAt]
          refine at_v (ov_assign rfl rfl) rfl rfl rfl ?_
          refine at_nil ?_
          refine at_normal ?_
          refine hK13 _ _ _ ?_
          refine at_exit ?_
          refine at_then_exit ?_
          refine at_exit_eq ?_
          refine at_normal ?_
          refine hK8 _ _ _ ?_
          refine at_region ?_
          refine at_v (ov_move rfl rfl) rfl rfl rfl ?_
          refine at_v ((ov_int rfl rfl rfl rfl).eq (congrArg (Value.int .i64) (inK_i64 (by omega) (by omega)))) rfl rfl rfl ?_
          refine at_v (ov_assign rfl rfl) rfl rfl rfl ?_
          refine at_nil ?_
          refine at_normal ?_
          refine at_roundF (k + 1, A0, c0) hlt (by simp only; omega) ⟨rfl, look_eq rfl (by simp [hs]), look_eq rfl (by simp [hs]), look_eq rfl (by simp [hs]), trivial⟩ rfl ?_
          simp only [setAt, hs]
          exact fun _ s => s.finEq (ks := [1, 1, 1]) (js := [0]) rfl rfl rfl
        · have hi7 : (!decide (x.1 = p.2.1)) = false := by simp [hc]
          have has : ltB p.2.1 x.1 = false := by rw [hc]; exact ltB_irrefl _
          have hirr := ltB_irrefl p.2.1
          have hi8 : (!(Op.bytesLess x.1 p.2.1 || decide (x.1 = p.2.1))) = false := by simp [hc]
          have hst : rwStep p x ⟨out, n, false⟩ = ⟨out ++ [(p.2.1, p.2.2)], 1, true⟩ := by
            unfold rwStep
            simp [h3, hc, has, hirr]
          rw [hst] at hs
          refine at_seq_k (fun K6 hK6 => ?_)
          refine at_seq_k (fun K7 hK7 => ?_)
          refine at_region ?_
          refine at_v (ov_move rfl rfl) rfl rfl rfl ?_
          refine at_v (ov_move rfl rfl) rfl rfl rfl ?_
          refine at_v (ov_len_slice rfl Tryd.underlying29 rfl) rfl rfl rfl ?_
          refine at_v (ov_int rfl rfl rfl rfl) rfl rfl rfl ?_
          refine at_nil ?_
          refine at_normal ?_
          refine hK7 _ _ _ ?_
          refine at_cond_true (congrArg (fun b => some (Value.bool b)) (show _ = true from decide_eq_true (by omega))) ?_
          refine at_skip ?_
          refine at_normal ?_
          refine hK6 _ _ _ ?_
          refine at_seq_k (fun K8 hK8 => ?_)
          refine at_block ?_
          refine at_seq_k (fun K9 hK9 => ?_)
          refine at_seq_k (fun K10 hK10 => ?_)
          refine at_draw _ [] 1000 [(2, 0), (1, 1), (2, 2), (2, 3), (2, 4), (2, 5), (2, 6), (2, 7), (2, 8), (2, 9), (1, 10), (1, 11), (1, 12), (2, 13), (1, 14), (2, 15), (2, 16)] (by kernel_rfl) (by kernel_rfl) (fun _ s => (s.pulls (ks := [0, 0, 0]) rfl).left) ?_
          refine aq_p (ov_fieldAddr (k := 0) (r := 0) rfl rfl rfl rfl) rfl rfl rfl ?_
          refine aq_v (ov_load rfl rfl rfl (fun _ s => s.ld (k := 1) rfl rfl)) rfl rfl rfl ?_
          refine aq_p (ov_int rfl rfl rfl rfl) rfl rfl rfl ?_
          refine aq_p (ov_move rfl rfl) rfl rfl rfl ?_
          refine at_reval 20 (.bool true) rfl (congrArg Value.bool (decide_eq_true (by omega))) ?_
          refine aq_wanted (j := 3) rfl ?_
          refine aq_p (ov_move rfl rfl) rfl rfl rfl ?_
          refine aq_wanted (j := 3) rfl ?_
          refine aq_p (ov_not rfl rfl) rfl rfl rfl ?_
          refine aq_p (ov_pick_t rfl rfl rfl) rfl rfl rfl ?_
          refine aq_p (ov_move rfl rfl) rfl rfl rfl ?_
          refine aq_wanted (j := 7) rfl ?_
          refine aq_p (ov_move rfl rfl) rfl rfl rfl ?_
          refine aq_wanted (j := 7) rfl ?_
          refine aq_p (ov_move rfl rfl) rfl rfl rfl ?_
          refine aq_wanted (j := 7) rfl ?_
          refine aq_v (ov_indexRd (fun _ s => s.rd (k := 2) rfl) rfl Tryd.underlying29 rfl rfl rfl hget) rfl rfl rfl ?_
          refine aq_wanted (j := 7) rfl ?_
          refine aq_v (ov_fieldRd0 (k := 0) (fun _ s => s.rd (k := 2) rfl) rfl rfl hget rfl) rfl rfl rfl ?_
          refine aq_wanted (j := 7) rfl ?_
          refine aq_v (ov_loadRd0 (fun _ s => s.rd (k := 2) rfl) rfl rfl rfl hget rfl) rfl rfl rfl ?_
          refine aq_wanted (j := 7) rfl ?_
          refine aq_p (ov_fieldAddr (k := 1) (r := 1) rfl rfl rfl rfl) rfl rfl rfl ?_
          refine aq_wanted (j := 7) rfl ?_
          refine aq_v (ov_load rfl rfl rfl (fun _ s => s.ld (k := 1) rfl rfl)) rfl rfl rfl ?_
          refine aq_wanted (j := 7) rfl ?_
          refine aq_p (ov_cmpL rfl rfl rfl rfl) rfl rfl rfl ?_
          refine aq_p (ov_pick_t rfl rfl rfl) rfl rfl rfl ?_
          refine aq_nil ?_
          refine at_normal ?_
          refine hK10 _ _ _ ?_
          refine at_cond_false (congrArg (fun b => some (Value.bool b)) (show _ = false from by first | assumption | (rw [Bool.not_eq_false']; exact decide_eq_true (by omega)))) ?_
          refine at_skip ?_
          refine at_normal ?_
          refine hK9 _ _ _ ?_
          refine at_seq_k (fun K11 hK11 => ?_)
          refine at_seq_k (fun K12 hK12 => ?_)
          refine at_draw _ [] 1000 [(2, 0), (2, 1), (1, 2), (1, 3), (1, 4), (2, 5), (1, 6), (2, 7), (2, 8), (2, 9), (1, 10), (2, 11), (2, 12), (2, 13), (2, 14), (1, 15), (2, 16), (2, 17)] (by kernel_rfl) (by kernel_rfl) (fun _ s => (s.pulls (ks := [0, 0, 0]) rfl).left) ?_
          refine aq_p (ov_move rfl rfl) rfl rfl rfl ?_
          refine aq_p (ov_move rfl rfl) rfl rfl rfl ?_
          refine aq_v (ov_indexRd (fun _ s => s.rd (k := 2) rfl) rfl Tryd.underlying29 rfl rfl rfl hget) rfl rfl rfl ?_
          refine aq_v (ov_fieldRd0 (k := 0) (fun _ s => s.rd (k := 2) rfl) rfl rfl hget rfl) rfl rfl rfl ?_
          refine aq_v (ov_loadRd0 (fun _ s => s.rd (k := 2) rfl) rfl rfl rfl hget rfl) rfl rfl rfl ?_
          refine aq_p (ov_fieldAddr (k := 1) (r := 1) rfl rfl rfl rfl) rfl rfl rfl ?_
          refine aq_v (ov_load rfl rfl rfl (fun _ s => s.ld (k := 1) rfl rfl)) rfl rfl rfl ?_
          refine aq_p (ov_strL rfl rfl rfl rfl) rfl rfl rfl ?_
          refine aq_p (ov_move rfl rfl) rfl rfl rfl ?_
          refine at_reval 50 (.bool false) rfl (congrArg Value.bool (by first | assumption | (rw [Bool.not_eq_false']; exact decide_eq_true (by omega)))) ?_
          refine aq_wanted (j := 8) rfl ?_
          refine aq_p (ov_fieldAddr (k := 0) (r := 0) rfl rfl rfl rfl) rfl rfl rfl ?_
          refine aq_wanted (j := 8) rfl ?_
          refine aq_v (ov_load rfl rfl rfl (fun _ s => s.ld (k := 1) rfl rfl)) rfl rfl rfl ?_
          refine aq_wanted (j := 8) rfl ?_
          refine aq_p (ov_int rfl rfl rfl rfl) rfl rfl rfl ?_
          refine aq_p (ov_pick_f rfl rfl rfl) rfl rfl rfl ?_
          refine aq_p (ov_move rfl rfl) rfl rfl rfl ?_
          refine at_reval 55 (.bool false) rfl (congrArg Value.bool (decide_eq_false (by omega))) ?_
          refine aq_wanted (j := 13) rfl ?_
          refine aq_p (ov_fieldAddr (k := 0) (r := 0) rfl rfl rfl rfl) rfl rfl rfl ?_
          refine aq_wanted (j := 13) rfl ?_
          refine aq_v (ov_load rfl rfl rfl (fun _ s => s.ld (k := 1) rfl rfl)) rfl rfl rfl ?_
          refine aq_wanted (j := 13) rfl ?_
          refine aq_p (ov_int rfl rfl rfl rfl) rfl rfl rfl ?_
          refine aq_p (ov_pick_f rfl rfl rfl) rfl rfl rfl ?_
          refine aq_nil ?_
          refine at_normal ?_
          refine hK12 _ _ _ ?_
          refine at_cond_false (congrArg (fun b => some (Value.bool b)) (show _ = false from decide_eq_false (by omega))) ?_
          refine at_skip ?_
          refine at_normal ?_
          refine hK11 _ _ _ ?_
          refine at_seq_k (fun K13 hK13 => ?_)
          refine at_region ?_
          refine at_v (ov_assign rfl rfl) rfl rfl rfl ?_
          refine at_nil ?_
          refine at_normal ?_
          refine hK13 _ _ _ ?_
          refine at_seq_k (fun K14 hK14 => ?_)
          refine at_region ?_
          refine at_v (ov_assign rfl rfl) rfl rfl rfl ?_
          refine at_nil ?_
          refine at_normal ?_
          refine hK14 _ _ _ ?_
          refine at_seq_k (fun K15 hK15 => ?_)
          refine at_region ?_
          refine at_v (ov_fieldAddr (k := 0) (r := 0) rfl rfl rfl rfl) rfl rfl rfl ?_
          refine at_v (ov_load rfl rfl rfl (fun _ s => s.ld (k := 1) rfl rfl)) rfl rfl rfl ?_
          refine at_v (ov_int rfl rfl rfl rfl) rfl rfl rfl ?_
          refine at_nil ?_
          refine at_normal ?_
          refine hK15 _ _ _ ?_
          refine at_cond_true (congrArg (fun b => some (Value.bool b)) (show _ = true from by first | assumption | (rw [Bool.not_eq_true']; exact decide_eq_false (by omega)))) ?_
          refine at_region ?_
          refine at_v (ov_move rfl rfl) rfl rfl rfl ?_
          refine at_v (ov_fieldAddr (k := 1) (r := 1) rfl rfl rfl rfl) rfl rfl rfl ?_
          refine at_v (ov_load rfl rfl rfl (fun _ s => s.ld (k := 1) rfl rfl)) rfl rfl rfl ?_
          refine at_v (ov_fieldAddr (k := 2) (r := 2) rfl rfl rfl rfl) rfl rfl rfl ?_
          refine at_v (ov_load rfl rfl rfl (fun _ s => s.ld (k := 1) rfl rfl)) rfl rfl rfl ?_
          refine at_v (ov_build (cs := [_, _]) rfl rfl rfl rfl) rfl rfl rfl ?_
          refine at_t (ot_buildSlice (cs := [_, _]) rfl Tryd.underlying29 rfl rfl rfl rfl rfl rfl) rfl rfl rfl ?_
          rintro _ _ ⟨g2, rfl, rfl⟩
          refine at_t (ot_append (k := 1) (size := 2) (bytes := 32) (ys := [(p.2.1, p.2.2)]) (fun _ s => s.rdPt (k := 0) rfl rfl (by simp [pE])) rfl Tryd.underlying29 (ti := Tryd.t46) rfl rfl rfl rfl rfl (by decide) rfl rfl rfl (by simp [pE, Value.oneCell']) (by simp; omega) (by decide)) rfl rfl rfl ?_
          rintro _ _ ⟨A0, c0, rfl, rfl⟩
          simp only [setAt]
          refine at_v (ov_assign rfl rfl) rfl rfl rfl ?_
          refine at_nil ?_
          refine at_inb_normal ?_
          refine at_normal ?_
          refine hK8 _ _ _ ?_
          refine at_region ?_
          refine at_v (ov_move rfl rfl) rfl rfl rfl ?_
          refine at_v ((ov_int rfl rfl rfl rfl).eq (congrArg (Value.int .i64) (inK_i64 (by omega) (by omega)))) rfl rfl rfl ?_
          refine at_v (ov_assign rfl rfl) rfl rfl rfl ?_
          refine at_nil ?_
          refine at_normal ?_
          refine at_roundF (k + 1, A0, c0) hlt (by simp only; omega) ⟨rfl, look_eq rfl (by simp [hs]), look_eq rfl (by simp [hs]), look_eq rfl (by simp [hs]), trivial⟩ rfl ?_
          simp only [setAt, hs]
          exact fun _ s => s.finEq (ks := [1, 1, 1]) (js := [0]) rfl rfl rfl
        · have hi7 : (!decide (x.1 = p.2.1)) = true := by simp [hc3]
          have hi8 : (!(Op.bytesLess x.1 p.2.1 || decide (x.1 = p.2.1))) = true := by simp [show Op.bytesLess x.1 p.2.1 = false from hc, hc3]
          have hst : rwStep p x ⟨out, n, false⟩ = ⟨out ++ [(p.2.1, p.2.2)] ++ [x], n, true⟩ := by
            unfold rwStep
            simp [h3, hc2, hc3]
          rw [hst] at hs
          refine at_seq_k (fun K6 hK6 => ?_)
          refine at_seq_k (fun K7 hK7 => ?_)
          refine at_region ?_
          refine at_v (ov_move rfl rfl) rfl rfl rfl ?_
          refine at_v (ov_move rfl rfl) rfl rfl rfl ?_
          refine at_v (ov_len_slice rfl Tryd.underlying29 rfl) rfl rfl rfl ?_
          refine at_v (ov_int rfl rfl rfl rfl) rfl rfl rfl ?_
          refine at_nil ?_
          refine at_normal ?_
          refine hK7 _ _ _ ?_
          refine at_cond_true (congrArg (fun b => some (Value.bool b)) (show _ = true from decide_eq_true (by omega))) ?_
          refine at_skip ?_
          refine at_normal ?_
          refine hK6 _ _ _ ?_
          refine at_seq_k (fun K8 hK8 => ?_)
          refine at_block ?_
          refine at_seq_k (fun K9 hK9 => ?_)
          refine at_seq_k (fun K10 hK10 => ?_)
          refine at_draw _ [] 1000 [(2, 0), (1, 1), (2, 2), (2, 3), (2, 4), (2, 5), (2, 6), (2, 7), (2, 8), (2, 9), (1, 10), (1, 11), (1, 12), (2, 13), (1, 14), (2, 15), (2, 16)] (by kernel_rfl) (by kernel_rfl) (fun _ s => (s.pulls (ks := [0, 0, 0]) rfl).left) ?_
          refine aq_p (ov_fieldAddr (k := 0) (r := 0) rfl rfl rfl rfl) rfl rfl rfl ?_
          refine aq_v (ov_load rfl rfl rfl (fun _ s => s.ld (k := 1) rfl rfl)) rfl rfl rfl ?_
          refine aq_p (ov_int rfl rfl rfl rfl) rfl rfl rfl ?_
          refine aq_p (ov_move rfl rfl) rfl rfl rfl ?_
          refine at_reval 20 (.bool true) rfl (congrArg Value.bool (decide_eq_true (by omega))) ?_
          refine aq_wanted (j := 3) rfl ?_
          refine aq_p (ov_move rfl rfl) rfl rfl rfl ?_
          refine aq_wanted (j := 3) rfl ?_
          refine aq_p (ov_not rfl rfl) rfl rfl rfl ?_
          refine aq_p (ov_pick_t rfl rfl rfl) rfl rfl rfl ?_
          refine aq_p (ov_move rfl rfl) rfl rfl rfl ?_
          refine aq_wanted (j := 7) rfl ?_
          refine aq_p (ov_move rfl rfl) rfl rfl rfl ?_
          refine aq_wanted (j := 7) rfl ?_
          refine aq_p (ov_move rfl rfl) rfl rfl rfl ?_
          refine aq_wanted (j := 7) rfl ?_
          refine aq_v (ov_indexRd (fun _ s => s.rd (k := 2) rfl) rfl Tryd.underlying29 rfl rfl rfl hget) rfl rfl rfl ?_
          refine aq_wanted (j := 7) rfl ?_
          refine aq_v (ov_fieldRd0 (k := 0) (fun _ s => s.rd (k := 2) rfl) rfl rfl hget rfl) rfl rfl rfl ?_
          refine aq_wanted (j := 7) rfl ?_
          refine aq_v (ov_loadRd0 (fun _ s => s.rd (k := 2) rfl) rfl rfl rfl hget rfl) rfl rfl rfl ?_
          refine aq_wanted (j := 7) rfl ?_
          refine aq_p (ov_fieldAddr (k := 1) (r := 1) rfl rfl rfl rfl) rfl rfl rfl ?_
          refine aq_wanted (j := 7) rfl ?_
          refine aq_v (ov_load rfl rfl rfl (fun _ s => s.ld (k := 1) rfl rfl)) rfl rfl rfl ?_
          refine aq_wanted (j := 7) rfl ?_
          refine aq_p (ov_cmpL rfl rfl rfl rfl) rfl rfl rfl ?_
          refine aq_p (ov_pick_t rfl rfl rfl) rfl rfl rfl ?_
          refine aq_nil ?_
          refine at_normal ?_
          refine hK10 _ _ _ ?_
          refine at_cond_true (congrArg (fun b => some (Value.bool b)) (show _ = true from by first | assumption | (rw [Bool.not_eq_true']; exact decide_eq_false (by omega)))) ?_
          refine at_seq_k (fun K11 hK11 => ?_)
          refine at_region ?_
          refine at_v (ov_move rfl rfl) rfl rfl rfl ?_
          refine at_v (ov_fieldAddr (k := 1) (r := 1) rfl rfl rfl rfl) rfl rfl rfl ?_
          refine at_v (ov_load rfl rfl rfl (fun _ s => s.ld (k := 1) rfl rfl)) rfl rfl rfl ?_
          refine at_v (ov_fieldAddr (k := 2) (r := 2) rfl rfl rfl rfl) rfl rfl rfl ?_
          refine at_v (ov_load rfl rfl rfl (fun _ s => s.ld (k := 1) rfl rfl)) rfl rfl rfl ?_
          refine at_v (ov_build (cs := [_, _]) rfl rfl rfl rfl) rfl rfl rfl ?_
          refine at_t (ot_buildSlice (cs := [_, _]) rfl Tryd.underlying29 rfl rfl rfl rfl rfl rfl) rfl rfl rfl ?_
          rintro _ _ ⟨g2, rfl, rfl⟩
          refine at_t (ot_append (k := 1) (size := 2) (bytes := 32) (ys := [(p.2.1, p.2.2)]) (fun _ s => s.rdPt (k := 0) rfl rfl (by simp [pE])) rfl Tryd.underlying29 (ti := Tryd.t46) rfl rfl rfl rfl rfl (by decide) rfl rfl rfl (by simp [pE, Value.oneCell']) (by simp; omega) (by decide)) rfl rfl rfl ?_
          rintro _ _ ⟨A0, c0, rfl, rfl⟩
          simp only [setAt]
          refine at_v (ov_assign rfl rfl) rfl rfl rfl ?_
          refine at_nil ?_
          refine at_normal ?_
          refine hK11 _ _ _ ?_
          refine at_region ?_
          refine at_v (ov_assign rfl rfl) rfl rfl rfl ?_
          refine at_nil ?_
          refine at_normal ?_
          refine hK9 _ _ _ ?_
          refine at_seq_k (fun K12 hK12 => ?_)
          refine at_seq_k (fun K13 hK13 => ?_)
          refine at_draw _ [] 1000 [(2, 0), (2, 1), (1, 2), (1, 3), (1, 4), (2, 5), (1, 6), (2, 7), (2, 8), (2, 9), (1, 10), (2, 11), (2, 12), (2, 13), (2, 14), (1, 15), (2, 16), (2, 17)] (by kernel_rfl) (by kernel_rfl) (fun _ s => (s.pulls (ks := [1, 1, 1]) rfl).left) ?_
          refine aq_p (ov_move rfl rfl) rfl rfl rfl ?_
          refine aq_p (ov_move rfl rfl) rfl rfl rfl ?_
          refine aq_v (ov_indexRd (fun _ s => s.rd (k := 2) rfl) rfl Tryd.underlying29 rfl rfl rfl hget) rfl rfl rfl ?_
          refine aq_v (ov_fieldRd0 (k := 0) (fun _ s => s.rd (k := 2) rfl) rfl rfl hget rfl) rfl rfl rfl ?_
          refine aq_v (ov_loadRd0 (fun _ s => s.rd (k := 2) rfl) rfl rfl rfl hget rfl) rfl rfl rfl ?_
          refine aq_p (ov_fieldAddr (k := 1) (r := 1) rfl rfl rfl rfl) rfl rfl rfl ?_
          refine aq_v (ov_load rfl rfl rfl (fun _ s => s.ld (k := 1) rfl rfl)) rfl rfl rfl ?_
          refine aq_p (ov_strL rfl rfl rfl rfl) rfl rfl rfl ?_
          refine aq_p (ov_move rfl rfl) rfl rfl rfl ?_
          refine at_reval 50 (.bool true) rfl (congrArg Value.bool (by first | assumption | (rw [Bool.not_eq_true']; exact decide_eq_false (by omega)))) ?_
          refine aq_unwanted (j := 8) rfl rfl rfl rfl rfl ?_
          refine aq_unwanted (j := 8) rfl rfl rfl rfl rfl ?_
          refine aq_unwanted (j := 8) rfl rfl rfl rfl rfl ?_
          refine aq_p (ov_pick_t rfl rfl rfl) rfl rfl rfl ?_
          refine aq_p (ov_move rfl rfl) rfl rfl rfl ?_
          refine aq_unwanted (j := 13) rfl rfl rfl rfl rfl ?_
          refine aq_unwanted (j := 13) rfl rfl rfl rfl rfl ?_
          refine aq_unwanted (j := 13) rfl rfl rfl rfl rfl ?_
          refine aq_p (ov_pick_t rfl rfl rfl) rfl rfl rfl ?_
          refine aq_nil ?_
          refine at_normal ?_
          refine hK13 _ _ _ ?_
          refine at_cond_true rfl ?_
          refine at_seq_k (fun K14 hK14 => ?_)
          refine at_region ?_
          refine at_v (ov_move rfl rfl) rfl rfl rfl ?_
          refine at_v (ov_move rfl rfl) rfl rfl rfl ?_
          refine at_v (ov_move rfl rfl) rfl rfl rfl ?_
          refine at_v (ov_indexRd (fun _ s => s.rd (k := 3) rfl) rfl Tryd.underlying29 rfl rfl rfl hget) rfl rfl rfl ?_
          refine at_v (ov_loadRdS (vs := [_, _]) (fun _ s => s.rd (k := 3) rfl) rfl rfl rfl hget rfl rfl) rfl rfl rfl ?_
          refine at_t (ot_buildSlice (cs := [_, _]) rfl Tryd.underlying29 rfl rfl rfl rfl rfl rfl) rfl rfl rfl ?_
          rintro _ _ ⟨g3, rfl, rfl⟩
          refine at_t (ot_append (k := 2) (size := 2) (bytes := 32) (ys := [x]) (fun _ s => s.rdPt (k := 0) rfl rfl (by simp [pE])) rfl Tryd.underlying29 (ti := Tryd.t46) rfl rfl rfl rfl rfl (by decide) rfl rfl rfl (by simp [pE, Value.oneCell']) (by simp; omega) (by decide)) rfl rfl rfl ?_
          rintro _ _ ⟨A1, c1, rfl, rfl⟩
          simp only [setAt]
          refine at_v (ov_assign rfl rfl) rfl rfl rfl ?_
          refine at_nil ?_
          refine at_normal ?_
          refine hK14 _ _ _ ?_
          refine at_exit ?_
          refine at_then_exit ?_
          refine at_exit_eq ?_
          refine at_normal ?_
          refine hK8 _ _ _ ?_
          refine at_region ?_
          refine at_v (ov_move rfl rfl) rfl rfl rfl ?_
          refine at_v ((ov_int rfl rfl rfl rfl).eq (congrArg (Value.int .i64) (inK_i64 (by omega) (by omega)))) rfl rfl rfl ?_
          refine at_v (ov_assign rfl rfl) rfl rfl rfl ?_
          refine at_nil ?_
          refine at_normal ?_
          refine at_roundF (k + 1, A1, c1) hlt (by simp only; omega) ⟨rfl, look_eq rfl (by simp [hs]), look_eq rfl (by simp [hs]), look_eq rfl (by simp [hs]), trivial⟩ rfl ?_
          simp only [setAt, hs]
          exact fun _ s => s.finEq (ks := [2, 2, 2]) (js := [0, 0]) rfl rfl rfl
    · have hi3 : decide (p.1 = 3) = false := decide_eq_false h3
      by_cases hx : x.1 = p.2.1
      · have hi7 : (!decide (x.1 = p.2.1)) = false := by simp [hx]
        by_cases hl3 : p.1 < 3
        · have hi4 : decide (p.1 < 3) = true := decide_eq_true hl3
          have hst : rwStep p x ⟨out, n, dn⟩ = ⟨out ++ [x], n, dn⟩ := by
            unfold rwStep
            simp [h3, hx, hl3]
          rw [hst] at hs
          refine at_seq_k (fun K6 hK6 => ?_)
          refine at_seq_k (fun K7 hK7 => ?_)
          refine at_region ?_
          refine at_v (ov_move rfl rfl) rfl rfl rfl ?_
          refine at_v (ov_move rfl rfl) rfl rfl rfl ?_
          refine at_v (ov_len_slice rfl Tryd.underlying29 rfl) rfl rfl rfl ?_
          refine at_v (ov_int rfl rfl rfl rfl) rfl rfl rfl ?_
          refine at_nil ?_
          refine at_normal ?_
          refine hK7 _ _ _ ?_
          refine at_cond_true (congrArg (fun b => some (Value.bool b)) (show _ = true from decide_eq_true (by omega))) ?_
          refine at_skip ?_
          refine at_normal ?_
          refine hK6 _ _ _ ?_
          refine at_seq_k (fun K8 hK8 => ?_)
          refine at_block ?_
          refine at_seq_k (fun K9 hK9 => ?_)
          refine at_seq_k (fun K10 hK10 => ?_)
          refine at_draw _ [] 1000 [(2, 0), (1, 1), (2, 2), (2, 3), (2, 4), (2, 5), (2, 6), (2, 7), (2, 8), (2, 9), (1, 10), (2, 11), (1, 12), (2, 13), (1, 14), (2, 15), (2, 16)] (by kernel_rfl) (by kernel_rfl) (fun _ s => (s.pulls (ks := [1]) rfl).left) ?_
          refine aq_p (ov_fieldAddr (k := 0) (r := 0) rfl rfl rfl rfl) rfl rfl rfl ?_
          refine aq_v (ov_load rfl rfl rfl (fun _ s => s.ld (k := 0) rfl rfl)) rfl rfl rfl ?_
          refine aq_p (ov_int rfl rfl rfl rfl) rfl rfl rfl ?_
          refine aq_p (ov_move rfl rfl) rfl rfl rfl ?_
          refine at_reval 20 (.bool false) rfl (congrArg Value.bool (decide_eq_false (by omega))) ?_
          refine aq_unwanted (j := 3) rfl rfl rfl rfl rfl ?_
          refine aq_unwanted (j := 3) rfl rfl rfl rfl rfl ?_
          refine aq_p (ov_pick_f rfl rfl rfl) rfl rfl rfl ?_
          refine aq_p (ov_move rfl rfl) rfl rfl rfl ?_
          refine aq_unwanted (j := 7) rfl rfl rfl rfl rfl ?_
          refine aq_unwanted (j := 7) rfl rfl rfl rfl rfl ?_
          refine aq_unwanted (j := 7) rfl rfl rfl rfl rfl ?_
          refine aq_unwanted (j := 7) rfl rfl rfl rfl rfl ?_
          refine aq_unwanted (j := 7) rfl rfl rfl rfl rfl ?_
          refine aq_unwanted (j := 7) rfl rfl rfl rfl rfl ?_
          refine aq_unwanted (j := 7) rfl rfl rfl rfl rfl ?_
          refine aq_unwanted (j := 7) rfl rfl rfl rfl rfl ?_
          refine aq_p (ov_pick_f rfl rfl rfl) rfl rfl rfl ?_
          refine aq_nil ?_
          refine at_normal ?_
          refine hK10 _ _ _ ?_
          refine at_cond_false rfl ?_
          refine at_skip ?_
          refine at_normal ?_
          refine hK9 _ _ _ ?_
          refine at_seq_k (fun K11 hK11 => ?_)
          refine at_seq_k (fun K12 hK12 => ?_)
          refine at_draw _ [] 1000 [(2, 0), (2, 1), (1, 2), (1, 3), (1, 4), (2, 5), (1, 6), (2, 7), (2, 8), (2, 9), (1, 10), (2, 11), (2, 12), (2, 13), (2, 14), (1, 15), (2, 16), (2, 17)] (by kernel_rfl) (by kernel_rfl) (fun _ s => (s.pulls (ks := [0, 0, 0]) rfl).left) ?_
          refine aq_p (ov_move rfl rfl) rfl rfl rfl ?_
          refine aq_p (ov_move rfl rfl) rfl rfl rfl ?_
          refine aq_v (ov_indexRd (fun _ s => s.rd (k := 2) rfl) rfl Tryd.underlying29 rfl rfl rfl hget) rfl rfl rfl ?_
          refine aq_v (ov_fieldRd0 (k := 0) (fun _ s => s.rd (k := 2) rfl) rfl rfl hget rfl) rfl rfl rfl ?_
          refine aq_v (ov_loadRd0 (fun _ s => s.rd (k := 2) rfl) rfl rfl rfl hget rfl) rfl rfl rfl ?_
          refine aq_p (ov_fieldAddr (k := 1) (r := 1) rfl rfl rfl rfl) rfl rfl rfl ?_
          refine aq_v (ov_load rfl rfl rfl (fun _ s => s.ld (k := 1) rfl rfl)) rfl rfl rfl ?_
          refine aq_p (ov_strL rfl rfl rfl rfl) rfl rfl rfl ?_
          refine aq_p (ov_move rfl rfl) rfl rfl rfl ?_
          refine at_reval 50 (.bool false) rfl (congrArg Value.bool (by first | assumption | (rw [Bool.not_eq_false']; exact decide_eq_true (by omega)))) ?_
          refine aq_wanted (j := 8) rfl ?_
          refine aq_p (ov_fieldAddr (k := 0) (r := 0) rfl rfl rfl rfl) rfl rfl rfl ?_
          refine aq_wanted (j := 8) rfl ?_
          refine aq_v (ov_load rfl rfl rfl (fun _ s => s.ld (k := 1) rfl rfl)) rfl rfl rfl ?_
          refine aq_wanted (j := 8) rfl ?_
          refine aq_p (ov_int rfl rfl rfl rfl) rfl rfl rfl ?_
          refine aq_p (ov_pick_f rfl rfl rfl) rfl rfl rfl ?_
          refine aq_p (ov_move rfl rfl) rfl rfl rfl ?_
          refine at_reval 55 (.bool true) rfl (congrArg Value.bool (decide_eq_true (by omega))) ?_
          refine aq_unwanted (j := 13) rfl rfl rfl rfl rfl ?_
          refine aq_unwanted (j := 13) rfl rfl rfl rfl rfl ?_
          refine aq_unwanted (j := 13) rfl rfl rfl rfl rfl ?_
          refine aq_p (ov_pick_t rfl rfl rfl) rfl rfl rfl ?_
          refine aq_nil ?_
          refine at_normal ?_
          refine hK12 _ _ _ ?_
          refine at_cond_true rfl ?_
          refine at_seq_k (fun K13 hK13 => ?_)
          refine at_region ?_
          refine at_v (ov_move rfl rfl) rfl rfl rfl ?_
          refine at_v (ov_move rfl rfl) rfl rfl rfl ?_
          refine at_v (ov_move rfl rfl) rfl rfl rfl ?_
          refine at_v (ov_indexRd (fun _ s => s.rd (k := 2) rfl) rfl Tryd.underlying29 rfl rfl rfl hget) rfl rfl rfl ?_
          refine at_v (ov_loadRdS (vs := [_, _]) (fun _ s => s.rd (k := 2) rfl) rfl rfl rfl hget rfl rfl) rfl rfl rfl ?_
          refine at_t (ot_buildSlice (cs := [_, _]) rfl Tryd.underlying29 rfl rfl rfl rfl rfl rfl) rfl rfl rfl ?_
          rintro _ _ ⟨g2, rfl, rfl⟩
          refine at_t (ot_append (k := 1) (size := 2) (bytes := 32) (ys := [x]) (fun _ s => s.rdPt (k := 0) rfl rfl (by simp [pE])) rfl Tryd.underlying29 (ti := Tryd.t46) rfl rfl rfl rfl rfl (by decide) rfl rfl rfl (by simp [pE, Value.oneCell']) (by simp; omega) (by decide)) rfl rfl rfl ?_
          rintro _ _ ⟨A0, c0, rfl, rfl⟩
          simp only [setAt]
          refine at_v (ov_assign rfl rfl) rfl rfl rfl ?_
          refine at_nil ?_
          refine at_normal ?_
          refine hK13 _ _ _ ?_
          refine at_exit ?_
          refine at_then_exit ?_
          refine at_exit_eq ?_
          refine at_normal ?_
          refine hK8 _ _ _ ?_
          refine at_region ?_
          refine at_v (ov_move rfl rfl) rfl rfl rfl ?_
          refine at_v ((ov_int rfl rfl rfl rfl).eq (congrArg (Value.int .i64) (inK_i64 (by omega) (by omega)))) rfl rfl rfl ?_
          refine at_v (ov_assign rfl rfl) rfl rfl rfl ?_
          refine at_nil ?_
          refine at_normal ?_
          refine at_roundF (k + 1, A0, c0) hlt (by simp only; omega) ⟨rfl, look_eq rfl (by simp [hs]), look_eq rfl (by simp [hs]), look_eq rfl (by simp [hs]), trivial⟩ rfl ?_
          simp only [setAt, hs]
          exact fun _ s => s.finEq (ks := [1, 1, 1]) (js := [0]) rfl rfl rfl
        · have hi4 : decide (p.1 < 3) = false := decide_eq_false hl3
          by_cases hg5 : p.1 > 5
          · have hi5 : decide (p.1 > 5) = true := decide_eq_true hg5
            have hst : rwStep p x ⟨out, n, dn⟩ = ⟨out ++ [x], n, dn⟩ := by
              unfold rwStep
              simp [h3, hx, hg5]
            rw [hst] at hs
            refine at_seq_k (fun K6 hK6 => ?_)
            refine at_seq_k (fun K7 hK7 => ?_)
            refine at_region ?_
            refine at_v (ov_move rfl rfl) rfl rfl rfl ?_
            refine at_v (ov_move rfl rfl) rfl rfl rfl ?_
            refine at_v (ov_len_slice rfl Tryd.underlying29 rfl) rfl rfl rfl ?_
            refine at_v (ov_int rfl rfl rfl rfl) rfl rfl rfl ?_
            refine at_nil ?_
            refine at_normal ?_
            refine hK7 _ _ _ ?_
            refine at_cond_true (congrArg (fun b => some (Value.bool b)) (show _ = true from decide_eq_true (by omega))) ?_
            refine at_skip ?_
            refine at_normal ?_
            refine hK6 _ _ _ ?_
            refine at_seq_k (fun K8 hK8 => ?_)
            refine at_block ?_
            refine at_seq_k (fun K9 hK9 => ?_)
            refine at_seq_k (fun K10 hK10 => ?_)
            refine at_draw _ [] 1000 [(2, 0), (1, 1), (2, 2), (2, 3), (2, 4), (2, 5), (2, 6), (2, 7), (2, 8), (2, 9), (1, 10), (2, 11), (1, 12), (2, 13), (1, 14), (2, 15), (2, 16)] (by kernel_rfl) (by kernel_rfl) (fun _ s => (s.pulls (ks := [1]) rfl).left) ?_
            refine aq_p (ov_fieldAddr (k := 0) (r := 0) rfl rfl rfl rfl) rfl rfl rfl ?_
            refine aq_v (ov_load rfl rfl rfl (fun _ s => s.ld (k := 0) rfl rfl)) rfl rfl rfl ?_
            refine aq_p (ov_int rfl rfl rfl rfl) rfl rfl rfl ?_
            refine aq_p (ov_move rfl rfl) rfl rfl rfl ?_
            refine at_reval 20 (.bool false) rfl (congrArg Value.bool (decide_eq_false (by omega))) ?_
            refine aq_unwanted (j := 3) rfl rfl rfl rfl rfl ?_
            refine aq_unwanted (j := 3) rfl rfl rfl rfl rfl ?_
            refine aq_p (ov_pick_f rfl rfl rfl) rfl rfl rfl ?_
            refine aq_p (ov_move rfl rfl) rfl rfl rfl ?_
            refine aq_unwanted (j := 7) rfl rfl rfl rfl rfl ?_
            refine aq_unwanted (j := 7) rfl rfl rfl rfl rfl ?_
            refine aq_unwanted (j := 7) rfl rfl rfl rfl rfl ?_
            refine aq_unwanted (j := 7) rfl rfl rfl rfl rfl ?_
            refine aq_unwanted (j := 7) rfl rfl rfl rfl rfl ?_
            refine aq_unwanted (j := 7) rfl rfl rfl rfl rfl ?_
            refine aq_unwanted (j := 7) rfl rfl rfl rfl rfl ?_
            refine aq_unwanted (j := 7) rfl rfl rfl rfl rfl ?_
            refine aq_p (ov_pick_f rfl rfl rfl) rfl rfl rfl ?_
            refine aq_nil ?_
            refine at_normal ?_
            refine hK10 _ _ _ ?_
            refine at_cond_false rfl ?_
            refine at_skip ?_
            refine at_normal ?_
            refine hK9 _ _ _ ?_
            refine at_seq_k (fun K11 hK11 => ?_)
            refine at_seq_k (fun K12 hK12 => ?_)
            refine at_draw _ [] 1000 [(2, 0), (2, 1), (1, 2), (1, 3), (1, 4), (2, 5), (1, 6), (2, 7), (2, 8), (2, 9), (1, 10), (2, 11), (2, 12), (2, 13), (2, 14), (1, 15), (2, 16), (2, 17)] (by kernel_rfl) (by kernel_rfl) (fun _ s => (s.pulls (ks := [0, 0, 0]) rfl).left) ?_
            refine aq_p (ov_move rfl rfl) rfl rfl rfl ?_
            refine aq_p (ov_move rfl rfl) rfl rfl rfl ?_
            refine aq_v (ov_indexRd (fun _ s => s.rd (k := 2) rfl) rfl Tryd.underlying29 rfl rfl rfl hget) rfl rfl rfl ?_
            refine aq_v (ov_fieldRd0 (k := 0) (fun _ s => s.rd (k := 2) rfl) rfl rfl hget rfl) rfl rfl rfl ?_
            refine aq_v (ov_loadRd0 (fun _ s => s.rd (k := 2) rfl) rfl rfl rfl hget rfl) rfl rfl rfl ?_
            refine aq_p (ov_fieldAddr (k := 1) (r := 1) rfl rfl rfl rfl) rfl rfl rfl ?_
            refine aq_v (ov_load rfl rfl rfl (fun _ s => s.ld (k := 1) rfl rfl)) rfl rfl rfl ?_
            refine aq_p (ov_strL rfl rfl rfl rfl) rfl rfl rfl ?_
            refine aq_p (ov_move rfl rfl) rfl rfl rfl ?_
            refine at_reval 50 (.bool false) rfl (congrArg Value.bool (by first | assumption | (rw [Bool.not_eq_false']; exact decide_eq_true (by omega)))) ?_
            refine aq_wanted (j := 8) rfl ?_
            refine aq_p (ov_fieldAddr (k := 0) (r := 0) rfl rfl rfl rfl) rfl rfl rfl ?_
            refine aq_wanted (j := 8) rfl ?_
            refine aq_v (ov_load rfl rfl rfl (fun _ s => s.ld (k := 1) rfl rfl)) rfl rfl rfl ?_
            refine aq_wanted (j := 8) rfl ?_
            refine aq_p (ov_int rfl rfl rfl rfl) rfl rfl rfl ?_
            refine aq_p (ov_pick_f rfl rfl rfl) rfl rfl rfl ?_
            refine aq_p (ov_move rfl rfl) rfl rfl rfl ?_
            refine at_reval 55 (.bool false) rfl (congrArg Value.bool (decide_eq_false (by omega))) ?_
            refine aq_wanted (j := 13) rfl ?_
            refine aq_p (ov_fieldAddr (k := 0) (r := 0) rfl rfl rfl rfl) rfl rfl rfl ?_
            refine aq_wanted (j := 13) rfl ?_
            refine aq_v (ov_load rfl rfl rfl (fun _ s => s.ld (k := 1) rfl rfl)) rfl rfl rfl ?_
            refine aq_wanted (j := 13) rfl ?_
            refine aq_p (ov_int rfl rfl rfl rfl) rfl rfl rfl ?_
            refine aq_p (ov_pick_f rfl rfl rfl) rfl rfl rfl ?_
            refine aq_nil ?_
            refine at_normal ?_
            refine hK12 _ _ _ ?_
            refine at_cond_true (congrArg (fun b => some (Value.bool b)) (show _ = true from decide_eq_true (by omega))) ?_
            refine at_seq_k (fun K13 hK13 => ?_)
            refine at_region ?_
            refine at_v (ov_move rfl rfl) rfl rfl rfl ?_
            refine at_v (ov_move rfl rfl) rfl rfl rfl ?_
            refine at_v (ov_move rfl rfl) rfl rfl rfl ?_
            refine at_v (ov_indexRd (fun _ s => s.rd (k := 2) rfl) rfl Tryd.underlying29 rfl rfl rfl hget) rfl rfl rfl ?_
            refine at_v (ov_loadRdS (vs := [_, _]) (fun _ s => s.rd (k := 2) rfl) rfl rfl rfl hget rfl rfl) rfl rfl rfl ?_
            refine at_t (ot_buildSlice (cs := [_, _]) rfl Tryd.underlying29 rfl rfl rfl rfl rfl rfl) rfl rfl rfl ?_
            rintro _ _ ⟨g2, rfl, rfl⟩
            refine at_t (ot_append (k := 1) (size := 2) (bytes := 32) (ys := [x]) (fun _ s => s.rdPt (k := 0) rfl rfl (by simp [pE])) rfl Tryd.underlying29 (ti := Tryd.t46) rfl rfl rfl rfl rfl (by decide) rfl rfl rfl (by simp [pE, Value.oneCell']) (by simp; omega) (by decide)) rfl rfl rfl ?_
            rintro _ _ ⟨A0, c0, rfl, rfl⟩
            simp only [setAt]
            refine at_v (ov_assign rfl rfl) rfl rfl rfl ?_
            refine at_nil ?_
            refine at_normal ?_
            refine hK13 _ _ _ ?_
            refine at_exit ?_
            refine at_then_exit ?_
            refine at_exit_eq ?_
            refine at_normal ?_
            refine hK8 _ _ _ ?_
            refine at_region ?_
            refine at_v (ov_move rfl rfl) rfl rfl rfl ?_
            refine at_v ((ov_int rfl rfl rfl rfl).eq (congrArg (Value.int .i64) (inK_i64 (by omega) (by omega)))) rfl rfl rfl ?_
            refine at_v (ov_assign rfl rfl) rfl rfl rfl ?_
            refine at_nil ?_
            refine at_normal ?_
            refine at_roundF (k + 1, A0, c0) hlt (by simp only; omega) ⟨rfl, look_eq rfl (by simp [hs]), look_eq rfl (by simp [hs]), look_eq rfl (by simp [hs]), trivial⟩ rfl ?_
            simp only [setAt, hs]
            exact fun _ s => s.finEq (ks := [1, 1, 1]) (js := [0]) rfl rfl rfl
          · have hi5 : decide (p.1 > 5) = false := decide_eq_false hg5
            by_cases h5 : p.1 = 5
            · have hi6 : (!decide (p.1 = 5)) = false := by simp [h5]
              have hst : rwStep p x ⟨out, n, dn⟩ = ⟨out, 1, true⟩ := by
                unfold rwStep
                simp [h5, hx]
              rw [hst] at hs
              refine at_seq_k (fun K6 hK6 => ?_)
              refine at_seq_k (fun K7 hK7 => ?_)
              refine at_region ?_
              refine at_v (ov_move rfl rfl) rfl rfl rfl ?_
              refine at_v (ov_move rfl rfl) rfl rfl rfl ?_
              refine at_v (ov_len_slice rfl Tryd.underlying29 rfl) rfl rfl rfl ?_
              refine at_v (ov_int rfl rfl rfl rfl) rfl rfl rfl ?_
              refine at_nil ?_
              refine at_normal ?_
              refine hK7 _ _ _ ?_
              refine at_cond_true (congrArg (fun b => some (Value.bool b)) (show _ = true from decide_eq_true (by omega))) ?_
              refine at_skip ?_
              refine at_normal ?_
              refine hK6 _ _ _ ?_
              refine at_seq_k (fun K8 hK8 => ?_)
              refine at_block ?_
              refine at_seq_k (fun K9 hK9 => ?_)
              refine at_seq_k (fun K10 hK10 => ?_)
              refine at_draw _ [] 1000 [(2, 0), (1, 1), (2, 2), (2, 3), (2, 4), (2, 5), (2, 6), (2, 7), (2, 8), (2, 9), (1, 10), (2, 11), (1, 12), (2, 13), (1, 14), (2, 15), (2, 16)] (by kernel_rfl) (by kernel_rfl) (fun _ s => (s.pulls (ks := [1]) rfl).left) ?_
              refine aq_p (ov_fieldAddr (k := 0) (r := 0) rfl rfl rfl rfl) rfl rfl rfl ?_
              refine aq_v (ov_load rfl rfl rfl (fun _ s => s.ld (k := 0) rfl rfl)) rfl rfl rfl ?_
              refine aq_p (ov_int rfl rfl rfl rfl) rfl rfl rfl ?_
              refine aq_p (ov_move rfl rfl) rfl rfl rfl ?_
              refine at_reval 20 (.bool false) rfl (congrArg Value.bool (decide_eq_false (by omega))) ?_
              refine aq_unwanted (j := 3) rfl rfl rfl rfl rfl ?_
              refine aq_unwanted (j := 3) rfl rfl rfl rfl rfl ?_
              refine aq_p (ov_pick_f rfl rfl rfl) rfl rfl rfl ?_
              refine aq_p (ov_move rfl rfl) rfl rfl rfl ?_
              refine aq_unwanted (j := 7) rfl rfl rfl rfl rfl ?_
              refine aq_unwanted (j := 7) rfl rfl rfl rfl rfl ?_
              refine aq_unwanted (j := 7) rfl rfl rfl rfl rfl ?_
              refine aq_unwanted (j := 7) rfl rfl rfl rfl rfl ?_
              refine aq_unwanted (j := 7) rfl rfl rfl rfl rfl ?_
              refine aq_unwanted (j := 7) rfl rfl rfl rfl rfl ?_
              refine aq_unwanted (j := 7) rfl rfl rfl rfl rfl ?_
              refine aq_unwanted (j := 7) rfl rfl rfl rfl rfl ?_
              refine aq_p (ov_pick_f rfl rfl rfl) rfl rfl rfl ?_
              refine aq_nil ?_
              refine at_normal ?_
              refine hK10 _ _ _ ?_
              refine at_cond_false rfl ?_
              refine at_skip ?_
              refine at_normal ?_
              refine hK9 _ _ _ ?_
              refine at_seq_k (fun K11 hK11 => ?_)
              refine at_seq_k (fun K12 hK12 => ?_)
              refine at_draw _ [] 1000 [(2, 0), (2, 1), (1, 2), (1, 3), (1, 4), (2, 5), (1, 6), (2, 7), (2, 8), (2, 9), (1, 10), (2, 11), (2, 12), (2, 13), (2, 14), (1, 15), (2, 16), (2, 17)] (by kernel_rfl) (by kernel_rfl) (fun _ s => (s.pulls (ks := [0, 0, 0]) rfl).left) ?_
              refine aq_p (ov_move rfl rfl) rfl rfl rfl ?_
              refine aq_p (ov_move rfl rfl) rfl rfl rfl ?_
              refine aq_v (ov_indexRd (fun _ s => s.rd (k := 2) rfl) rfl Tryd.underlying29 rfl rfl rfl hget) rfl rfl rfl ?_
              refine aq_v (ov_fieldRd0 (k := 0) (fun _ s => s.rd (k := 2) rfl) rfl rfl hget rfl) rfl rfl rfl ?_
              refine aq_v (ov_loadRd0 (fun _ s => s.rd (k := 2) rfl) rfl rfl rfl hget rfl) rfl rfl rfl ?_
              refine aq_p (ov_fieldAddr (k := 1) (r := 1) rfl rfl rfl rfl) rfl rfl rfl ?_
              refine aq_v (ov_load rfl rfl rfl (fun _ s => s.ld (k := 1) rfl rfl)) rfl rfl rfl ?_
              refine aq_p (ov_strL rfl rfl rfl rfl) rfl rfl rfl ?_
              refine aq_p (ov_move rfl rfl) rfl rfl rfl ?_
              refine at_reval 50 (.bool false) rfl (congrArg Value.bool (by first | assumption | (rw [Bool.not_eq_false']; exact decide_eq_true (by omega)))) ?_
              refine aq_wanted (j := 8) rfl ?_
              refine aq_p (ov_fieldAddr (k := 0) (r := 0) rfl rfl rfl rfl) rfl rfl rfl ?_
              refine aq_wanted (j := 8) rfl ?_
              refine aq_v (ov_load rfl rfl rfl (fun _ s => s.ld (k := 1) rfl rfl)) rfl rfl rfl ?_
              refine aq_wanted (j := 8) rfl ?_
              refine aq_p (ov_int rfl rfl rfl rfl) rfl rfl rfl ?_
              refine aq_p (ov_pick_f rfl rfl rfl) rfl rfl rfl ?_
              refine aq_p (ov_move rfl rfl) rfl rfl rfl ?_
              refine at_reval 55 (.bool false) rfl (congrArg Value.bool (decide_eq_false (by omega))) ?_
              refine aq_wanted (j := 13) rfl ?_
              refine aq_p (ov_fieldAddr (k := 0) (r := 0) rfl rfl rfl rfl) rfl rfl rfl ?_
              refine aq_wanted (j := 13) rfl ?_
              refine aq_v (ov_load rfl rfl rfl (fun _ s => s.ld (k := 1) rfl rfl)) rfl rfl rfl ?_
              refine aq_wanted (j := 13) rfl ?_
              refine aq_p (ov_int rfl rfl rfl rfl) rfl rfl rfl ?_
              refine aq_p (ov_pick_f rfl rfl rfl) rfl rfl rfl ?_
              refine aq_nil ?_
              refine at_normal ?_
              refine hK12 _ _ _ ?_
              refine at_cond_false (congrArg (fun b => some (Value.bool b)) (show _ = false from decide_eq_false (by omega))) ?_
              refine at_skip ?_
              refine at_normal ?_
              refine hK11 _ _ _ ?_
              refine at_seq_k (fun K13 hK13 => ?_)
              refine at_region ?_
              refine at_v (ov_assign rfl rfl) rfl rfl rfl ?_
              refine at_nil ?_
              refine at_normal ?_
              refine hK13 _ _ _ ?_
              refine at_seq_k (fun K14 hK14 => ?_)
              refine at_region ?_
              refine at_v (ov_assign rfl rfl) rfl rfl rfl ?_
              refine at_nil ?_
              refine at_normal ?_
              refine hK14 _ _ _ ?_
              refine at_seq_k (fun K15 hK15 => ?_)
              refine at_region ?_
              refine at_v (ov_fieldAddr (k := 0) (r := 0) rfl rfl rfl rfl) rfl rfl rfl ?_
              refine at_v (ov_load rfl rfl rfl (fun _ s => s.ld (k := 1) rfl rfl)) rfl rfl rfl ?_
              refine at_v (ov_int rfl rfl rfl rfl) rfl rfl rfl ?_
              refine at_nil ?_
              refine at_normal ?_
              refine hK15 _ _ _ ?_
              refine at_cond_false (congrArg (fun b => some (Value.bool b)) (show _ = false from by first | assumption | (rw [Bool.not_eq_false']; exact decide_eq_true (by omega)))) ?_
              refine at_skip ?_
              refine at_inb_normal ?_
              refine at_normal ?_
              refine hK8 _ _ _ ?_
              refine at_region ?_
              refine at_v (ov_move rfl rfl) rfl rfl rfl ?_
              refine at_v ((ov_int rfl rfl rfl rfl).eq (congrArg (Value.int .i64) (inK_i64 (by omega) (by omega)))) rfl rfl rfl ?_
              refine at_v (ov_assign rfl rfl) rfl rfl rfl ?_
              refine at_nil ?_
              refine at_normal ?_
              refine at_roundF (k + 1, B, e) hlt (by simp only; omega) ⟨rfl, look_eq rfl (by simp [hs]), look_eq rfl (by simp [hs]), look_eq rfl (by simp [hs]), trivial⟩ rfl ?_
              simp only [setAt, hs]
              exact fun _ s => s.finEq (ks := [0, 0, 0]) (js := []) rfl rfl rfl
            · have hi6 : (!decide (p.1 = 5)) = true := by simp [h5]
              have hst : rwStep p x ⟨out, n, dn⟩ = ⟨out ++ [(p.2.1, p.2.2)], 1, true⟩ := by
                unfold rwStep
                simp [h3, h5, hx, hl3, hg5]
              rw [hst] at hs
              refine at_seq_k (fun K6 hK6 => ?_)
              refine at_seq_k (fun K7 hK7 => ?_)
              refine at_region ?_
              refine at_v (ov_move rfl rfl) rfl rfl rfl ?_
              refine at_v (ov_move rfl rfl) rfl rfl rfl ?_
              refine at_v (ov_len_slice rfl Tryd.underlying29 rfl) rfl rfl rfl ?_
              refine at_v (ov_int rfl rfl rfl rfl) rfl rfl rfl ?_
              refine at_nil ?_
              refine at_normal ?_
              refine hK7 _ _ _ ?_
              refine at_cond_true (congrArg (fun b => some (Value.bool b)) (show _ = true from decide_eq_true (by omega))) ?_
              refine at_skip ?_
              refine at_normal ?_
              refine hK6 _ _ _ ?_
              refine at_seq_k (fun K8 hK8 => ?_)
              refine at_block ?_
              refine at_seq_k (fun K9 hK9 => ?_)
              refine at_seq_k (fun K10 hK10 => ?_)
              refine at_draw _ [] 1000 [(2, 0), (1, 1), (2, 2), (2, 3), (2, 4), (2, 5), (2, 6), (2, 7), (2, 8), (2, 9), (1, 10), (2, 11), (1, 12), (2, 13), (1, 14), (2, 15), (2, 16)] (by kernel_rfl) (by kernel_rfl) (fun _ s => (s.pulls (ks := [1]) rfl).left) ?_
              refine aq_p (ov_fieldAddr (k := 0) (r := 0) rfl rfl rfl rfl) rfl rfl rfl ?_
              refine aq_v (ov_load rfl rfl rfl (fun _ s => s.ld (k := 0) rfl rfl)) rfl rfl rfl ?_
              refine aq_p (ov_int rfl rfl rfl rfl) rfl rfl rfl ?_
              refine aq_p (ov_move rfl rfl) rfl rfl rfl ?_
              refine at_reval 20 (.bool false) rfl (congrArg Value.bool (decide_eq_false (by omega))) ?_
              refine aq_unwanted (j := 3) rfl rfl rfl rfl rfl ?_
              refine aq_unwanted (j := 3) rfl rfl rfl rfl rfl ?_
              refine aq_p (ov_pick_f rfl rfl rfl) rfl rfl rfl ?_
              refine aq_p (ov_move rfl rfl) rfl rfl rfl ?_
              refine aq_unwanted (j := 7) rfl rfl rfl rfl rfl ?_
              refine aq_unwanted (j := 7) rfl rfl rfl rfl rfl ?_
              refine aq_unwanted (j := 7) rfl rfl rfl rfl rfl ?_
              refine aq_unwanted (j := 7) rfl rfl rfl rfl rfl ?_
              refine aq_unwanted (j := 7) rfl rfl rfl rfl rfl ?_
              refine aq_unwanted (j := 7) rfl rfl rfl rfl rfl ?_
              refine aq_unwanted (j := 7) rfl rfl rfl rfl rfl ?_
              refine aq_unwanted (j := 7) rfl rfl rfl rfl rfl ?_
              refine aq_p (ov_pick_f rfl rfl rfl) rfl rfl rfl ?_
              refine aq_nil ?_
              refine at_normal ?_
              refine hK10 _ _ _ ?_
              refine at_cond_false rfl ?_
              refine at_skip ?_
              refine at_normal ?_
              refine hK9 _ _ _ ?_
              refine at_seq_k (fun K11 hK11 => ?_)
              refine at_seq_k (fun K12 hK12 => ?_)
              refine at_draw _ [] 1000 [(2, 0), (2, 1), (1, 2), (1, 3), (1, 4), (2, 5), (1, 6), (2, 7), (2, 8), (2, 9), (1, 10), (2, 11), (2, 12), (2, 13), (2, 14), (1, 15), (2, 16), (2, 17)] (by kernel_rfl) (by kernel_rfl) (fun _ s => (s.pulls (ks := [0, 0, 0]) rfl).left) ?_
              refine aq_p (ov_move rfl rfl) rfl rfl rfl ?_
              refine aq_p (ov_move rfl rfl) rfl rfl rfl ?_
              refine aq_v (ov_indexRd (fun _ s => s.rd (k := 2) rfl) rfl Tryd.underlying29 rfl rfl rfl hget) rfl rfl rfl ?_
              refine aq_v (ov_fieldRd0 (k := 0) (fun _ s => s.rd (k := 2) rfl) rfl rfl hget rfl) rfl rfl rfl ?_
              refine aq_v (ov_loadRd0 (fun _ s => s.rd (k := 2) rfl) rfl rfl rfl hget rfl) rfl rfl rfl ?_
              refine aq_p (ov_fieldAddr (k := 1) (r := 1) rfl rfl rfl rfl) rfl rfl rfl ?_
              refine aq_v (ov_load rfl rfl rfl (fun _ s => s.ld (k := 1) rfl rfl)) rfl rfl rfl ?_
              refine aq_p (ov_strL rfl rfl rfl rfl) rfl rfl rfl ?_
              refine aq_p (ov_move rfl rfl) rfl rfl rfl ?_
              refine at_reval 50 (.bool false) rfl (congrArg Value.bool (by first | assumption | (rw [Bool.not_eq_false']; exact decide_eq_true (by omega)))) ?_
              refine aq_wanted (j := 8) rfl ?_
              refine aq_p (ov_fieldAddr (k := 0) (r := 0) rfl rfl rfl rfl) rfl rfl rfl ?_
              refine aq_wanted (j := 8) rfl ?_
              refine aq_v (ov_load rfl rfl rfl (fun _ s => s.ld (k := 1) rfl rfl)) rfl rfl rfl ?_
              refine aq_wanted (j := 8) rfl ?_
              refine aq_p (ov_int rfl rfl rfl rfl) rfl rfl rfl ?_
              refine aq_p (ov_pick_f rfl rfl rfl) rfl rfl rfl ?_
              refine aq_p (ov_move rfl rfl) rfl rfl rfl ?_
              refine at_reval 55 (.bool false) rfl (congrArg Value.bool (decide_eq_false (by omega))) ?_
              refine aq_wanted (j := 13) rfl ?_
              refine aq_p (ov_fieldAddr (k := 0) (r := 0) rfl rfl rfl rfl) rfl rfl rfl ?_
              refine aq_wanted (j := 13) rfl ?_
              refine aq_v (ov_load rfl rfl rfl (fun _ s => s.ld (k := 1) rfl rfl)) rfl rfl rfl ?_
              refine aq_wanted (j := 13) rfl ?_
              refine aq_p (ov_int rfl rfl rfl rfl) rfl rfl rfl ?_
              refine aq_p (ov_pick_f rfl rfl rfl) rfl rfl rfl ?_
              refine aq_nil ?_
              refine at_normal ?_
              refine hK12 _ _ _ ?_
              refine at_cond_false (congrArg (fun b => some (Value.bool b)) (show _ = false from decide_eq_false (by omega))) ?_
              refine at_skip ?_
              refine at_normal ?_
              refine hK11 _ _ _ ?_
              refine at_seq_k (fun K13 hK13 => ?_)
              refine at_region ?_
              refine at_v (ov_assign rfl rfl) rfl rfl rfl ?_
              refine at_nil ?_
              refine at_normal ?_
              refine hK13 _ _ _ ?_
              refine at_seq_k (fun K14 hK14 => ?_)
              refine at_region ?_
              refine at_v (ov_assign rfl rfl) rfl rfl rfl ?_
              refine at_nil ?_
              refine at_normal ?_
              refine hK14 _ _ _ ?_
              refine at_seq_k (fun K15 hK15 => ?_)
              refine at_region ?_
              refine at_v (ov_fieldAddr (k := 0) (r := 0) rfl rfl rfl rfl) rfl rfl rfl ?_
              refine at_v (ov_load rfl rfl rfl (fun _ s => s.ld (k := 1) rfl rfl)) rfl rfl rfl ?_
              refine at_v (ov_int rfl rfl rfl rfl) rfl rfl rfl ?_
              refine at_nil ?_
              refine at_normal ?_
              refine hK15 _ _ _ ?_
              refine at_cond_true (congrArg (fun b => some (Value.bool b)) (show _ = true from by first | assumption | (rw [Bool.not_eq_true']; exact decide_eq_false (by omega)))) ?_
              refine at_region ?_
              refine at_v (ov_move rfl rfl) rfl rfl rfl ?_
              refine at_v (ov_fieldAddr (k := 1) (r := 1) rfl rfl rfl rfl) rfl rfl rfl ?_
              refine at_v (ov_load rfl rfl rfl (fun _ s => s.ld (k := 1) rfl rfl)) rfl rfl rfl ?_
              refine at_v (ov_fieldAddr (k := 2) (r := 2) rfl rfl rfl rfl) rfl rfl rfl ?_
              refine at_v (ov_load rfl rfl rfl (fun _ s => s.ld (k := 1) rfl rfl)) rfl rfl rfl ?_
              refine at_v (ov_build (cs := [_, _]) rfl rfl rfl rfl) rfl rfl rfl ?_
              refine at_t (ot_buildSlice (cs := [_, _]) rfl Tryd.underlying29 rfl rfl rfl rfl rfl rfl) rfl rfl rfl ?_
              rintro _ _ ⟨g2, rfl, rfl⟩
              refine at_t (ot_append (k := 1) (size := 2) (bytes := 32) (ys := [(p.2.1, p.2.2)]) (fun _ s => s.rdPt (k := 0) rfl rfl (by simp [pE])) rfl Tryd.underlying29 (ti := Tryd.t46) rfl rfl rfl rfl rfl (by decide) rfl rfl rfl (by simp [pE, Value.oneCell']) (by simp; omega) (by decide)) rfl rfl rfl ?_
              rintro _ _ ⟨A0, c0, rfl, rfl⟩
              simp only [setAt]
              refine at_v (ov_assign rfl rfl) rfl rfl rfl ?_
              refine at_nil ?_
              refine at_inb_normal ?_
              refine at_normal ?_
              refine hK8 _ _ _ ?_
              refine at_region ?_
              refine at_v (ov_move rfl rfl) rfl rfl rfl ?_
              refine at_v ((ov_int rfl rfl rfl rfl).eq (congrArg (Value.int .i64) (inK_i64 (by omega) (by omega)))) rfl rfl rfl ?_
              refine at_v (ov_assign rfl rfl) rfl rfl rfl ?_
              refine at_nil ?_
              refine at_normal ?_
              refine at_roundF (k + 1, A0, c0) hlt (by simp only; omega) ⟨rfl, look_eq rfl (by simp [hs]), look_eq rfl (by simp [hs]), look_eq rfl (by simp [hs]), trivial⟩ rfl ?_
              simp only [setAt, hs]
              exact fun _ s => s.finEq (ks := [1, 1, 1]) (js := [0]) rfl rfl rfl
      · have hi7 : (!decide (x.1 = p.2.1)) = true := by simp [hx]
        have hst : rwStep p x ⟨out, n, dn⟩ = ⟨out ++ [x], n, dn⟩ := by
          unfold rwStep
          simp [h3, hx]
        rw [hst] at hs
        refine at_seq_k (fun K6 hK6 => ?_)
        refine at_seq_k (fun K7 hK7 => ?_)
        refine at_region ?_
        refine at_v (ov_move rfl rfl) rfl rfl rfl ?_
        refine at_v (ov_move rfl rfl) rfl rfl rfl ?_
        refine at_v (ov_len_slice rfl Tryd.underlying29 rfl) rfl rfl rfl ?_
        refine at_v (ov_int rfl rfl rfl rfl) rfl rfl rfl ?_
        refine at_nil ?_
        refine at_normal ?_
        refine hK7 _ _ _ ?_
        refine at_cond_true (congrArg (fun b => some (Value.bool b)) (show _ = true from decide_eq_true (by omega))) ?_
        refine at_skip ?_
        refine at_normal ?_
        refine hK6 _ _ _ ?_
        refine at_seq_k (fun K8 hK8 => ?_)
        refine at_block ?_
        refine at_seq_k (fun K9 hK9 => ?_)
        refine at_seq_k (fun K10 hK10 => ?_)
        refine at_draw _ [] 1000 [(2, 0), (1, 1), (2, 2), (2, 3), (2, 4), (2, 5), (2, 6), (2, 7), (2, 8), (2, 9), (1, 10), (2, 11), (1, 12), (2, 13), (1, 14), (2, 15), (2, 16)] (by kernel_rfl) (by kernel_rfl) (fun _ s => (s.pulls (ks := [1]) rfl).left) ?_
        refine aq_p (ov_fieldAddr (k := 0) (r := 0) rfl rfl rfl rfl) rfl rfl rfl ?_
        refine aq_v (ov_load rfl rfl rfl (fun _ s => s.ld (k := 0) rfl rfl)) rfl rfl rfl ?_
        refine aq_p (ov_int rfl rfl rfl rfl) rfl rfl rfl ?_
        refine aq_p (ov_move rfl rfl) rfl rfl rfl ?_
        refine at_reval 20 (.bool false) rfl (congrArg Value.bool (decide_eq_false (by omega))) ?_
        refine aq_unwanted (j := 3) rfl rfl rfl rfl rfl ?_
        refine aq_unwanted (j := 3) rfl rfl rfl rfl rfl ?_
        refine aq_p (ov_pick_f rfl rfl rfl) rfl rfl rfl ?_
        refine aq_p (ov_move rfl rfl) rfl rfl rfl ?_
        refine aq_unwanted (j := 7) rfl rfl rfl rfl rfl ?_
        refine aq_unwanted (j := 7) rfl rfl rfl rfl rfl ?_
        refine aq_unwanted (j := 7) rfl rfl rfl rfl rfl ?_
        refine aq_unwanted (j := 7) rfl rfl rfl rfl rfl ?_
        refine aq_unwanted (j := 7) rfl rfl rfl rfl rfl ?_
        refine aq_unwanted (j := 7) rfl rfl rfl rfl rfl ?_
        refine aq_unwanted (j := 7) rfl rfl rfl rfl rfl ?_
        refine aq_unwanted (j := 7) rfl rfl rfl rfl rfl ?_
        refine aq_p (ov_pick_f rfl rfl rfl) rfl rfl rfl ?_
        refine aq_nil ?_
        refine at_normal ?_
        refine hK10 _ _ _ ?_
        refine at_cond_false rfl ?_
        refine at_skip ?_
        refine at_normal ?_
        refine hK9 _ _ _ ?_
        refine at_seq_k (fun K11 hK11 => ?_)
        refine at_seq_k (fun K12 hK12 => ?_)
        refine at_draw _ [] 1000 [(2, 0), (2, 1), (1, 2), (1, 3), (1, 4), (2, 5), (1, 6), (2, 7), (2, 8), (2, 9), (1, 10), (2, 11), (2, 12), (2, 13), (2, 14), (1, 15), (2, 16), (2, 17)] (by kernel_rfl) (by kernel_rfl) (fun _ s => (s.pulls (ks := [0, 0, 0]) rfl).left) ?_
        refine aq_p (ov_move rfl rfl) rfl rfl rfl ?_
        refine aq_p (ov_move rfl rfl) rfl rfl rfl ?_
        refine aq_v (ov_indexRd (fun _ s => s.rd (k := 2) rfl) rfl Tryd.underlying29 rfl rfl rfl hget) rfl rfl rfl ?_
        refine aq_v (ov_fieldRd0 (k := 0) (fun _ s => s.rd (k := 2) rfl) rfl rfl hget rfl) rfl rfl rfl ?_
        refine aq_v (ov_loadRd0 (fun _ s => s.rd (k := 2) rfl) rfl rfl rfl hget rfl) rfl rfl rfl ?_
        refine aq_p (ov_fieldAddr (k := 1) (r := 1) rfl rfl rfl rfl) rfl rfl rfl ?_
        refine aq_v (ov_load rfl rfl rfl (fun _ s => s.ld (k := 1) rfl rfl)) rfl rfl rfl ?_
        refine aq_p (ov_strL rfl rfl rfl rfl) rfl rfl rfl ?_
        refine aq_p (ov_move rfl rfl) rfl rfl rfl ?_
        refine at_reval 50 (.bool true) rfl (congrArg Value.bool (by first | assumption | (rw [Bool.not_eq_true']; exact decide_eq_false (by omega)))) ?_
        refine aq_unwanted (j := 8) rfl rfl rfl rfl rfl ?_
        refine aq_unwanted (j := 8) rfl rfl rfl rfl rfl ?_
        refine aq_unwanted (j := 8) rfl rfl rfl rfl rfl ?_
        refine aq_p (ov_pick_t rfl rfl rfl) rfl rfl rfl ?_
        refine aq_p (ov_move rfl rfl) rfl rfl rfl ?_
        refine aq_unwanted (j := 13) rfl rfl rfl rfl rfl ?_
        refine aq_unwanted (j := 13) rfl rfl rfl rfl rfl ?_
        refine aq_unwanted (j := 13) rfl rfl rfl rfl rfl ?_
        refine aq_p (ov_pick_t rfl rfl rfl) rfl rfl rfl ?_
        refine aq_nil ?_
        refine at_normal ?_
        refine hK12 _ _ _ ?_
        refine at_cond_true rfl ?_
        refine at_seq_k (fun K13 hK13 => ?_)
        refine at_region ?_
        refine at_v (ov_move rfl rfl) rfl rfl rfl ?_
        refine at_v (ov_move rfl rfl) rfl rfl rfl ?_
        refine at_v (ov_move rfl rfl) rfl rfl rfl ?_
        refine at_v (ov_indexRd (fun _ s => s.rd (k := 2) rfl) rfl Tryd.underlying29 rfl rfl rfl hget) rfl rfl rfl ?_
        refine at_v (ov_loadRdS (vs := [_, _]) (fun _ s => s.rd (k := 2) rfl) rfl rfl rfl hget rfl rfl) rfl rfl rfl ?_
        refine at_t (ot_buildSlice (cs := [_, _]) rfl Tryd.underlying29 rfl rfl rfl rfl rfl rfl) rfl rfl rfl ?_
        rintro _ _ ⟨g2, rfl, rfl⟩
        refine at_t (ot_append (k := 1) (size := 2) (bytes := 32) (ys := [x]) (fun _ s => s.rdPt (k := 0) rfl rfl (by simp [pE])) rfl Tryd.underlying29 (ti := Tryd.t46) rfl rfl rfl rfl rfl (by decide) rfl rfl rfl (by simp [pE, Value.oneCell']) (by simp; omega) (by decide)) rfl rfl rfl ?_
        rintro _ _ ⟨A0, c0, rfl, rfl⟩
        simp only [setAt]
        refine at_v (ov_assign rfl rfl) rfl rfl rfl ?_
        refine at_nil ?_
        refine at_normal ?_
        refine hK13 _ _ _ ?_
        refine at_exit ?_
        refine at_then_exit ?_
        refine at_exit_eq ?_
        refine at_normal ?_
        refine hK8 _ _ _ ?_
        refine at_region ?_
        refine at_v (ov_move rfl rfl) rfl rfl rfl ?_
        refine at_v ((ov_int rfl rfl rfl rfl).eq (congrArg (Value.int .i64) (inK_i64 (by omega) (by omega)))) rfl rfl rfl ?_
        refine at_v (ov_assign rfl rfl) rfl rfl rfl ?_
        refine at_nil ?_
        refine at_normal ?_
        refine at_roundF (k + 1, A0, c0) hlt (by simp only; omega) ⟨rfl, look_eq rfl (by simp [hs]), look_eq rfl (by simp [hs]), look_eq rfl (by simp [hs]), trivial⟩ rfl ?_
        simp only [setAt, hs]
        exact fun _ s => s.finEq (ks := [1, 1, 1]) (js := [0]) rfl rfl rfl
  · have hi1 : decide ((k : Int) < l.length) = false := decide_eq_false (by omega)
    rw [List.take_of_length_le hge] at hlen ⊢
    have hw : refWrites p l = (if p.1 = 3 ∧ (rwAll p l).done = false then (rwAll p l).out ++ [(p.2.1, p.2.2)] else (rwAll p l).out, if p.1 = 3 then 1 else (rwAll p l).n) := rfl
    obtain ⟨out, n, dn, hsv⟩ : ∃ out n dn, rwAll p l = ⟨out, n, dn⟩ := ⟨_, _, _, rfl⟩
    rw [hsv] at hlen ⊢
    simp only at hlen ⊢
    by_cases h3 : p.1 = 3
    · have hi3 : decide (p.1 = 3) = true := decide_eq_true h3
      cases dn with
      | true =>
        refine at_seq_k (fun K6 hK6 => ?_)
        refine at_seq_k (fun K7 hK7 => ?_)
        refine at_region ?_
        refine at_v (ov_move rfl rfl) rfl rfl rfl ?_
        refine at_v (ov_move rfl rfl) rfl rfl rfl ?_
        refine at_v (ov_len_slice rfl Tryd.underlying29 rfl) rfl rfl rfl ?_
        refine at_v (ov_int rfl rfl rfl rfl) rfl rfl rfl ?_
        refine at_nil ?_
        refine at_normal ?_
        refine hK7 _ _ _ ?_
        refine at_cond_false (congrArg (fun b => some (Value.bool b)) (show _ = false from decide_eq_false (by omega))) ?_
        refine at_exit ?_
        refine at_then_exit ?_
        refine at_then_exit ?_
        refine at_exit_eq ?_
        refine at_normal ?_
        refine hK4 _ _ _ ?_
        refine at_seq_k (fun K8 hK8 => ?_)
        refine at_seq_k (fun K9 hK9 => ?_)
        refine at_region ?_
        refine at_v (ov_fieldAddr (k := 0) (r := 0) rfl rfl rfl rfl) rfl rfl rfl ?_
        refine at_v (ov_load rfl rfl rfl (fun _ s => s.ld (k := 1) rfl rfl)) rfl rfl rfl ?_
        refine at_v (ov_int rfl rfl rfl rfl) rfl rfl rfl ?_
        refine at_v (ov_move rfl rfl) rfl rfl rfl ?_
        refine at_reval 81 (.bool true) rfl (congrArg Value.bool (decide_eq_true (by omega))) ?_
        refine at_wanted (j := 3) rfl ?_
        refine at_v (ov_move rfl rfl) rfl rfl rfl ?_
        refine at_wanted (j := 3) rfl ?_
        refine at_v (ov_not rfl rfl) rfl rfl rfl ?_
        refine at_v (ov_pick_t rfl rfl rfl) rfl rfl rfl ?_
        refine at_nil ?_
        refine at_normal ?_
        refine hK9 _ _ _ ?_
        refine at_cond_false rfl ?_
        refine at_skip ?_
        refine at_normal ?_
        refine hK8 _ _ _ ?_
        refine at_seq_k (fun K10 hK10 => ?_)
        refine at_seq_k (fun K11 hK11 => ?_)
        refine at_region ?_
        refine at_v (ov_fieldAddr (k := 0) (r := 0) rfl rfl rfl rfl) rfl rfl rfl ?_
        refine at_v (ov_load rfl rfl rfl (fun _ s => s.ld (k := 1) rfl rfl)) rfl rfl rfl ?_
        refine at_v (ov_int rfl rfl rfl rfl) rfl rfl rfl ?_
        refine at_nil ?_
        refine at_normal ?_
        refine hK11 _ _ _ ?_
        refine at_cond_true (congrArg (fun b => some (Value.bool b)) (show _ = true from decide_eq_true (by omega))) ?_
        refine at_region ?_
        refine at_v (ov_assign rfl rfl) rfl rfl rfl ?_
        refine at_nil ?_
        refine at_normal ?_
        refine hK10 _ _ _ ?_
        refine at_seq_k (fun K12 hK12 => ?_)
        refine at_region ?_
        refine at_v (ov_move rfl rfl) rfl rfl rfl ?_
        refine at_v (ov_move rfl rfl) rfl rfl rfl ?_
        refine at_v (ov_assign rfl rfl) rfl rfl rfl ?_
        refine at_v (ov_assign rfl rfl) rfl rfl rfl ?_
        refine at_nil ?_
        refine at_normal ?_
        refine hK12 _ _ _ ?_
        refine at_ret ?_
        refine at_end ?_
        refine at_fin (rsL (vs := [_, _]) rfl ⟨res_tmp rfl, res_tmp rfl, trivial⟩ rfl) ?_
        have hw2 : refWrites p l = (out, 1) := by rw [hw, hsv]; simp [h3]
        refine ⟨_, ⟨B, e, by rw [hw2], rfl⟩, ?_⟩
        rw [hw2]
        exact fun _ s => s.finEq (ks := [0, 1]) (js := [0]) rfl rfl rfl
      | false =>
        refine at_seq_k (fun K6 hK6 => ?_)
        refine at_seq_k (fun K7 hK7 => ?_)
        refine at_region ?_
        refine at_v (ov_move rfl rfl) rfl rfl rfl ?_
        refine at_v (ov_move rfl rfl) rfl rfl rfl ?_
        refine at_v (ov_len_slice rfl Tryd.underlying29 rfl) rfl rfl rfl ?_
        refine at_v (ov_int rfl rfl rfl rfl) rfl rfl rfl ?_
        refine at_nil ?_
        refine at_normal ?_
        refine hK7 _ _ _ ?_
        refine at_cond_false (congrArg (fun b => some (Value.bool b)) (show _ = false from decide_eq_false (by omega))) ?_
        refine at_exit ?_
        refine at_then_exit ?_
        refine at_then_exit ?_
        refine at_exit_eq ?_
        refine at_normal ?_
        refine hK4 _ _ _ ?_
        refine at_seq_k (fun K8 hK8 => ?_)
        refine at_seq_k (fun K9 hK9 => ?_)
        refine at_region ?_
        refine at_v (ov_fieldAddr (k := 0) (r := 0) rfl rfl rfl rfl) rfl rfl rfl ?_
        refine at_v (ov_load rfl rfl rfl (fun _ s => s.ld (k := 1) rfl rfl)) rfl rfl rfl ?_
        refine at_v (ov_int rfl rfl rfl rfl) rfl rfl rfl ?_
        refine at_v (ov_move rfl rfl) rfl rfl rfl ?_
        refine at_reval 81 (.bool true) rfl (congrArg Value.bool (decide_eq_true (by omega))) ?_
        refine at_wanted (j := 3) rfl ?_
        refine at_v (ov_move rfl rfl) rfl rfl rfl ?_
        refine at_wanted (j := 3) rfl ?_
        refine at_v (ov_not rfl rfl) rfl rfl rfl ?_
        refine at_v (ov_pick_t rfl rfl rfl) rfl rfl rfl ?_
        refine at_nil ?_
        refine at_normal ?_
        refine hK9 _ _ _ ?_
        refine at_cond_true rfl ?_
        refine at_region ?_
        refine at_v (ov_move rfl rfl) rfl rfl rfl ?_
        refine at_v (ov_fieldAddr (k := 1) (r := 1) rfl rfl rfl rfl) rfl rfl rfl ?_
        refine at_v (ov_load rfl rfl rfl (fun _ s => s.ld (k := 1) rfl rfl)) rfl rfl rfl ?_
        refine at_v (ov_fieldAddr (k := 2) (r := 2) rfl rfl rfl rfl) rfl rfl rfl ?_
        refine at_v (ov_load rfl rfl rfl (fun _ s => s.ld (k := 1) rfl rfl)) rfl rfl rfl ?_
        refine at_v (ov_build (cs := [_, _]) rfl rfl rfl rfl) rfl rfl rfl ?_
        refine at_t (ot_buildSlice (cs := [_, _]) rfl Tryd.underlying29 rfl rfl rfl rfl rfl rfl) rfl rfl rfl ?_
        rintro _ _ ⟨g2, rfl, rfl⟩
        refine at_t (ot_append (k := 1) (size := 2) (bytes := 32) (ys := [(p.2.1, p.2.2)]) (fun _ s => s.rdPt (k := 0) rfl rfl (by simp [pE])) rfl Tryd.underlying29 (ti := Tryd.t46) rfl rfl rfl rfl rfl (by decide) rfl rfl rfl (by simp [pE, Value.oneCell']) (by simp; omega) (by decide)) rfl rfl rfl ?_
        rintro _ _ ⟨A0, c0, rfl, rfl⟩
        simp only [setAt]
        refine at_v (ov_assign rfl rfl) rfl rfl rfl ?_
        refine at_nil ?_
        refine at_normal ?_
        refine hK8 _ _ _ ?_
        refine at_seq_k (fun K10 hK10 => ?_)
        refine at_seq_k (fun K11 hK11 => ?_)
        refine at_region ?_
        refine at_v (ov_fieldAddr (k := 0) (r := 0) rfl rfl rfl rfl) rfl rfl rfl ?_
        refine at_v (ov_load rfl rfl rfl (fun _ s => s.ld (k := 2) rfl rfl)) rfl rfl rfl ?_
        refine at_v (ov_int rfl rfl rfl rfl) rfl rfl rfl ?_
        refine at_nil ?_
        refine at_normal ?_
        refine hK11 _ _ _ ?_
        refine at_cond_true (congrArg (fun b => some (Value.bool b)) (show _ = true from decide_eq_true (by omega))) ?_
        refine at_region ?_
        refine at_v (ov_assign rfl rfl) rfl rfl rfl ?_
        refine at_nil ?_
        refine at_normal ?_
        refine hK10 _ _ _ ?_
        refine at_seq_k (fun K12 hK12 => ?_)
        refine at_region ?_
        refine at_v (ov_move rfl rfl) rfl rfl rfl ?_
        refine at_v (ov_move rfl rfl) rfl rfl rfl ?_
        refine at_v (ov_assign rfl rfl) rfl rfl rfl ?_
        refine at_v (ov_assign rfl rfl) rfl rfl rfl ?_
        refine at_nil ?_
        refine at_normal ?_
        refine hK12 _ _ _ ?_
        refine at_ret ?_
        refine at_end ?_
        refine at_fin (rsL (vs := [_, _]) rfl ⟨res_tmp rfl, res_tmp rfl, trivial⟩ rfl) ?_
        have hw2 : refWrites p l = (out ++ [(p.2.1, p.2.2)], 1) := by rw [hw, hsv]; simp [h3]
        refine ⟨_, ⟨A0, c0, by rw [hw2], rfl⟩, ?_⟩
        rw [hw2]
        exact fun _ s => s.finEq (ks := [1, 2]) (js := [0, 0]) rfl rfl rfl
    · have hi3 : decide (p.1 = 3) = false := decide_eq_false h3
      refine at_seq_k (fun K6 hK6 => ?_)
      refine at_seq_k (fun K7 hK7 => ?_)
      refine at_region ?_
      refine at_v (ov_move rfl rfl) rfl rfl rfl ?_
      refine at_v (ov_move rfl rfl) rfl rfl rfl ?_
      refine at_v (ov_len_slice rfl Tryd.underlying29 rfl) rfl rfl rfl ?_
      refine at_v (ov_int rfl rfl rfl rfl) rfl rfl rfl ?_
      refine at_nil ?_
      refine at_normal ?_
      refine hK7 _ _ _ ?_
      refine at_cond_false (congrArg (fun b => some (Value.bool b)) (show _ = false from decide_eq_false (by omega))) ?_
      refine at_exit ?_
      refine at_then_exit ?_
      refine at_then_exit ?_
      refine at_exit_eq ?_
      refine at_normal ?_
      refine hK4 _ _ _ ?_
      refine at_seq_k (fun K8 hK8 => ?_)
      refine at_seq_k (fun K9 hK9 => ?_)
      refine at_region ?_
      refine at_v (ov_fieldAddr (k := 0) (r := 0) rfl rfl rfl rfl) rfl rfl rfl ?_
      refine at_v (ov_load rfl rfl rfl (fun _ s => s.ld (k := 1) rfl rfl)) rfl rfl rfl ?_
      refine at_v (ov_int rfl rfl rfl rfl) rfl rfl rfl ?_
      refine at_v (ov_move rfl rfl) rfl rfl rfl ?_
      refine at_reval 81 (.bool false) rfl (congrArg Value.bool (decide_eq_false (by omega))) ?_
      refine at_unwanted (j := 3) rfl rfl rfl rfl ?_
      refine at_unwanted (j := 3) rfl rfl rfl rfl ?_
      refine at_v (ov_pick_f rfl rfl rfl) rfl rfl rfl ?_
      refine at_nil ?_
      refine at_normal ?_
      refine hK9 _ _ _ ?_
      refine at_cond_false rfl ?_
      refine at_skip ?_
      refine at_normal ?_
      refine hK8 _ _ _ ?_
      refine at_seq_k (fun K10 hK10 => ?_)
      refine at_seq_k (fun K11 hK11 => ?_)
      refine at_region ?_
      refine at_v (ov_fieldAddr (k := 0) (r := 0) rfl rfl rfl rfl) rfl rfl rfl ?_
      refine at_v (ov_load rfl rfl rfl (fun _ s => s.ld (k := 1) rfl rfl)) rfl rfl rfl ?_
      refine at_v (ov_int rfl rfl rfl rfl) rfl rfl rfl ?_
      refine at_nil ?_
      refine at_normal ?_
      refine hK11 _ _ _ ?_
      refine at_cond_false (congrArg (fun b => some (Value.bool b)) (show _ = false from decide_eq_false (by omega))) ?_
      refine at_skip ?_
      refine at_normal ?_
      refine hK10 _ _ _ ?_
      refine at_seq_k (fun K12 hK12 => ?_)
      refine at_region ?_
      refine at_v (ov_move rfl rfl) rfl rfl rfl ?_
      refine at_v (ov_move rfl rfl) rfl rfl rfl ?_
      refine at_v (ov_assign rfl rfl) rfl rfl rfl ?_
      refine at_v (ov_assign rfl rfl) rfl rfl rfl ?_
      refine at_nil ?_
      refine at_normal ?_
      refine hK12 _ _ _ ?_
      refine at_ret ?_
      refine at_end ?_
      refine at_fin (rsL (vs := [_, _]) rfl ⟨res_tmp rfl, res_tmp rfl, trivial⟩ rfl) ?_
      have hw2 : refWrites p l = (out, n) := by rw [hw, hsv]; simp [h3]
      refine ⟨_, ⟨B, e, by rw [hw2], rfl⟩, ?_⟩
      rw [hw2]
      exact fun _ s => s.finEq (ks := [0, 1]) (js := [0]) rfl rfl rfl
/-- How much a table is. -/
def sumP (l : List PR) : Nat := (l.map fun x => x.1.length + x.2.length + 1).sum
def largeP (l : List PR) : Bool := decide (100 < l.length) || decide (10000 < sumP l) || !tabB l
theorem sumP_succ {l : List PR} {k : Nat} {x : PR} (h : l[k]? = some x) : sumP (l.take (k + 1)) = sumP (l.take k) + (x.1.length + x.2.length + 1) := by
  unfold sumP
  rw [List.take_add_one, h]
  simp
theorem sumP_take (l : List PR) (k : Nat) : sumP (l.take k) ≤ sumP l := by
  unfold sumP
  have : l = l.take k ++ l.drop k := (List.take_append_drop k l).symm
  conv => rhs; rw [this]
  rw [List.map_append, List.sum_append]
  omega
theorem sumP_mem {l : List PR} {x : PR} (h : x ∈ l) : x.1.length + x.2.length + 1 ≤ sumP l := by
  unfold sumP
  induction l with
  | nil => simp at h
  | cons a l ih =>
    rw [List.map_cons, List.sum_cons]
    rcases List.mem_cons.1 h with rfl | h
    · omega
    · have := ih h; omega
end Go.Proofs.YtmedbdcjniggcaaDoor
