/- Package lex, walked: Right, Write. -/
import Derived.Test.YtfnbdgmeieilhaaDoorProg
import Derived.Test.YtfnbdgmeieilhaaDoorLex
import Derived.Lib.ReplaceLaws
import Derived.Test.YtfnbdgmeieilhaaDoorSLStr
import Derived.KernelRfl
set_option linter.unusedSimpArgs false
set_option linter.unusedVariables false
set_option maxRecDepth 100000
namespace Go.Proofs.YtfnbdgmeieilhaaDoor
open Go Go.Proofs.YtfnbdgmeieilhaaDoor.SL Go.RowKit
/-- May a token be? -/
def rightL (t : Tok) : Bool :=
  if t.1 = 2 ∨ t.1 = 3 then true
  else if t.1 = 5 then !Lib.contains t.2 closesL && decide (Lib.trimS t.2 blanksL = t.2)
  else if t.1 = 1 ∨ t.1 = 4 ∨ t.1 = 6 then (if t.2 = [] ∨ remarkL t.2 ≠ 0 then false else decide ((oneL t.2).1 = t) && decide ((oneL t.2).2 = (t.2.length : Nat)))
  else false
theorem tok_eq (a b : Tok) : (decide (a.1 = b.1) && decide (a.2 = b.2)) = decide (a = b) := by
  cases a; cases b; simp [Prod.ext_iff]
theorem T12 (w0 : World) (t : Tok) (hl : t.2.length ≤ 10000) (hM : MaxL w0) : Tri Tryd.prog w0 12 [.agg #[.int .i64 t.1, SV t.2]] [] fun v m => v = .bool (rightL t) ∧ m = [] := by
  refine tri_of Tryd.func12 rfl rfl fun F => ?_
  simp only [Tryd.ntmps12, argEnv, List.nil_append]
  obtain ⟨k, s⟩ := t
  simp only at hl ⊢
  by_cases h2 : k = 2
  · have hi : decide (k = 2) = true := decide_eq_true h2
    refine at_seq_k (fun K0 hK0 => ?_)
    refine at_region ?_
    refine at_t (ot_boxA rfl rfl) rfl rfl rfl ?_
    rintro _ _ ⟨g0, rfl, rfl⟩
    refine at_v (ov_assign rfl rfl) rfl rfl rfl ?_
    refine at_nil ?_
    refine at_normal ?_
    refine hK0 _ _ _ ?_
    refine at_seq_k (fun K1 hK1 => ?_)
    refine at_region ?_
    refine at_v (ov_fieldAddr (k := 1) (r := 1) rfl rfl rfl rfl) rfl rfl rfl ?_
    refine at_v (ov_load rfl rfl rfl (fun _ s => s.ld (k := 0) rfl rfl)) rfl rfl rfl ?_
    refine at_v (ov_assign rfl rfl) rfl rfl rfl ?_
    refine at_nil ?_
    refine at_normal ?_
    refine hK1 _ _ _ ?_
    refine at_seq_k (fun K2 hK2 => ?_)
    refine at_seq_k (fun K3 hK3 => ?_)
    refine at_region ?_
    refine at_v (ov_fieldAddr (k := 0) (r := 0) rfl rfl rfl rfl) rfl rfl rfl ?_
    refine at_v (ov_load rfl rfl rfl (fun _ s => s.ld (k := 0) rfl rfl)) rfl rfl rfl ?_
    refine at_nil ?_
    refine at_normal ?_
    refine hK3 _ _ _ ?_
    refine at_block ?_
    refine at_seq_k (fun K4 hK4 => ?_)
    refine at_seq_k (fun K5 hK5 => ?_)
    refine at_region ?_
    refine at_v (ov_int rfl rfl rfl rfl) rfl rfl rfl ?_
    refine at_v (ov_assign rfl rfl) rfl rfl rfl ?_
    refine at_nil ?_
    refine at_normal ?_
    refine hK5 _ _ _ ?_
    refine at_cond_true (congrArg (fun b => some (Value.bool b)) (show _ = true from decide_eq_true (by omega))) ?_
    refine at_skip ?_
    refine at_normal ?_
    refine hK4 _ _ _ ?_
    refine at_cond_true (congrArg (fun b => some (Value.bool b)) (show _ = true from decide_eq_true (by omega))) ?_
    refine at_seq_k (fun K6 hK6 => ?_)
    refine at_region ?_
    refine at_v (ov_assign rfl rfl) rfl rfl rfl ?_
    refine at_nil ?_
    refine at_normal ?_
    refine hK6 _ _ _ ?_
    refine at_ret ?_
    refine at_inb_ret ?_
    refine at_then_ret ?_
    refine at_end ?_
    refine at_fin (rsV rfl (res_tmp rfl)) ?_
    refine ⟨_, ⟨by simp [rightL, h2], rfl⟩, ?_⟩
    exact fun _ s => s.finEq (ks := []) (js := [0]) rfl rfl rfl
  have hi2 : decide (k = 2) = false := decide_eq_false h2
  by_cases h3 : k = 3
  · have hi : decide (k = 3) = true := decide_eq_true h3
    refine at_seq_k (fun K0 hK0 => ?_)
    refine at_region ?_
    refine at_t (ot_boxA rfl rfl) rfl rfl rfl ?_
    rintro _ _ ⟨g0, rfl, rfl⟩
    refine at_v (ov_assign rfl rfl) rfl rfl rfl ?_
    refine at_nil ?_
    refine at_normal ?_
    refine hK0 _ _ _ ?_
    refine at_seq_k (fun K1 hK1 => ?_)
    refine at_region ?_
    refine at_v (ov_fieldAddr (k := 1) (r := 1) rfl rfl rfl rfl) rfl rfl rfl ?_
    refine at_v (ov_load rfl rfl rfl (fun _ s => s.ld (k := 0) rfl rfl)) rfl rfl rfl ?_
    refine at_v (ov_assign rfl rfl) rfl rfl rfl ?_
    refine at_nil ?_
    refine at_normal ?_
    refine hK1 _ _ _ ?_
    refine at_seq_k (fun K2 hK2 => ?_)
    refine at_seq_k (fun K3 hK3 => ?_)
    refine at_region ?_
    refine at_v (ov_fieldAddr (k := 0) (r := 0) rfl rfl rfl rfl) rfl rfl rfl ?_
    refine at_v (ov_load rfl rfl rfl (fun _ s => s.ld (k := 0) rfl rfl)) rfl rfl rfl ?_
    refine at_nil ?_
    refine at_normal ?_
    refine hK3 _ _ _ ?_
    refine at_block ?_
    refine at_seq_k (fun K4 hK4 => ?_)
    refine at_seq_k (fun K5 hK5 => ?_)
    refine at_region ?_
    refine at_v (ov_int rfl rfl rfl rfl) rfl rfl rfl ?_
    refine at_v (ov_assign rfl rfl) rfl rfl rfl ?_
    refine at_nil ?_
    refine at_normal ?_
    refine hK5 _ _ _ ?_
    refine at_cond_false (congrArg (fun b => some (Value.bool b)) (show _ = false from decide_eq_false (by omega))) ?_
    refine at_region ?_
    refine at_v (ov_int rfl rfl rfl rfl) rfl rfl rfl ?_
    refine at_v (ov_assign rfl rfl) rfl rfl rfl ?_
    refine at_nil ?_
    refine at_normal ?_
    refine hK4 _ _ _ ?_
    refine at_cond_true (congrArg (fun b => some (Value.bool b)) (show _ = true from decide_eq_true (by omega))) ?_
    refine at_seq_k (fun K6 hK6 => ?_)
    refine at_region ?_
    refine at_v (ov_assign rfl rfl) rfl rfl rfl ?_
    refine at_nil ?_
    refine at_normal ?_
    refine hK6 _ _ _ ?_
    refine at_ret ?_
    refine at_inb_ret ?_
    refine at_then_ret ?_
    refine at_end ?_
    refine at_fin (rsV rfl (res_tmp rfl)) ?_
    refine ⟨_, ⟨by simp [rightL, h3], rfl⟩, ?_⟩
    exact fun _ s => s.finEq (ks := []) (js := [0]) rfl rfl rfl
  have hi3 : decide (k = 3) = false := decide_eq_false h3
  by_cases h5 : k = 5
  · have hi : decide (k = 5) = true := decide_eq_true h5
    have hT := T34 w0 s [32, 9, 10, 13] (by omega) (by decide) (by decide)
    cases hc : Lib.contains s [42, 47] with
    | true =>
      refine at_seq_k (fun K0 hK0 => ?_)
      refine at_region ?_
      refine at_t (ot_boxA rfl rfl) rfl rfl rfl ?_
      rintro _ _ ⟨g0, rfl, rfl⟩
      refine at_v (ov_assign rfl rfl) rfl rfl rfl ?_
      refine at_nil ?_
      refine at_normal ?_
      refine hK0 _ _ _ ?_
      refine at_seq_k (fun K1 hK1 => ?_)
      refine at_region ?_
      refine at_v (ov_fieldAddr (k := 1) (r := 1) rfl rfl rfl rfl) rfl rfl rfl ?_
      refine at_v (ov_load rfl rfl rfl (fun _ s => s.ld (k := 0) rfl rfl)) rfl rfl rfl ?_
      refine at_v (ov_assign rfl rfl) rfl rfl rfl ?_
      refine at_nil ?_
      refine at_normal ?_
      refine hK1 _ _ _ ?_
      refine at_seq_k (fun K2 hK2 => ?_)
      refine at_seq_k (fun K3 hK3 => ?_)
      refine at_region ?_
      refine at_v (ov_fieldAddr (k := 0) (r := 0) rfl rfl rfl rfl) rfl rfl rfl ?_
      refine at_v (ov_load rfl rfl rfl (fun _ s => s.ld (k := 0) rfl rfl)) rfl rfl rfl ?_
      refine at_nil ?_
      refine at_normal ?_
      refine hK3 _ _ _ ?_
      refine at_block ?_
      refine at_seq_k (fun K4 hK4 => ?_)
      refine at_seq_k (fun K5 hK5 => ?_)
      refine at_region ?_
      refine at_v (ov_int rfl rfl rfl rfl) rfl rfl rfl ?_
      refine at_v (ov_assign rfl rfl) rfl rfl rfl ?_
      refine at_nil ?_
      refine at_normal ?_
      refine hK5 _ _ _ ?_
      refine at_cond_false (congrArg (fun b => some (Value.bool b)) (show _ = false from decide_eq_false (by omega))) ?_
      refine at_region ?_
      refine at_v (ov_int rfl rfl rfl rfl) rfl rfl rfl ?_
      refine at_v (ov_assign rfl rfl) rfl rfl rfl ?_
      refine at_nil ?_
      refine at_normal ?_
      refine hK4 _ _ _ ?_
      refine at_cond_false (congrArg (fun b => some (Value.bool b)) (show _ = false from decide_eq_false (by omega))) ?_
      refine at_seq_k (fun K6 hK6 => ?_)
      refine at_region ?_
      refine at_v (ov_int rfl rfl rfl rfl) rfl rfl rfl ?_
      refine at_v (ov_assign rfl rfl) rfl rfl rfl ?_
      refine at_nil ?_
      refine at_normal ?_
      refine hK6 _ _ _ ?_
      refine at_cond_true (congrArg (fun b => some (Value.bool b)) (show _ = true from decide_eq_true (by omega))) ?_
      refine at_seq_k (fun K7 hK7 => ?_)
      refine at_region ?_
      refine at_v (ov_move rfl rfl) rfl rfl rfl ?_
      refine at_t (ot_call (ks := []) rfl rfl rfl Tryd.call17 rfl (T17 _ _ _ (by first | assumption | rfl | omega | decide | (simp; done) | (simp at *; omega)) (by first | assumption | rfl | omega | decide | (simp; done) | (simp at *; omega))) rfl) rfl rfl rfl ?_
      rintro v0 _ ⟨m0, hp0, rfl⟩
      obtain ⟨rfl, rfl⟩ := hp0
      simp only [List.cons_append, List.nil_append, splice, spliceL]
      refine at_v (ov_not rfl rfl) rfl rfl rfl ?_
      refine at_v (ov_move rfl rfl) rfl rfl rfl ?_
      refine at_reval 18 (.bool false) rfl (congrArg Value.bool (by simp [hi2, hi3, hi, hc]; done)) ?_
      refine at_unwanted (j := 3) rfl rfl rfl rfl ?_
      refine at_unwanted (j := 3) rfl rfl rfl rfl ?_
      refine at_unwanted (j := 3) rfl rfl rfl rfl ?_
      refine at_unwanted (j := 3) rfl rfl rfl rfl ?_
      refine at_v (ov_pick_f rfl rfl rfl) rfl rfl rfl ?_
      refine at_v (ov_assign rfl rfl) rfl rfl rfl ?_
      refine at_nil ?_
      refine at_normal ?_
      refine hK7 _ _ _ ?_
      refine at_ret ?_
      refine at_inb_ret ?_
      refine at_then_ret ?_
      refine at_end ?_
      refine at_fin (rsV rfl (res_tmp rfl)) ?_
      refine ⟨_, ⟨by simp [rightL, h5, closesL, hc], rfl⟩, ?_⟩
      exact fun _ s => s.finEq (ks := []) (js := [0]) rfl rfl rfl
    | false =>
      refine at_seq_k (fun K0 hK0 => ?_)
      refine at_region ?_
      refine at_t (ot_boxA rfl rfl) rfl rfl rfl ?_
      rintro _ _ ⟨g0, rfl, rfl⟩
      refine at_v (ov_assign rfl rfl) rfl rfl rfl ?_
      refine at_nil ?_
      refine at_normal ?_
      refine hK0 _ _ _ ?_
      refine at_seq_k (fun K1 hK1 => ?_)
      refine at_region ?_
      refine at_v (ov_fieldAddr (k := 1) (r := 1) rfl rfl rfl rfl) rfl rfl rfl ?_
      refine at_v (ov_load rfl rfl rfl (fun _ s => s.ld (k := 0) rfl rfl)) rfl rfl rfl ?_
      refine at_v (ov_assign rfl rfl) rfl rfl rfl ?_
      refine at_nil ?_
      refine at_normal ?_
      refine hK1 _ _ _ ?_
      refine at_seq_k (fun K2 hK2 => ?_)
      refine at_seq_k (fun K3 hK3 => ?_)
      refine at_region ?_
      refine at_v (ov_fieldAddr (k := 0) (r := 0) rfl rfl rfl rfl) rfl rfl rfl ?_
      refine at_v (ov_load rfl rfl rfl (fun _ s => s.ld (k := 0) rfl rfl)) rfl rfl rfl ?_
      refine at_nil ?_
      refine at_normal ?_
      refine hK3 _ _ _ ?_
      refine at_block ?_
      refine at_seq_k (fun K4 hK4 => ?_)
      refine at_seq_k (fun K5 hK5 => ?_)
      refine at_region ?_
      refine at_v (ov_int rfl rfl rfl rfl) rfl rfl rfl ?_
      refine at_v (ov_assign rfl rfl) rfl rfl rfl ?_
      refine at_nil ?_
      refine at_normal ?_
      refine hK5 _ _ _ ?_
      refine at_cond_false (congrArg (fun b => some (Value.bool b)) (show _ = false from decide_eq_false (by omega))) ?_
      refine at_region ?_
      refine at_v (ov_int rfl rfl rfl rfl) rfl rfl rfl ?_
      refine at_v (ov_assign rfl rfl) rfl rfl rfl ?_
      refine at_nil ?_
      refine at_normal ?_
      refine hK4 _ _ _ ?_
      refine at_cond_false (congrArg (fun b => some (Value.bool b)) (show _ = false from decide_eq_false (by omega))) ?_
      refine at_seq_k (fun K6 hK6 => ?_)
      refine at_region ?_
      refine at_v (ov_int rfl rfl rfl rfl) rfl rfl rfl ?_
      refine at_v (ov_assign rfl rfl) rfl rfl rfl ?_
      refine at_nil ?_
      refine at_normal ?_
      refine hK6 _ _ _ ?_
      refine at_cond_true (congrArg (fun b => some (Value.bool b)) (show _ = true from decide_eq_true (by omega))) ?_
      refine at_seq_k (fun K7 hK7 => ?_)
      refine at_region ?_
      refine at_v (ov_move rfl rfl) rfl rfl rfl ?_
      refine at_t (ot_call (ks := []) rfl rfl rfl Tryd.call17 rfl (T17 _ _ _ (by first | assumption | rfl | omega | decide | (simp; done) | (simp at *; omega)) (by first | assumption | rfl | omega | decide | (simp; done) | (simp at *; omega))) rfl) rfl rfl rfl ?_
      rintro v0 _ ⟨m0, hp0, rfl⟩
      obtain ⟨rfl, rfl⟩ := hp0
      simp only [List.cons_append, List.nil_append, splice, spliceL]
      refine at_v (ov_not rfl rfl) rfl rfl rfl ?_
      refine at_v (ov_move rfl rfl) rfl rfl rfl ?_
      refine at_reval 18 (.bool true) rfl (congrArg Value.bool (by simp [hi2, hi3, hi, hc]; done)) ?_
      refine at_wanted (j := 3) rfl ?_
      refine at_v (ov_move rfl rfl) rfl rfl rfl ?_
      refine at_wanted (j := 3) rfl ?_
      refine at_t (ot_call (ks := []) rfl rfl rfl Tryd.call34 rfl (hT ) rfl) rfl rfl rfl ?_
      rintro v0 _ ⟨m0, hp0, rfl⟩
      obtain ⟨rfl, rfl⟩ := hp0
      simp only [List.cons_append, List.nil_append, splice, spliceL]
      refine at_wanted (j := 3) rfl ?_
      refine at_v (ov_move rfl rfl) rfl rfl rfl ?_
      refine at_wanted (j := 3) rfl ?_
      refine at_v (ov_strL rfl rfl rfl rfl) rfl rfl rfl ?_
      refine at_v (ov_pick_t rfl rfl rfl) rfl rfl rfl ?_
      refine at_v (ov_assign rfl rfl) rfl rfl rfl ?_
      refine at_nil ?_
      refine at_normal ?_
      refine hK7 _ _ _ ?_
      refine at_ret ?_
      refine at_inb_ret ?_
      refine at_then_ret ?_
      refine at_end ?_
      refine at_fin (rsV rfl (res_tmp rfl)) ?_
      refine ⟨_, ⟨by simp [rightL, h5, closesL, blanksL, hc]; exact decide_eq_decide.2 Iff.rfl, rfl⟩, ?_⟩
      exact fun _ s => s.finEq (ks := []) (js := [0]) rfl rfl rfl
  have hi5 : decide (k = 5) = false := decide_eq_false h5
  have key : ∀ h146 : k = 1 ∨ k = 4 ∨ k = 6, rightL (k, s) = if s = [] ∨ remarkL s ≠ 0 then false else decide ((oneL s).1 = (k, s)) && decide ((oneL s).2 = (s.length : Nat)) := fun h146 => by
    unfold rightL
    simp only
    rw [if_neg (by omega), if_neg h5, if_pos h146]
  by_cases h146 : k = 1 ∨ k = 4 ∨ k = 6
  · rw [key h146]
    have hk : decide (k = 1) = true ∨ (decide (k = 1) = false ∧ decide (k = 4) = true) ∨ (decide (k = 1) = false ∧ decide (k = 4) = false ∧ decide (k = 6) = true) := by
      rcases h146 with h | h | h
      · exact .inl (decide_eq_true h)
      · exact .inr (.inl ⟨decide_eq_false (by omega), decide_eq_true h⟩)
      · exact .inr (.inr ⟨decide_eq_false (by omega), decide_eq_false (by omega), decide_eq_true h⟩)
    cases s with
    | nil =>
      have hi6 : decide (([] : BL) = []) = true := by simp
      rcases hk with hk1 | ⟨hk1, hk2⟩ | ⟨hk1, hk2, hk3⟩
      · refine at_seq_k (fun K0 hK0 => ?_)
        refine at_region ?_
        refine at_t (ot_boxA rfl rfl) rfl rfl rfl ?_
        rintro _ _ ⟨g0, rfl, rfl⟩
        refine at_v (ov_assign rfl rfl) rfl rfl rfl ?_
        refine at_nil ?_
        refine at_normal ?_
        refine hK0 _ _ _ ?_
        refine at_seq_k (fun K1 hK1 => ?_)
        refine at_region ?_
        refine at_v (ov_fieldAddr (k := 1) (r := 1) rfl rfl rfl rfl) rfl rfl rfl ?_
        refine at_v (ov_load rfl rfl rfl (fun _ s => s.ld (k := 0) rfl rfl)) rfl rfl rfl ?_
        refine at_v (ov_assign rfl rfl) rfl rfl rfl ?_
        refine at_nil ?_
        refine at_normal ?_
        refine hK1 _ _ _ ?_
        refine at_seq_k (fun K2 hK2 => ?_)
        refine at_seq_k (fun K3 hK3 => ?_)
        refine at_region ?_
        refine at_v (ov_fieldAddr (k := 0) (r := 0) rfl rfl rfl rfl) rfl rfl rfl ?_
        refine at_v (ov_load rfl rfl rfl (fun _ s => s.ld (k := 0) rfl rfl)) rfl rfl rfl ?_
        refine at_nil ?_
        refine at_normal ?_
        refine hK3 _ _ _ ?_
        refine at_block ?_
        refine at_seq_k (fun K4 hK4 => ?_)
        refine at_seq_k (fun K5 hK5 => ?_)
        refine at_region ?_
        refine at_v (ov_int rfl rfl rfl rfl) rfl rfl rfl ?_
        refine at_v (ov_assign rfl rfl) rfl rfl rfl ?_
        refine at_nil ?_
        refine at_normal ?_
        refine hK5 _ _ _ ?_
        refine at_cond_false (congrArg (fun b => some (Value.bool b)) (show _ = false from decide_eq_false (by omega))) ?_
        refine at_region ?_
        refine at_v (ov_int rfl rfl rfl rfl) rfl rfl rfl ?_
        refine at_v (ov_assign rfl rfl) rfl rfl rfl ?_
        refine at_nil ?_
        refine at_normal ?_
        refine hK4 _ _ _ ?_
        refine at_cond_false (congrArg (fun b => some (Value.bool b)) (show _ = false from decide_eq_false (by omega))) ?_
        refine at_seq_k (fun K6 hK6 => ?_)
        refine at_region ?_
        refine at_v (ov_int rfl rfl rfl rfl) rfl rfl rfl ?_
        refine at_v (ov_assign rfl rfl) rfl rfl rfl ?_
        refine at_nil ?_
        refine at_normal ?_
        refine hK6 _ _ _ ?_
        refine at_cond_false (congrArg (fun b => some (Value.bool b)) (show _ = false from decide_eq_false (by omega))) ?_
        refine at_seq_k (fun K7 hK7 => ?_)
        refine at_seq_k (fun K8 hK8 => ?_)
        refine at_region ?_
        refine at_v (ov_int rfl rfl rfl rfl) rfl rfl rfl ?_
        refine at_v (ov_assign rfl rfl) rfl rfl rfl ?_
        refine at_nil ?_
        refine at_normal ?_
        refine hK8 _ _ _ ?_
        refine at_cond_true (congrArg (fun b => some (Value.bool b)) (show _ = true from by first | assumption | (rw [Bool.not_eq_true']; exact decide_eq_false (by omega)))) ?_
        refine at_skip ?_
        refine at_normal ?_
        refine hK7 _ _ _ ?_
        refine at_cond_true (congrArg (fun b => some (Value.bool b)) (show _ = true from by first | assumption | (rw [Bool.not_eq_true']; exact decide_eq_false (by omega)))) ?_
        refine at_seq_k (fun K9 hK9 => ?_)
        refine at_seq_k (fun K10 hK10 => ?_)
        refine at_region ?_
        refine at_v (ov_move rfl rfl) rfl rfl rfl ?_
        refine at_v (ov_strL rfl rfl rfl rfl) rfl rfl rfl ?_
        refine at_v (ov_move rfl rfl) rfl rfl rfl ?_
        refine at_unwanted (j := 2) rfl rfl rfl rfl ?_
        refine at_unwanted (j := 2) rfl rfl rfl rfl ?_
        refine at_unwanted (j := 2) rfl rfl rfl rfl ?_
        refine at_v (ov_pick_t rfl rfl rfl) rfl rfl rfl ?_
        refine at_nil ?_
        refine at_normal ?_
        refine hK10 _ _ _ ?_
        refine at_cond_true rfl ?_
        refine at_seq_k (fun K11 hK11 => ?_)
        refine at_region ?_
        refine at_v (ov_assign rfl rfl) rfl rfl rfl ?_
        refine at_nil ?_
        refine at_normal ?_
        refine hK11 _ _ _ ?_
        refine at_ret ?_
        refine at_then_ret ?_
        refine at_inb_ret ?_
        refine at_then_ret ?_
        refine at_end ?_
        refine at_fin (rsV rfl (res_tmp rfl)) ?_
        refine ⟨_, ⟨by simp, rfl⟩, ?_⟩
        exact fun _ s => s.finEq (ks := []) (js := [0]) rfl rfl rfl
      · refine at_seq_k (fun K0 hK0 => ?_)
        refine at_region ?_
        refine at_t (ot_boxA rfl rfl) rfl rfl rfl ?_
        rintro _ _ ⟨g0, rfl, rfl⟩
        refine at_v (ov_assign rfl rfl) rfl rfl rfl ?_
        refine at_nil ?_
        refine at_normal ?_
        refine hK0 _ _ _ ?_
        refine at_seq_k (fun K1 hK1 => ?_)
        refine at_region ?_
        refine at_v (ov_fieldAddr (k := 1) (r := 1) rfl rfl rfl rfl) rfl rfl rfl ?_
        refine at_v (ov_load rfl rfl rfl (fun _ s => s.ld (k := 0) rfl rfl)) rfl rfl rfl ?_
        refine at_v (ov_assign rfl rfl) rfl rfl rfl ?_
        refine at_nil ?_
        refine at_normal ?_
        refine hK1 _ _ _ ?_
        refine at_seq_k (fun K2 hK2 => ?_)
        refine at_seq_k (fun K3 hK3 => ?_)
        refine at_region ?_
        refine at_v (ov_fieldAddr (k := 0) (r := 0) rfl rfl rfl rfl) rfl rfl rfl ?_
        refine at_v (ov_load rfl rfl rfl (fun _ s => s.ld (k := 0) rfl rfl)) rfl rfl rfl ?_
        refine at_nil ?_
        refine at_normal ?_
        refine hK3 _ _ _ ?_
        refine at_block ?_
        refine at_seq_k (fun K4 hK4 => ?_)
        refine at_seq_k (fun K5 hK5 => ?_)
        refine at_region ?_
        refine at_v (ov_int rfl rfl rfl rfl) rfl rfl rfl ?_
        refine at_v (ov_assign rfl rfl) rfl rfl rfl ?_
        refine at_nil ?_
        refine at_normal ?_
        refine hK5 _ _ _ ?_
        refine at_cond_false (congrArg (fun b => some (Value.bool b)) (show _ = false from decide_eq_false (by omega))) ?_
        refine at_region ?_
        refine at_v (ov_int rfl rfl rfl rfl) rfl rfl rfl ?_
        refine at_v (ov_assign rfl rfl) rfl rfl rfl ?_
        refine at_nil ?_
        refine at_normal ?_
        refine hK4 _ _ _ ?_
        refine at_cond_false (congrArg (fun b => some (Value.bool b)) (show _ = false from decide_eq_false (by omega))) ?_
        refine at_seq_k (fun K6 hK6 => ?_)
        refine at_region ?_
        refine at_v (ov_int rfl rfl rfl rfl) rfl rfl rfl ?_
        refine at_v (ov_assign rfl rfl) rfl rfl rfl ?_
        refine at_nil ?_
        refine at_normal ?_
        refine hK6 _ _ _ ?_
        refine at_cond_false (congrArg (fun b => some (Value.bool b)) (show _ = false from decide_eq_false (by omega))) ?_
        refine at_seq_k (fun K7 hK7 => ?_)
        refine at_seq_k (fun K8 hK8 => ?_)
        refine at_region ?_
        refine at_v (ov_int rfl rfl rfl rfl) rfl rfl rfl ?_
        refine at_v (ov_assign rfl rfl) rfl rfl rfl ?_
        refine at_nil ?_
        refine at_normal ?_
        refine hK8 _ _ _ ?_
        refine at_cond_false (congrArg (fun b => some (Value.bool b)) (show _ = false from by first | assumption | (rw [Bool.not_eq_false']; exact decide_eq_true (by omega)))) ?_
        refine at_seq_k (fun K9 hK9 => ?_)
        refine at_region ?_
        refine at_v (ov_int rfl rfl rfl rfl) rfl rfl rfl ?_
        refine at_v (ov_assign rfl rfl) rfl rfl rfl ?_
        refine at_nil ?_
        refine at_normal ?_
        refine hK9 _ _ _ ?_
        refine at_cond_true (congrArg (fun b => some (Value.bool b)) (show _ = true from by first | assumption | (rw [Bool.not_eq_true']; exact decide_eq_false (by omega)))) ?_
        refine at_skip ?_
        refine at_normal ?_
        refine hK7 _ _ _ ?_
        refine at_cond_true (congrArg (fun b => some (Value.bool b)) (show _ = true from by first | assumption | (rw [Bool.not_eq_true']; exact decide_eq_false (by omega)))) ?_
        refine at_seq_k (fun K10 hK10 => ?_)
        refine at_seq_k (fun K11 hK11 => ?_)
        refine at_region ?_
        refine at_v (ov_move rfl rfl) rfl rfl rfl ?_
        refine at_v (ov_strL rfl rfl rfl rfl) rfl rfl rfl ?_
        refine at_v (ov_move rfl rfl) rfl rfl rfl ?_
        refine at_unwanted (j := 2) rfl rfl rfl rfl ?_
        refine at_unwanted (j := 2) rfl rfl rfl rfl ?_
        refine at_unwanted (j := 2) rfl rfl rfl rfl ?_
        refine at_v (ov_pick_t rfl rfl rfl) rfl rfl rfl ?_
        refine at_nil ?_
        refine at_normal ?_
        refine hK11 _ _ _ ?_
        refine at_cond_true rfl ?_
        refine at_seq_k (fun K12 hK12 => ?_)
        refine at_region ?_
        refine at_v (ov_assign rfl rfl) rfl rfl rfl ?_
        refine at_nil ?_
        refine at_normal ?_
        refine hK12 _ _ _ ?_
        refine at_ret ?_
        refine at_then_ret ?_
        refine at_inb_ret ?_
        refine at_then_ret ?_
        refine at_end ?_
        refine at_fin (rsV rfl (res_tmp rfl)) ?_
        refine ⟨_, ⟨by simp, rfl⟩, ?_⟩
        exact fun _ s => s.finEq (ks := []) (js := [0]) rfl rfl rfl
      · refine at_seq_k (fun K0 hK0 => ?_)
        refine at_region ?_
        refine at_t (ot_boxA rfl rfl) rfl rfl rfl ?_
        rintro _ _ ⟨g0, rfl, rfl⟩
        refine at_v (ov_assign rfl rfl) rfl rfl rfl ?_
        refine at_nil ?_
        refine at_normal ?_
        refine hK0 _ _ _ ?_
        refine at_seq_k (fun K1 hK1 => ?_)
        refine at_region ?_
        refine at_v (ov_fieldAddr (k := 1) (r := 1) rfl rfl rfl rfl) rfl rfl rfl ?_
        refine at_v (ov_load rfl rfl rfl (fun _ s => s.ld (k := 0) rfl rfl)) rfl rfl rfl ?_
        refine at_v (ov_assign rfl rfl) rfl rfl rfl ?_
        refine at_nil ?_
        refine at_normal ?_
        refine hK1 _ _ _ ?_
        refine at_seq_k (fun K2 hK2 => ?_)
        refine at_seq_k (fun K3 hK3 => ?_)
        refine at_region ?_
        refine at_v (ov_fieldAddr (k := 0) (r := 0) rfl rfl rfl rfl) rfl rfl rfl ?_
        refine at_v (ov_load rfl rfl rfl (fun _ s => s.ld (k := 0) rfl rfl)) rfl rfl rfl ?_
        refine at_nil ?_
        refine at_normal ?_
        refine hK3 _ _ _ ?_
        refine at_block ?_
        refine at_seq_k (fun K4 hK4 => ?_)
        refine at_seq_k (fun K5 hK5 => ?_)
        refine at_region ?_
        refine at_v (ov_int rfl rfl rfl rfl) rfl rfl rfl ?_
        refine at_v (ov_assign rfl rfl) rfl rfl rfl ?_
        refine at_nil ?_
        refine at_normal ?_
        refine hK5 _ _ _ ?_
        refine at_cond_false (congrArg (fun b => some (Value.bool b)) (show _ = false from decide_eq_false (by omega))) ?_
        refine at_region ?_
        refine at_v (ov_int rfl rfl rfl rfl) rfl rfl rfl ?_
        refine at_v (ov_assign rfl rfl) rfl rfl rfl ?_
        refine at_nil ?_
        refine at_normal ?_
        refine hK4 _ _ _ ?_
        refine at_cond_false (congrArg (fun b => some (Value.bool b)) (show _ = false from decide_eq_false (by omega))) ?_
        refine at_seq_k (fun K6 hK6 => ?_)
        refine at_region ?_
        refine at_v (ov_int rfl rfl rfl rfl) rfl rfl rfl ?_
        refine at_v (ov_assign rfl rfl) rfl rfl rfl ?_
        refine at_nil ?_
        refine at_normal ?_
        refine hK6 _ _ _ ?_
        refine at_cond_false (congrArg (fun b => some (Value.bool b)) (show _ = false from decide_eq_false (by omega))) ?_
        refine at_seq_k (fun K7 hK7 => ?_)
        refine at_seq_k (fun K8 hK8 => ?_)
        refine at_region ?_
        refine at_v (ov_int rfl rfl rfl rfl) rfl rfl rfl ?_
        refine at_v (ov_assign rfl rfl) rfl rfl rfl ?_
        refine at_nil ?_
        refine at_normal ?_
        refine hK8 _ _ _ ?_
        refine at_cond_false (congrArg (fun b => some (Value.bool b)) (show _ = false from by first | assumption | (rw [Bool.not_eq_false']; exact decide_eq_true (by omega)))) ?_
        refine at_seq_k (fun K9 hK9 => ?_)
        refine at_region ?_
        refine at_v (ov_int rfl rfl rfl rfl) rfl rfl rfl ?_
        refine at_v (ov_assign rfl rfl) rfl rfl rfl ?_
        refine at_nil ?_
        refine at_normal ?_
        refine hK9 _ _ _ ?_
        refine at_cond_false (congrArg (fun b => some (Value.bool b)) (show _ = false from by first | assumption | (rw [Bool.not_eq_false']; exact decide_eq_true (by omega)))) ?_
        refine at_region ?_
        refine at_v (ov_int rfl rfl rfl rfl) rfl rfl rfl ?_
        refine at_v (ov_assign rfl rfl) rfl rfl rfl ?_
        refine at_nil ?_
        refine at_normal ?_
        refine hK7 _ _ _ ?_
        refine at_cond_true (congrArg (fun b => some (Value.bool b)) (show _ = true from by first | assumption | (rw [Bool.not_eq_true']; exact decide_eq_false (by omega)))) ?_
        refine at_seq_k (fun K10 hK10 => ?_)
        refine at_seq_k (fun K11 hK11 => ?_)
        refine at_region ?_
        refine at_v (ov_move rfl rfl) rfl rfl rfl ?_
        refine at_v (ov_strL rfl rfl rfl rfl) rfl rfl rfl ?_
        refine at_v (ov_move rfl rfl) rfl rfl rfl ?_
        refine at_unwanted (j := 2) rfl rfl rfl rfl ?_
        refine at_unwanted (j := 2) rfl rfl rfl rfl ?_
        refine at_unwanted (j := 2) rfl rfl rfl rfl ?_
        refine at_v (ov_pick_t rfl rfl rfl) rfl rfl rfl ?_
        refine at_nil ?_
        refine at_normal ?_
        refine hK11 _ _ _ ?_
        refine at_cond_true rfl ?_
        refine at_seq_k (fun K12 hK12 => ?_)
        refine at_region ?_
        refine at_v (ov_assign rfl rfl) rfl rfl rfl ?_
        refine at_nil ?_
        refine at_normal ?_
        refine hK12 _ _ _ ?_
        refine at_ret ?_
        refine at_then_ret ?_
        refine at_inb_ret ?_
        refine at_then_ret ?_
        refine at_end ?_
        refine at_fin (rsV rfl (res_tmp rfl)) ?_
        refine ⟨_, ⟨by simp, rfl⟩, ?_⟩
        exact fun _ s => s.finEq (ks := []) (js := [0]) rfl rfl rfl
    | cons b r =>
      have hi6 : decide (b :: r = ([] : BL)) = false := by simp
      have hlr : r.length ≤ 9999 := by simp only [List.length_cons] at hl; omega
      by_cases hr : remarkL (b :: r) = 0
      · have hi7 : (!decide (remarkL (b :: r) = 0)) = false := by simp [hr]
        have e1 : (if b :: r = [] ∨ remarkL (b :: r) ≠ 0 then false else decide ((oneL (b :: r)).1 = (k, b :: r)) && decide ((oneL (b :: r)).2 = ((b :: r).length : Nat))) = (decide ((oneL (b :: r)).1 = (k, b :: r)) && decide ((oneL (b :: r)).2 = ((b :: r).length : Nat))) := by
          rw [if_neg (by simp [hr])]
        rw [e1]
        by_cases hu : (oneL (b :: r)).1 = (k, b :: r)
        · have hi8 : (decide ((oneL (b :: r)).1.1 = k) && decide ((⟨(oneL (b :: r)).1.2.toArray⟩ : ByteArray) = ⟨(b :: r).toArray⟩)) = true := by rw [hu]; simp
          rcases hk with hk1 | ⟨hk1, hk2⟩ | ⟨hk1, hk2, hk3⟩
          · refine at_seq_k (fun K0 hK0 => ?_)
            refine at_region ?_
            refine at_t (ot_boxA rfl rfl) rfl rfl rfl ?_
            rintro _ _ ⟨g0, rfl, rfl⟩
            refine at_v (ov_assign rfl rfl) rfl rfl rfl ?_
            refine at_nil ?_
            refine at_normal ?_
            refine hK0 _ _ _ ?_
            refine at_seq_k (fun K1 hK1 => ?_)
            refine at_region ?_
            refine at_v (ov_fieldAddr (k := 1) (r := 1) rfl rfl rfl rfl) rfl rfl rfl ?_
            refine at_v (ov_load rfl rfl rfl (fun _ s => s.ld (k := 0) rfl rfl)) rfl rfl rfl ?_
            refine at_v (ov_assign rfl rfl) rfl rfl rfl ?_
            refine at_nil ?_
            refine at_normal ?_
            refine hK1 _ _ _ ?_
            refine at_seq_k (fun K2 hK2 => ?_)
            refine at_seq_k (fun K3 hK3 => ?_)
            refine at_region ?_
            refine at_v (ov_fieldAddr (k := 0) (r := 0) rfl rfl rfl rfl) rfl rfl rfl ?_
            refine at_v (ov_load rfl rfl rfl (fun _ s => s.ld (k := 0) rfl rfl)) rfl rfl rfl ?_
            refine at_nil ?_
            refine at_normal ?_
            refine hK3 _ _ _ ?_
            refine at_block ?_
            refine at_seq_k (fun K4 hK4 => ?_)
            refine at_seq_k (fun K5 hK5 => ?_)
            refine at_region ?_
            refine at_v (ov_int rfl rfl rfl rfl) rfl rfl rfl ?_
            refine at_v (ov_assign rfl rfl) rfl rfl rfl ?_
            refine at_nil ?_
            refine at_normal ?_
            refine hK5 _ _ _ ?_
            refine at_cond_false (congrArg (fun b => some (Value.bool b)) (show _ = false from decide_eq_false (by omega))) ?_
            refine at_region ?_
            refine at_v (ov_int rfl rfl rfl rfl) rfl rfl rfl ?_
            refine at_v (ov_assign rfl rfl) rfl rfl rfl ?_
            refine at_nil ?_
            refine at_normal ?_
            refine hK4 _ _ _ ?_
            refine at_cond_false (congrArg (fun b => some (Value.bool b)) (show _ = false from decide_eq_false (by omega))) ?_
            refine at_seq_k (fun K6 hK6 => ?_)
            refine at_region ?_
            refine at_v (ov_int rfl rfl rfl rfl) rfl rfl rfl ?_
            refine at_v (ov_assign rfl rfl) rfl rfl rfl ?_
            refine at_nil ?_
            refine at_normal ?_
            refine hK6 _ _ _ ?_
            refine at_cond_false (congrArg (fun b => some (Value.bool b)) (show _ = false from decide_eq_false (by omega))) ?_
            refine at_seq_k (fun K7 hK7 => ?_)
            refine at_seq_k (fun K8 hK8 => ?_)
            refine at_region ?_
            refine at_v (ov_int rfl rfl rfl rfl) rfl rfl rfl ?_
            refine at_v (ov_assign rfl rfl) rfl rfl rfl ?_
            refine at_nil ?_
            refine at_normal ?_
            refine hK8 _ _ _ ?_
            refine at_cond_true (congrArg (fun b => some (Value.bool b)) (show _ = true from by first | assumption | (rw [Bool.not_eq_true']; exact decide_eq_false (by omega)))) ?_
            refine at_skip ?_
            refine at_normal ?_
            refine hK7 _ _ _ ?_
            refine at_cond_true (congrArg (fun b => some (Value.bool b)) (show _ = true from by first | assumption | (rw [Bool.not_eq_true']; exact decide_eq_false (by omega)))) ?_
            refine at_seq_k (fun K9 hK9 => ?_)
            refine at_seq_k (fun K10 hK10 => ?_)
            refine at_region ?_
            refine at_v (ov_move rfl rfl) rfl rfl rfl ?_
            refine at_v (ov_strL rfl rfl rfl rfl) rfl rfl rfl ?_
            refine at_v (ov_move rfl rfl) rfl rfl rfl ?_
            refine at_wanted (j := 2) rfl ?_
            refine at_v (ov_move rfl rfl) rfl rfl rfl ?_
            refine at_wanted (j := 2) rfl ?_
            refine at_t (ot_call (ks := []) rfl rfl rfl Tryd.call30 rfl (T30 _ _ (by first | assumption | rfl | omega | decide | (simp; done) | (simp at *; omega)) (by first | assumption | rfl | omega | decide | (simp; done) | (simp at *; omega))) rfl) rfl rfl rfl ?_
            rintro v0 _ ⟨m0, hp0, rfl⟩
            obtain ⟨rfl, rfl⟩ := hp0
            simp only [List.cons_append, List.nil_append, splice, spliceL]
            refine at_wanted (j := 2) rfl ?_
            refine at_v (ov_int rfl rfl rfl rfl) rfl rfl rfl ?_
            refine at_v (ov_pick_f rfl rfl rfl) rfl rfl rfl ?_
            refine at_nil ?_
            refine at_normal ?_
            refine hK10 _ _ _ ?_
            refine at_cond_false (congrArg (fun b => some (Value.bool b)) (show _ = false from by first | assumption | (rw [Bool.not_eq_false']; exact decide_eq_true (by omega)))) ?_
            refine at_skip ?_
            refine at_normal ?_
            refine hK9 _ _ _ ?_
            refine at_seq_k (fun K11 hK11 => ?_)
            refine at_region ?_
            refine at_v (ov_move rfl rfl) rfl rfl rfl ?_
            refine at_t (ot_call (ks := []) rfl rfl rfl Tryd.call31 rfl (T31 _ _ _ (by first | assumption | rfl | omega | decide | (simp; done) | (simp at *; omega)) (by first | assumption | rfl | omega | decide | (simp; done) | (simp at *; omega))) rfl) rfl rfl rfl ?_
            rintro v0 _ ⟨m0, hp0, rfl⟩
            obtain ⟨rfl, rfl⟩ := hp0
            simp only [List.cons_append, List.nil_append, splice, spliceL]
            refine at_v (ov_move rfl rfl) rfl rfl rfl ?_
            refine at_v (ov_extract rfl rfl rfl) rfl rfl rfl ?_
            refine at_v (ov_extract rfl rfl rfl) rfl rfl rfl ?_
            refine at_t (ot_allocA rfl Tryd.zeroValue24) rfl rfl rfl ?_
            rintro _ _ ⟨g1, rfl, rfl⟩
            refine at_t0 (ot_store (k := 0) rfl rfl rfl rfl rfl rfl rfl) rfl rfl ?_
            rintro _ _ ⟨rfl, rfl⟩
            simp only [setAt, splice, spliceL, Value.cells]
            refine at_v (ov_assign rfl rfl) rfl rfl rfl ?_
            refine at_nil ?_
            refine at_normal ?_
            refine hK11 _ _ _ ?_
            refine at_seq_k (fun K12 hK12 => ?_)
            refine at_region ?_
            refine at_v (ov_loadS (cs := [_, _]) rfl rfl rfl rfl (fun _ s => s.lds (k := 0) rfl ⟨rfl, rfl, trivial⟩)) rfl rfl rfl ?_
            refine at_v (ov_loadS (cs := [_, _]) rfl rfl rfl rfl (fun _ s => s.lds (k := 1) rfl ⟨rfl, rfl, trivial⟩)) rfl rfl rfl ?_
            refine at_v (ov_eqS rfl (by kernel_rfl) rfl rfl rfl rfl) rfl rfl rfl ?_
            refine at_v (ov_move rfl rfl) rfl rfl rfl ?_
            refine at_reval 43 (.bool true) rfl (congrArg Value.bool (by first | assumption | (rw [Bool.not_eq_true']; exact decide_eq_false (by omega)))) ?_
            refine at_wanted (j := 3) rfl ?_
            refine at_v (ov_move rfl rfl) rfl rfl rfl ?_
            refine at_wanted (j := 3) rfl ?_
            refine at_v (ov_move rfl rfl) rfl rfl rfl ?_
            refine at_wanted (j := 3) rfl ?_
            refine at_v (ov_len_strL rfl Tryd.underlying9 rfl) rfl rfl rfl ?_
            refine at_wanted (j := 3) rfl ?_
            refine at_v (ov_int rfl rfl rfl rfl) rfl rfl rfl ?_
            refine at_v (ov_pick_t rfl rfl rfl) rfl rfl rfl ?_
            refine at_v (ov_assign rfl rfl) rfl rfl rfl ?_
            refine at_nil ?_
            refine at_normal ?_
            refine hK12 _ _ _ ?_
            refine at_ret ?_
            refine at_inb_ret ?_
            refine at_then_ret ?_
            refine at_end ?_
            refine at_fin (rsV rfl (res_tmp rfl)) ?_
            refine ⟨_, ⟨by simp [hu], rfl⟩, ?_⟩
            exact fun _ s => s.finEq (ks := []) (js := [0, 0]) rfl rfl rfl
          · refine at_seq_k (fun K0 hK0 => ?_)
            refine at_region ?_
            refine at_t (ot_boxA rfl rfl) rfl rfl rfl ?_
            rintro _ _ ⟨g0, rfl, rfl⟩
            refine at_v (ov_assign rfl rfl) rfl rfl rfl ?_
            refine at_nil ?_
            refine at_normal ?_
            refine hK0 _ _ _ ?_
            refine at_seq_k (fun K1 hK1 => ?_)
            refine at_region ?_
            refine at_v (ov_fieldAddr (k := 1) (r := 1) rfl rfl rfl rfl) rfl rfl rfl ?_
            refine at_v (ov_load rfl rfl rfl (fun _ s => s.ld (k := 0) rfl rfl)) rfl rfl rfl ?_
            refine at_v (ov_assign rfl rfl) rfl rfl rfl ?_
            refine at_nil ?_
            refine at_normal ?_
            refine hK1 _ _ _ ?_
            refine at_seq_k (fun K2 hK2 => ?_)
            refine at_seq_k (fun K3 hK3 => ?_)
            refine at_region ?_
            refine at_v (ov_fieldAddr (k := 0) (r := 0) rfl rfl rfl rfl) rfl rfl rfl ?_
            refine at_v (ov_load rfl rfl rfl (fun _ s => s.ld (k := 0) rfl rfl)) rfl rfl rfl ?_
            refine at_nil ?_
            refine at_normal ?_
            refine hK3 _ _ _ ?_
            refine at_block ?_
            refine at_seq_k (fun K4 hK4 => ?_)
            refine at_seq_k (fun K5 hK5 => ?_)
            refine at_region ?_
            refine at_v (ov_int rfl rfl rfl rfl) rfl rfl rfl ?_
            refine at_v (ov_assign rfl rfl) rfl rfl rfl ?_
            refine at_nil ?_
            refine at_normal ?_
            refine hK5 _ _ _ ?_
            refine at_cond_false (congrArg (fun b => some (Value.bool b)) (show _ = false from decide_eq_false (by omega))) ?_
            refine at_region ?_
            refine at_v (ov_int rfl rfl rfl rfl) rfl rfl rfl ?_
            refine at_v (ov_assign rfl rfl) rfl rfl rfl ?_
            refine at_nil ?_
            refine at_normal ?_
            refine hK4 _ _ _ ?_
            refine at_cond_false (congrArg (fun b => some (Value.bool b)) (show _ = false from decide_eq_false (by omega))) ?_
            refine at_seq_k (fun K6 hK6 => ?_)
            refine at_region ?_
            refine at_v (ov_int rfl rfl rfl rfl) rfl rfl rfl ?_
            refine at_v (ov_assign rfl rfl) rfl rfl rfl ?_
            refine at_nil ?_
            refine at_normal ?_
            refine hK6 _ _ _ ?_
            refine at_cond_false (congrArg (fun b => some (Value.bool b)) (show _ = false from decide_eq_false (by omega))) ?_
            refine at_seq_k (fun K7 hK7 => ?_)
            refine at_seq_k (fun K8 hK8 => ?_)
            refine at_region ?_
            refine at_v (ov_int rfl rfl rfl rfl) rfl rfl rfl ?_
            refine at_v (ov_assign rfl rfl) rfl rfl rfl ?_
            refine at_nil ?_
            refine at_normal ?_
            refine hK8 _ _ _ ?_
            refine at_cond_false (congrArg (fun b => some (Value.bool b)) (show _ = false from by first | assumption | (rw [Bool.not_eq_false']; exact decide_eq_true (by omega)))) ?_
            refine at_seq_k (fun K9 hK9 => ?_)
            refine at_region ?_
            refine at_v (ov_int rfl rfl rfl rfl) rfl rfl rfl ?_
            refine at_v (ov_assign rfl rfl) rfl rfl rfl ?_
            refine at_nil ?_
            refine at_normal ?_
            refine hK9 _ _ _ ?_
            refine at_cond_true (congrArg (fun b => some (Value.bool b)) (show _ = true from by first | assumption | (rw [Bool.not_eq_true']; exact decide_eq_false (by omega)))) ?_
            refine at_skip ?_
            refine at_normal ?_
            refine hK7 _ _ _ ?_
            refine at_cond_true (congrArg (fun b => some (Value.bool b)) (show _ = true from by first | assumption | (rw [Bool.not_eq_true']; exact decide_eq_false (by omega)))) ?_
            refine at_seq_k (fun K10 hK10 => ?_)
            refine at_seq_k (fun K11 hK11 => ?_)
            refine at_region ?_
            refine at_v (ov_move rfl rfl) rfl rfl rfl ?_
            refine at_v (ov_strL rfl rfl rfl rfl) rfl rfl rfl ?_
            refine at_v (ov_move rfl rfl) rfl rfl rfl ?_
            refine at_wanted (j := 2) rfl ?_
            refine at_v (ov_move rfl rfl) rfl rfl rfl ?_
            refine at_wanted (j := 2) rfl ?_
            refine at_t (ot_call (ks := []) rfl rfl rfl Tryd.call30 rfl (T30 _ _ (by first | assumption | rfl | omega | decide | (simp; done) | (simp at *; omega)) (by first | assumption | rfl | omega | decide | (simp; done) | (simp at *; omega))) rfl) rfl rfl rfl ?_
            rintro v0 _ ⟨m0, hp0, rfl⟩
            obtain ⟨rfl, rfl⟩ := hp0
            simp only [List.cons_append, List.nil_append, splice, spliceL]
            refine at_wanted (j := 2) rfl ?_
            refine at_v (ov_int rfl rfl rfl rfl) rfl rfl rfl ?_
            refine at_v (ov_pick_f rfl rfl rfl) rfl rfl rfl ?_
            refine at_nil ?_
            refine at_normal ?_
            refine hK11 _ _ _ ?_
            refine at_cond_false (congrArg (fun b => some (Value.bool b)) (show _ = false from by first | assumption | (rw [Bool.not_eq_false']; exact decide_eq_true (by omega)))) ?_
            refine at_skip ?_
            refine at_normal ?_
            refine hK10 _ _ _ ?_
            refine at_seq_k (fun K12 hK12 => ?_)
            refine at_region ?_
            refine at_v (ov_move rfl rfl) rfl rfl rfl ?_
            refine at_t (ot_call (ks := []) rfl rfl rfl Tryd.call31 rfl (T31 _ _ _ (by first | assumption | rfl | omega | decide | (simp; done) | (simp at *; omega)) (by first | assumption | rfl | omega | decide | (simp; done) | (simp at *; omega))) rfl) rfl rfl rfl ?_
            rintro v0 _ ⟨m0, hp0, rfl⟩
            obtain ⟨rfl, rfl⟩ := hp0
            simp only [List.cons_append, List.nil_append, splice, spliceL]
            refine at_v (ov_move rfl rfl) rfl rfl rfl ?_
            refine at_v (ov_extract rfl rfl rfl) rfl rfl rfl ?_
            refine at_v (ov_extract rfl rfl rfl) rfl rfl rfl ?_
            refine at_t (ot_allocA rfl Tryd.zeroValue24) rfl rfl rfl ?_
            rintro _ _ ⟨g1, rfl, rfl⟩
            refine at_t0 (ot_store (k := 0) rfl rfl rfl rfl rfl rfl rfl) rfl rfl ?_
            rintro _ _ ⟨rfl, rfl⟩
            simp only [setAt, splice, spliceL, Value.cells]
            refine at_v (ov_assign rfl rfl) rfl rfl rfl ?_
            refine at_nil ?_
            refine at_normal ?_
            refine hK12 _ _ _ ?_
            refine at_seq_k (fun K13 hK13 => ?_)
            refine at_region ?_
            refine at_v (ov_loadS (cs := [_, _]) rfl rfl rfl rfl (fun _ s => s.lds (k := 0) rfl ⟨rfl, rfl, trivial⟩)) rfl rfl rfl ?_
            refine at_v (ov_loadS (cs := [_, _]) rfl rfl rfl rfl (fun _ s => s.lds (k := 1) rfl ⟨rfl, rfl, trivial⟩)) rfl rfl rfl ?_
            refine at_v (ov_eqS rfl (by kernel_rfl) rfl rfl rfl rfl) rfl rfl rfl ?_
            refine at_v (ov_move rfl rfl) rfl rfl rfl ?_
            refine at_reval 43 (.bool true) rfl (congrArg Value.bool (by first | assumption | (rw [Bool.not_eq_true']; exact decide_eq_false (by omega)))) ?_
            refine at_wanted (j := 3) rfl ?_
            refine at_v (ov_move rfl rfl) rfl rfl rfl ?_
            refine at_wanted (j := 3) rfl ?_
            refine at_v (ov_move rfl rfl) rfl rfl rfl ?_
            refine at_wanted (j := 3) rfl ?_
            refine at_v (ov_len_strL rfl Tryd.underlying9 rfl) rfl rfl rfl ?_
            refine at_wanted (j := 3) rfl ?_
            refine at_v (ov_int rfl rfl rfl rfl) rfl rfl rfl ?_
            refine at_v (ov_pick_t rfl rfl rfl) rfl rfl rfl ?_
            refine at_v (ov_assign rfl rfl) rfl rfl rfl ?_
            refine at_nil ?_
            refine at_normal ?_
            refine hK13 _ _ _ ?_
            refine at_ret ?_
            refine at_inb_ret ?_
            refine at_then_ret ?_
            refine at_end ?_
            refine at_fin (rsV rfl (res_tmp rfl)) ?_
            refine ⟨_, ⟨by simp [hu], rfl⟩, ?_⟩
            exact fun _ s => s.finEq (ks := []) (js := [0, 0]) rfl rfl rfl
          · refine at_seq_k (fun K0 hK0 => ?_)
            refine at_region ?_
            refine at_t (ot_boxA rfl rfl) rfl rfl rfl ?_
            rintro _ _ ⟨g0, rfl, rfl⟩
            refine at_v (ov_assign rfl rfl) rfl rfl rfl ?_
            refine at_nil ?_
            refine at_normal ?_
            refine hK0 _ _ _ ?_
            refine at_seq_k (fun K1 hK1 => ?_)
            refine at_region ?_
            refine at_v (ov_fieldAddr (k := 1) (r := 1) rfl rfl rfl rfl) rfl rfl rfl ?_
            refine at_v (ov_load rfl rfl rfl (fun _ s => s.ld (k := 0) rfl rfl)) rfl rfl rfl ?_
            refine at_v (ov_assign rfl rfl) rfl rfl rfl ?_
            refine at_nil ?_
            refine at_normal ?_
            refine hK1 _ _ _ ?_
            refine at_seq_k (fun K2 hK2 => ?_)
            refine at_seq_k (fun K3 hK3 => ?_)
            refine at_region ?_
            refine at_v (ov_fieldAddr (k := 0) (r := 0) rfl rfl rfl rfl) rfl rfl rfl ?_
            refine at_v (ov_load rfl rfl rfl (fun _ s => s.ld (k := 0) rfl rfl)) rfl rfl rfl ?_
            refine at_nil ?_
            refine at_normal ?_
            refine hK3 _ _ _ ?_
            refine at_block ?_
            refine at_seq_k (fun K4 hK4 => ?_)
            refine at_seq_k (fun K5 hK5 => ?_)
            refine at_region ?_
            refine at_v (ov_int rfl rfl rfl rfl) rfl rfl rfl ?_
            refine at_v (ov_assign rfl rfl) rfl rfl rfl ?_
            refine at_nil ?_
            refine at_normal ?_
            refine hK5 _ _ _ ?_
            refine at_cond_false (congrArg (fun b => some (Value.bool b)) (show _ = false from decide_eq_false (by omega))) ?_
            refine at_region ?_
            refine at_v (ov_int rfl rfl rfl rfl) rfl rfl rfl ?_
            refine at_v (ov_assign rfl rfl) rfl rfl rfl ?_
            refine at_nil ?_
            refine at_normal ?_
            refine hK4 _ _ _ ?_
            refine at_cond_false (congrArg (fun b => some (Value.bool b)) (show _ = false from decide_eq_false (by omega))) ?_
            refine at_seq_k (fun K6 hK6 => ?_)
            refine at_region ?_
            refine at_v (ov_int rfl rfl rfl rfl) rfl rfl rfl ?_
            refine at_v (ov_assign rfl rfl) rfl rfl rfl ?_
            refine at_nil ?_
            refine at_normal ?_
            refine hK6 _ _ _ ?_
            refine at_cond_false (congrArg (fun b => some (Value.bool b)) (show _ = false from decide_eq_false (by omega))) ?_
            refine at_seq_k (fun K7 hK7 => ?_)
            refine at_seq_k (fun K8 hK8 => ?_)
            refine at_region ?_
            refine at_v (ov_int rfl rfl rfl rfl) rfl rfl rfl ?_
            refine at_v (ov_assign rfl rfl) rfl rfl rfl ?_
            refine at_nil ?_
            refine at_normal ?_
            refine hK8 _ _ _ ?_
            refine at_cond_false (congrArg (fun b => some (Value.bool b)) (show _ = false from by first | assumption | (rw [Bool.not_eq_false']; exact decide_eq_true (by omega)))) ?_
            refine at_seq_k (fun K9 hK9 => ?_)
            refine at_region ?_
            refine at_v (ov_int rfl rfl rfl rfl) rfl rfl rfl ?_
            refine at_v (ov_assign rfl rfl) rfl rfl rfl ?_
            refine at_nil ?_
            refine at_normal ?_
            refine hK9 _ _ _ ?_
            refine at_cond_false (congrArg (fun b => some (Value.bool b)) (show _ = false from by first | assumption | (rw [Bool.not_eq_false']; exact decide_eq_true (by omega)))) ?_
            refine at_region ?_
            refine at_v (ov_int rfl rfl rfl rfl) rfl rfl rfl ?_
            refine at_v (ov_assign rfl rfl) rfl rfl rfl ?_
            refine at_nil ?_
            refine at_normal ?_
            refine hK7 _ _ _ ?_
            refine at_cond_true (congrArg (fun b => some (Value.bool b)) (show _ = true from by first | assumption | (rw [Bool.not_eq_true']; exact decide_eq_false (by omega)))) ?_
            refine at_seq_k (fun K10 hK10 => ?_)
            refine at_seq_k (fun K11 hK11 => ?_)
            refine at_region ?_
            refine at_v (ov_move rfl rfl) rfl rfl rfl ?_
            refine at_v (ov_strL rfl rfl rfl rfl) rfl rfl rfl ?_
            refine at_v (ov_move rfl rfl) rfl rfl rfl ?_
            refine at_wanted (j := 2) rfl ?_
            refine at_v (ov_move rfl rfl) rfl rfl rfl ?_
            refine at_wanted (j := 2) rfl ?_
            refine at_t (ot_call (ks := []) rfl rfl rfl Tryd.call30 rfl (T30 _ _ (by first | assumption | rfl | omega | decide | (simp; done) | (simp at *; omega)) (by first | assumption | rfl | omega | decide | (simp; done) | (simp at *; omega))) rfl) rfl rfl rfl ?_
            rintro v0 _ ⟨m0, hp0, rfl⟩
            obtain ⟨rfl, rfl⟩ := hp0
            simp only [List.cons_append, List.nil_append, splice, spliceL]
            refine at_wanted (j := 2) rfl ?_
            refine at_v (ov_int rfl rfl rfl rfl) rfl rfl rfl ?_
            refine at_v (ov_pick_f rfl rfl rfl) rfl rfl rfl ?_
            refine at_nil ?_
            refine at_normal ?_
            refine hK11 _ _ _ ?_
            refine at_cond_false (congrArg (fun b => some (Value.bool b)) (show _ = false from by first | assumption | (rw [Bool.not_eq_false']; exact decide_eq_true (by omega)))) ?_
            refine at_skip ?_
            refine at_normal ?_
            refine hK10 _ _ _ ?_
            refine at_seq_k (fun K12 hK12 => ?_)
            refine at_region ?_
            refine at_v (ov_move rfl rfl) rfl rfl rfl ?_
            refine at_t (ot_call (ks := []) rfl rfl rfl Tryd.call31 rfl (T31 _ _ _ (by first | assumption | rfl | omega | decide | (simp; done) | (simp at *; omega)) (by first | assumption | rfl | omega | decide | (simp; done) | (simp at *; omega))) rfl) rfl rfl rfl ?_
            rintro v0 _ ⟨m0, hp0, rfl⟩
            obtain ⟨rfl, rfl⟩ := hp0
            simp only [List.cons_append, List.nil_append, splice, spliceL]
            refine at_v (ov_move rfl rfl) rfl rfl rfl ?_
            refine at_v (ov_extract rfl rfl rfl) rfl rfl rfl ?_
            refine at_v (ov_extract rfl rfl rfl) rfl rfl rfl ?_
            refine at_t (ot_allocA rfl Tryd.zeroValue24) rfl rfl rfl ?_
            rintro _ _ ⟨g1, rfl, rfl⟩
            refine at_t0 (ot_store (k := 0) rfl rfl rfl rfl rfl rfl rfl) rfl rfl ?_
            rintro _ _ ⟨rfl, rfl⟩
            simp only [setAt, splice, spliceL, Value.cells]
            refine at_v (ov_assign rfl rfl) rfl rfl rfl ?_
            refine at_nil ?_
            refine at_normal ?_
            refine hK12 _ _ _ ?_
            refine at_seq_k (fun K13 hK13 => ?_)
            refine at_region ?_
            refine at_v (ov_loadS (cs := [_, _]) rfl rfl rfl rfl (fun _ s => s.lds (k := 0) rfl ⟨rfl, rfl, trivial⟩)) rfl rfl rfl ?_
            refine at_v (ov_loadS (cs := [_, _]) rfl rfl rfl rfl (fun _ s => s.lds (k := 1) rfl ⟨rfl, rfl, trivial⟩)) rfl rfl rfl ?_
            refine at_v (ov_eqS rfl (by kernel_rfl) rfl rfl rfl rfl) rfl rfl rfl ?_
            refine at_v (ov_move rfl rfl) rfl rfl rfl ?_
            refine at_reval 43 (.bool true) rfl (congrArg Value.bool (by first | assumption | (rw [Bool.not_eq_true']; exact decide_eq_false (by omega)))) ?_
            refine at_wanted (j := 3) rfl ?_
            refine at_v (ov_move rfl rfl) rfl rfl rfl ?_
            refine at_wanted (j := 3) rfl ?_
            refine at_v (ov_move rfl rfl) rfl rfl rfl ?_
            refine at_wanted (j := 3) rfl ?_
            refine at_v (ov_len_strL rfl Tryd.underlying9 rfl) rfl rfl rfl ?_
            refine at_wanted (j := 3) rfl ?_
            refine at_v (ov_int rfl rfl rfl rfl) rfl rfl rfl ?_
            refine at_v (ov_pick_t rfl rfl rfl) rfl rfl rfl ?_
            refine at_v (ov_assign rfl rfl) rfl rfl rfl ?_
            refine at_nil ?_
            refine at_normal ?_
            refine hK13 _ _ _ ?_
            refine at_ret ?_
            refine at_inb_ret ?_
            refine at_then_ret ?_
            refine at_end ?_
            refine at_fin (rsV rfl (res_tmp rfl)) ?_
            refine ⟨_, ⟨by simp [hu], rfl⟩, ?_⟩
            exact fun _ s => s.finEq (ks := []) (js := [0, 0]) rfl rfl rfl
        · have hi8 : (decide ((oneL (b :: r)).1.1 = k) && decide ((⟨(oneL (b :: r)).1.2.toArray⟩ : ByteArray) = ⟨(b :: r).toArray⟩)) = false := by
            rw [ba_dec, tok_eq (oneL (b :: r)).1 (k, b :: r)]
            exact decide_eq_false hu
          rcases hk with hk1 | ⟨hk1, hk2⟩ | ⟨hk1, hk2, hk3⟩
          · refine at_seq_k (fun K0 hK0 => ?_)
            refine at_region ?_
            refine at_t (ot_boxA rfl rfl) rfl rfl rfl ?_
            rintro _ _ ⟨g0, rfl, rfl⟩
            refine at_v (ov_assign rfl rfl) rfl rfl rfl ?_
            refine at_nil ?_
            refine at_normal ?_
            refine hK0 _ _ _ ?_
            refine at_seq_k (fun K1 hK1 => ?_)
            refine at_region ?_
            refine at_v (ov_fieldAddr (k := 1) (r := 1) rfl rfl rfl rfl) rfl rfl rfl ?_
            refine at_v (ov_load rfl rfl rfl (fun _ s => s.ld (k := 0) rfl rfl)) rfl rfl rfl ?_
            refine at_v (ov_assign rfl rfl) rfl rfl rfl ?_
            refine at_nil ?_
            refine at_normal ?_
            refine hK1 _ _ _ ?_
            refine at_seq_k (fun K2 hK2 => ?_)
            refine at_seq_k (fun K3 hK3 => ?_)
            refine at_region ?_
            refine at_v (ov_fieldAddr (k := 0) (r := 0) rfl rfl rfl rfl) rfl rfl rfl ?_
            refine at_v (ov_load rfl rfl rfl (fun _ s => s.ld (k := 0) rfl rfl)) rfl rfl rfl ?_
            refine at_nil ?_
            refine at_normal ?_
            refine hK3 _ _ _ ?_
            refine at_block ?_
            refine at_seq_k (fun K4 hK4 => ?_)
            refine at_seq_k (fun K5 hK5 => ?_)
            refine at_region ?_
            refine at_v (ov_int rfl rfl rfl rfl) rfl rfl rfl ?_
            refine at_v (ov_assign rfl rfl) rfl rfl rfl ?_
            refine at_nil ?_
            refine at_normal ?_
            refine hK5 _ _ _ ?_
            refine at_cond_false (congrArg (fun b => some (Value.bool b)) (show _ = false from decide_eq_false (by omega))) ?_
            refine at_region ?_
            refine at_v (ov_int rfl rfl rfl rfl) rfl rfl rfl ?_
            refine at_v (ov_assign rfl rfl) rfl rfl rfl ?_
            refine at_nil ?_
            refine at_normal ?_
            refine hK4 _ _ _ ?_
            refine at_cond_false (congrArg (fun b => some (Value.bool b)) (show _ = false from decide_eq_false (by omega))) ?_
            refine at_seq_k (fun K6 hK6 => ?_)
            refine at_region ?_
            refine at_v (ov_int rfl rfl rfl rfl) rfl rfl rfl ?_
            refine at_v (ov_assign rfl rfl) rfl rfl rfl ?_
            refine at_nil ?_
            refine at_normal ?_
            refine hK6 _ _ _ ?_
            refine at_cond_false (congrArg (fun b => some (Value.bool b)) (show _ = false from decide_eq_false (by omega))) ?_
            refine at_seq_k (fun K7 hK7 => ?_)
            refine at_seq_k (fun K8 hK8 => ?_)
            refine at_region ?_
            refine at_v (ov_int rfl rfl rfl rfl) rfl rfl rfl ?_
            refine at_v (ov_assign rfl rfl) rfl rfl rfl ?_
            refine at_nil ?_
            refine at_normal ?_
            refine hK8 _ _ _ ?_
            refine at_cond_true (congrArg (fun b => some (Value.bool b)) (show _ = true from by first | assumption | (rw [Bool.not_eq_true']; exact decide_eq_false (by omega)))) ?_
            refine at_skip ?_
            refine at_normal ?_
            refine hK7 _ _ _ ?_
            refine at_cond_true (congrArg (fun b => some (Value.bool b)) (show _ = true from by first | assumption | (rw [Bool.not_eq_true']; exact decide_eq_false (by omega)))) ?_
            refine at_seq_k (fun K9 hK9 => ?_)
            refine at_seq_k (fun K10 hK10 => ?_)
            refine at_region ?_
            refine at_v (ov_move rfl rfl) rfl rfl rfl ?_
            refine at_v (ov_strL rfl rfl rfl rfl) rfl rfl rfl ?_
            refine at_v (ov_move rfl rfl) rfl rfl rfl ?_
            refine at_wanted (j := 2) rfl ?_
            refine at_v (ov_move rfl rfl) rfl rfl rfl ?_
            refine at_wanted (j := 2) rfl ?_
            refine at_t (ot_call (ks := []) rfl rfl rfl Tryd.call30 rfl (T30 _ _ (by first | assumption | rfl | omega | decide | (simp; done) | (simp at *; omega)) (by first | assumption | rfl | omega | decide | (simp; done) | (simp at *; omega))) rfl) rfl rfl rfl ?_
            rintro v0 _ ⟨m0, hp0, rfl⟩
            obtain ⟨rfl, rfl⟩ := hp0
            simp only [List.cons_append, List.nil_append, splice, spliceL]
            refine at_wanted (j := 2) rfl ?_
            refine at_v (ov_int rfl rfl rfl rfl) rfl rfl rfl ?_
            refine at_v (ov_pick_f rfl rfl rfl) rfl rfl rfl ?_
            refine at_nil ?_
            refine at_normal ?_
            refine hK10 _ _ _ ?_
            refine at_cond_false (congrArg (fun b => some (Value.bool b)) (show _ = false from by first | assumption | (rw [Bool.not_eq_false']; exact decide_eq_true (by omega)))) ?_
            refine at_skip ?_
            refine at_normal ?_
            refine hK9 _ _ _ ?_
            refine at_seq_k (fun K11 hK11 => ?_)
            refine at_region ?_
            refine at_v (ov_move rfl rfl) rfl rfl rfl ?_
            refine at_t (ot_call (ks := []) rfl rfl rfl Tryd.call31 rfl (T31 _ _ _ (by first | assumption | rfl | omega | decide | (simp; done) | (simp at *; omega)) (by first | assumption | rfl | omega | decide | (simp; done) | (simp at *; omega))) rfl) rfl rfl rfl ?_
            rintro v0 _ ⟨m0, hp0, rfl⟩
            obtain ⟨rfl, rfl⟩ := hp0
            simp only [List.cons_append, List.nil_append, splice, spliceL]
            refine at_v (ov_move rfl rfl) rfl rfl rfl ?_
            refine at_v (ov_extract rfl rfl rfl) rfl rfl rfl ?_
            refine at_v (ov_extract rfl rfl rfl) rfl rfl rfl ?_
            refine at_t (ot_allocA rfl Tryd.zeroValue24) rfl rfl rfl ?_
            rintro _ _ ⟨g1, rfl, rfl⟩
            refine at_t0 (ot_store (k := 0) rfl rfl rfl rfl rfl rfl rfl) rfl rfl ?_
            rintro _ _ ⟨rfl, rfl⟩
            simp only [setAt, splice, spliceL, Value.cells]
            refine at_v (ov_assign rfl rfl) rfl rfl rfl ?_
            refine at_nil ?_
            refine at_normal ?_
            refine hK11 _ _ _ ?_
            refine at_seq_k (fun K12 hK12 => ?_)
            refine at_region ?_
            refine at_v (ov_loadS (cs := [_, _]) rfl rfl rfl rfl (fun _ s => s.lds (k := 0) rfl ⟨rfl, rfl, trivial⟩)) rfl rfl rfl ?_
            refine at_v (ov_loadS (cs := [_, _]) rfl rfl rfl rfl (fun _ s => s.lds (k := 1) rfl ⟨rfl, rfl, trivial⟩)) rfl rfl rfl ?_
            refine at_v (ov_eqS rfl (by kernel_rfl) rfl rfl rfl rfl) rfl rfl rfl ?_
            refine at_v (ov_move rfl rfl) rfl rfl rfl ?_
            refine at_reval 43 (.bool false) rfl (congrArg Value.bool (by first | assumption | (rw [Bool.not_eq_false']; exact decide_eq_true (by omega)))) ?_
            refine at_unwanted (j := 3) rfl rfl rfl rfl ?_
            refine at_unwanted (j := 3) rfl rfl rfl rfl ?_
            refine at_unwanted (j := 3) rfl rfl rfl rfl ?_
            refine at_unwanted (j := 3) rfl rfl rfl rfl ?_
            refine at_v (ov_pick_f rfl rfl rfl) rfl rfl rfl ?_
            refine at_v (ov_assign rfl rfl) rfl rfl rfl ?_
            refine at_nil ?_
            refine at_normal ?_
            refine hK12 _ _ _ ?_
            refine at_ret ?_
            refine at_inb_ret ?_
            refine at_then_ret ?_
            refine at_end ?_
            refine at_fin (rsV rfl (res_tmp rfl)) ?_
            refine ⟨_, ⟨by simp [hu], rfl⟩, ?_⟩
            exact fun _ s => s.finEq (ks := []) (js := [0, 0]) rfl rfl rfl
          · refine at_seq_k (fun K0 hK0 => ?_)
            refine at_region ?_
            refine at_t (ot_boxA rfl rfl) rfl rfl rfl ?_
            rintro _ _ ⟨g0, rfl, rfl⟩
            refine at_v (ov_assign rfl rfl) rfl rfl rfl ?_
            refine at_nil ?_
            refine at_normal ?_
            refine hK0 _ _ _ ?_
            refine at_seq_k (fun K1 hK1 => ?_)
            refine at_region ?_
            refine at_v (ov_fieldAddr (k := 1) (r := 1) rfl rfl rfl rfl) rfl rfl rfl ?_
            refine at_v (ov_load rfl rfl rfl (fun _ s => s.ld (k := 0) rfl rfl)) rfl rfl rfl ?_
            refine at_v (ov_assign rfl rfl) rfl rfl rfl ?_
            refine at_nil ?_
            refine at_normal ?_
            refine hK1 _ _ _ ?_
            refine at_seq_k (fun K2 hK2 => ?_)
            refine at_seq_k (fun K3 hK3 => ?_)
            refine at_region ?_
            refine at_v (ov_fieldAddr (k := 0) (r := 0) rfl rfl rfl rfl) rfl rfl rfl ?_
            refine at_v (ov_load rfl rfl rfl (fun _ s => s.ld (k := 0) rfl rfl)) rfl rfl rfl ?_
            refine at_nil ?_
            refine at_normal ?_
            refine hK3 _ _ _ ?_
            refine at_block ?_
            refine at_seq_k (fun K4 hK4 => ?_)
            refine at_seq_k (fun K5 hK5 => ?_)
            refine at_region ?_
            refine at_v (ov_int rfl rfl rfl rfl) rfl rfl rfl ?_
            refine at_v (ov_assign rfl rfl) rfl rfl rfl ?_
            refine at_nil ?_
            refine at_normal ?_
            refine hK5 _ _ _ ?_
            refine at_cond_false (congrArg (fun b => some (Value.bool b)) (show _ = false from decide_eq_false (by omega))) ?_
            refine at_region ?_
            refine at_v (ov_int rfl rfl rfl rfl) rfl rfl rfl ?_
            refine at_v (ov_assign rfl rfl) rfl rfl rfl ?_
            refine at_nil ?_
            refine at_normal ?_
            refine hK4 _ _ _ ?_
            refine at_cond_false (congrArg (fun b => some (Value.bool b)) (show _ = false from decide_eq_false (by omega))) ?_
            refine at_seq_k (fun K6 hK6 => ?_)
            refine at_region ?_
            refine at_v (ov_int rfl rfl rfl rfl) rfl rfl rfl ?_
            refine at_v (ov_assign rfl rfl) rfl rfl rfl ?_
            refine at_nil ?_
            refine at_normal ?_
            refine hK6 _ _ _ ?_
            refine at_cond_false (congrArg (fun b => some (Value.bool b)) (show _ = false from decide_eq_false (by omega))) ?_
            refine at_seq_k (fun K7 hK7 => ?_)
            refine at_seq_k (fun K8 hK8 => ?_)
            refine at_region ?_
            refine at_v (ov_int rfl rfl rfl rfl) rfl rfl rfl ?_
            refine at_v (ov_assign rfl rfl) rfl rfl rfl ?_
            refine at_nil ?_
            refine at_normal ?_
            refine hK8 _ _ _ ?_
            refine at_cond_false (congrArg (fun b => some (Value.bool b)) (show _ = false from by first | assumption | (rw [Bool.not_eq_false']; exact decide_eq_true (by omega)))) ?_
            refine at_seq_k (fun K9 hK9 => ?_)
            refine at_region ?_
            refine at_v (ov_int rfl rfl rfl rfl) rfl rfl rfl ?_
            refine at_v (ov_assign rfl rfl) rfl rfl rfl ?_
            refine at_nil ?_
            refine at_normal ?_
            refine hK9 _ _ _ ?_
            refine at_cond_true (congrArg (fun b => some (Value.bool b)) (show _ = true from by first | assumption | (rw [Bool.not_eq_true']; exact decide_eq_false (by omega)))) ?_
            refine at_skip ?_
            refine at_normal ?_
            refine hK7 _ _ _ ?_
            refine at_cond_true (congrArg (fun b => some (Value.bool b)) (show _ = true from by first | assumption | (rw [Bool.not_eq_true']; exact decide_eq_false (by omega)))) ?_
            refine at_seq_k (fun K10 hK10 => ?_)
            refine at_seq_k (fun K11 hK11 => ?_)
            refine at_region ?_
            refine at_v (ov_move rfl rfl) rfl rfl rfl ?_
            refine at_v (ov_strL rfl rfl rfl rfl) rfl rfl rfl ?_
            refine at_v (ov_move rfl rfl) rfl rfl rfl ?_
            refine at_wanted (j := 2) rfl ?_
            refine at_v (ov_move rfl rfl) rfl rfl rfl ?_
            refine at_wanted (j := 2) rfl ?_
            refine at_t (ot_call (ks := []) rfl rfl rfl Tryd.call30 rfl (T30 _ _ (by first | assumption | rfl | omega | decide | (simp; done) | (simp at *; omega)) (by first | assumption | rfl | omega | decide | (simp; done) | (simp at *; omega))) rfl) rfl rfl rfl ?_
            rintro v0 _ ⟨m0, hp0, rfl⟩
            obtain ⟨rfl, rfl⟩ := hp0
            simp only [List.cons_append, List.nil_append, splice, spliceL]
            refine at_wanted (j := 2) rfl ?_
            refine at_v (ov_int rfl rfl rfl rfl) rfl rfl rfl ?_
            refine at_v (ov_pick_f rfl rfl rfl) rfl rfl rfl ?_
            refine at_nil ?_
            refine at_normal ?_
            refine hK11 _ _ _ ?_
            refine at_cond_false (congrArg (fun b => some (Value.bool b)) (show _ = false from by first | assumption | (rw [Bool.not_eq_false']; exact decide_eq_true (by omega)))) ?_
            refine at_skip ?_
            refine at_normal ?_
            refine hK10 _ _ _ ?_
            refine at_seq_k (fun K12 hK12 => ?_)
            refine at_region ?_
            refine at_v (ov_move rfl rfl) rfl rfl rfl ?_
            refine at_t (ot_call (ks := []) rfl rfl rfl Tryd.call31 rfl (T31 _ _ _ (by first | assumption | rfl | omega | decide | (simp; done) | (simp at *; omega)) (by first | assumption | rfl | omega | decide | (simp; done) | (simp at *; omega))) rfl) rfl rfl rfl ?_
            rintro v0 _ ⟨m0, hp0, rfl⟩
            obtain ⟨rfl, rfl⟩ := hp0
            simp only [List.cons_append, List.nil_append, splice, spliceL]
            refine at_v (ov_move rfl rfl) rfl rfl rfl ?_
            refine at_v (ov_extract rfl rfl rfl) rfl rfl rfl ?_
            refine at_v (ov_extract rfl rfl rfl) rfl rfl rfl ?_
            refine at_t (ot_allocA rfl Tryd.zeroValue24) rfl rfl rfl ?_
            rintro _ _ ⟨g1, rfl, rfl⟩
            refine at_t0 (ot_store (k := 0) rfl rfl rfl rfl rfl rfl rfl) rfl rfl ?_
            rintro _ _ ⟨rfl, rfl⟩
            simp only [setAt, splice, spliceL, Value.cells]
            refine at_v (ov_assign rfl rfl) rfl rfl rfl ?_
            refine at_nil ?_
            refine at_normal ?_
            refine hK12 _ _ _ ?_
            refine at_seq_k (fun K13 hK13 => ?_)
            refine at_region ?_
            refine at_v (ov_loadS (cs := [_, _]) rfl rfl rfl rfl (fun _ s => s.lds (k := 0) rfl ⟨rfl, rfl, trivial⟩)) rfl rfl rfl ?_
            refine at_v (ov_loadS (cs := [_, _]) rfl rfl rfl rfl (fun _ s => s.lds (k := 1) rfl ⟨rfl, rfl, trivial⟩)) rfl rfl rfl ?_
            refine at_v (ov_eqS rfl (by kernel_rfl) rfl rfl rfl rfl) rfl rfl rfl ?_
            refine at_v (ov_move rfl rfl) rfl rfl rfl ?_
            refine at_reval 43 (.bool false) rfl (congrArg Value.bool (by first | assumption | (rw [Bool.not_eq_false']; exact decide_eq_true (by omega)))) ?_
            refine at_unwanted (j := 3) rfl rfl rfl rfl ?_
            refine at_unwanted (j := 3) rfl rfl rfl rfl ?_
            refine at_unwanted (j := 3) rfl rfl rfl rfl ?_
            refine at_unwanted (j := 3) rfl rfl rfl rfl ?_
            refine at_v (ov_pick_f rfl rfl rfl) rfl rfl rfl ?_
            refine at_v (ov_assign rfl rfl) rfl rfl rfl ?_
            refine at_nil ?_
            refine at_normal ?_
            refine hK13 _ _ _ ?_
            refine at_ret ?_
            refine at_inb_ret ?_
            refine at_then_ret ?_
            refine at_end ?_
            refine at_fin (rsV rfl (res_tmp rfl)) ?_
            refine ⟨_, ⟨by simp [hu], rfl⟩, ?_⟩
            exact fun _ s => s.finEq (ks := []) (js := [0, 0]) rfl rfl rfl
          · refine at_seq_k (fun K0 hK0 => ?_)
            refine at_region ?_
            refine at_t (ot_boxA rfl rfl) rfl rfl rfl ?_
            rintro _ _ ⟨g0, rfl, rfl⟩
            refine at_v (ov_assign rfl rfl) rfl rfl rfl ?_
            refine at_nil ?_
            refine at_normal ?_
            refine hK0 _ _ _ ?_
            refine at_seq_k (fun K1 hK1 => ?_)
            refine at_region ?_
            refine at_v (ov_fieldAddr (k := 1) (r := 1) rfl rfl rfl rfl) rfl rfl rfl ?_
            refine at_v (ov_load rfl rfl rfl (fun _ s => s.ld (k := 0) rfl rfl)) rfl rfl rfl ?_
            refine at_v (ov_assign rfl rfl) rfl rfl rfl ?_
            refine at_nil ?_
            refine at_normal ?_
            refine hK1 _ _ _ ?_
            refine at_seq_k (fun K2 hK2 => ?_)
            refine at_seq_k (fun K3 hK3 => ?_)
            refine at_region ?_
            refine at_v (ov_fieldAddr (k := 0) (r := 0) rfl rfl rfl rfl) rfl rfl rfl ?_
            refine at_v (ov_load rfl rfl rfl (fun _ s => s.ld (k := 0) rfl rfl)) rfl rfl rfl ?_
            refine at_nil ?_
            refine at_normal ?_
            refine hK3 _ _ _ ?_
            refine at_block ?_
            refine at_seq_k (fun K4 hK4 => ?_)
            refine at_seq_k (fun K5 hK5 => ?_)
            refine at_region ?_
            refine at_v (ov_int rfl rfl rfl rfl) rfl rfl rfl ?_
            refine at_v (ov_assign rfl rfl) rfl rfl rfl ?_
            refine at_nil ?_
            refine at_normal ?_
            refine hK5 _ _ _ ?_
            refine at_cond_false (congrArg (fun b => some (Value.bool b)) (show _ = false from decide_eq_false (by omega))) ?_
            refine at_region ?_
            refine at_v (ov_int rfl rfl rfl rfl) rfl rfl rfl ?_
            refine at_v (ov_assign rfl rfl) rfl rfl rfl ?_
            refine at_nil ?_
            refine at_normal ?_
            refine hK4 _ _ _ ?_
            refine at_cond_false (congrArg (fun b => some (Value.bool b)) (show _ = false from decide_eq_false (by omega))) ?_
            refine at_seq_k (fun K6 hK6 => ?_)
            refine at_region ?_
            refine at_v (ov_int rfl rfl rfl rfl) rfl rfl rfl ?_
            refine at_v (ov_assign rfl rfl) rfl rfl rfl ?_
            refine at_nil ?_
            refine at_normal ?_
            refine hK6 _ _ _ ?_
            refine at_cond_false (congrArg (fun b => some (Value.bool b)) (show _ = false from decide_eq_false (by omega))) ?_
            refine at_seq_k (fun K7 hK7 => ?_)
            refine at_seq_k (fun K8 hK8 => ?_)
            refine at_region ?_
            refine at_v (ov_int rfl rfl rfl rfl) rfl rfl rfl ?_
            refine at_v (ov_assign rfl rfl) rfl rfl rfl ?_
            refine at_nil ?_
            refine at_normal ?_
            refine hK8 _ _ _ ?_
            refine at_cond_false (congrArg (fun b => some (Value.bool b)) (show _ = false from by first | assumption | (rw [Bool.not_eq_false']; exact decide_eq_true (by omega)))) ?_
            refine at_seq_k (fun K9 hK9 => ?_)
            refine at_region ?_
            refine at_v (ov_int rfl rfl rfl rfl) rfl rfl rfl ?_
            refine at_v (ov_assign rfl rfl) rfl rfl rfl ?_
            refine at_nil ?_
            refine at_normal ?_
            refine hK9 _ _ _ ?_
            refine at_cond_false (congrArg (fun b => some (Value.bool b)) (show _ = false from by first | assumption | (rw [Bool.not_eq_false']; exact decide_eq_true (by omega)))) ?_
            refine at_region ?_
            refine at_v (ov_int rfl rfl rfl rfl) rfl rfl rfl ?_
            refine at_v (ov_assign rfl rfl) rfl rfl rfl ?_
            refine at_nil ?_
            refine at_normal ?_
            refine hK7 _ _ _ ?_
            refine at_cond_true (congrArg (fun b => some (Value.bool b)) (show _ = true from by first | assumption | (rw [Bool.not_eq_true']; exact decide_eq_false (by omega)))) ?_
            refine at_seq_k (fun K10 hK10 => ?_)
            refine at_seq_k (fun K11 hK11 => ?_)
            refine at_region ?_
            refine at_v (ov_move rfl rfl) rfl rfl rfl ?_
            refine at_v (ov_strL rfl rfl rfl rfl) rfl rfl rfl ?_
            refine at_v (ov_move rfl rfl) rfl rfl rfl ?_
            refine at_wanted (j := 2) rfl ?_
            refine at_v (ov_move rfl rfl) rfl rfl rfl ?_
            refine at_wanted (j := 2) rfl ?_
            refine at_t (ot_call (ks := []) rfl rfl rfl Tryd.call30 rfl (T30 _ _ (by first | assumption | rfl | omega | decide | (simp; done) | (simp at *; omega)) (by first | assumption | rfl | omega | decide | (simp; done) | (simp at *; omega))) rfl) rfl rfl rfl ?_
            rintro v0 _ ⟨m0, hp0, rfl⟩
            obtain ⟨rfl, rfl⟩ := hp0
            simp only [List.cons_append, List.nil_append, splice, spliceL]
            refine at_wanted (j := 2) rfl ?_
            refine at_v (ov_int rfl rfl rfl rfl) rfl rfl rfl ?_
            refine at_v (ov_pick_f rfl rfl rfl) rfl rfl rfl ?_
            refine at_nil ?_
            refine at_normal ?_
            refine hK11 _ _ _ ?_
            refine at_cond_false (congrArg (fun b => some (Value.bool b)) (show _ = false from by first | assumption | (rw [Bool.not_eq_false']; exact decide_eq_true (by omega)))) ?_
            refine at_skip ?_
            refine at_normal ?_
            refine hK10 _ _ _ ?_
            refine at_seq_k (fun K12 hK12 => ?_)
            refine at_region ?_
            refine at_v (ov_move rfl rfl) rfl rfl rfl ?_
            refine at_t (ot_call (ks := []) rfl rfl rfl Tryd.call31 rfl (T31 _ _ _ (by first | assumption | rfl | omega | decide | (simp; done) | (simp at *; omega)) (by first | assumption | rfl | omega | decide | (simp; done) | (simp at *; omega))) rfl) rfl rfl rfl ?_
            rintro v0 _ ⟨m0, hp0, rfl⟩
            obtain ⟨rfl, rfl⟩ := hp0
            simp only [List.cons_append, List.nil_append, splice, spliceL]
            refine at_v (ov_move rfl rfl) rfl rfl rfl ?_
            refine at_v (ov_extract rfl rfl rfl) rfl rfl rfl ?_
            refine at_v (ov_extract rfl rfl rfl) rfl rfl rfl ?_
            refine at_t (ot_allocA rfl Tryd.zeroValue24) rfl rfl rfl ?_
            rintro _ _ ⟨g1, rfl, rfl⟩
            refine at_t0 (ot_store (k := 0) rfl rfl rfl rfl rfl rfl rfl) rfl rfl ?_
            rintro _ _ ⟨rfl, rfl⟩
            simp only [setAt, splice, spliceL, Value.cells]
            refine at_v (ov_assign rfl rfl) rfl rfl rfl ?_
            refine at_nil ?_
            refine at_normal ?_
            refine hK12 _ _ _ ?_
            refine at_seq_k (fun K13 hK13 => ?_)
            refine at_region ?_
            refine at_v (ov_loadS (cs := [_, _]) rfl rfl rfl rfl (fun _ s => s.lds (k := 0) rfl ⟨rfl, rfl, trivial⟩)) rfl rfl rfl ?_
            refine at_v (ov_loadS (cs := [_, _]) rfl rfl rfl rfl (fun _ s => s.lds (k := 1) rfl ⟨rfl, rfl, trivial⟩)) rfl rfl rfl ?_
            refine at_v (ov_eqS rfl (by kernel_rfl) rfl rfl rfl rfl) rfl rfl rfl ?_
            refine at_v (ov_move rfl rfl) rfl rfl rfl ?_
            refine at_reval 43 (.bool false) rfl (congrArg Value.bool (by first | assumption | (rw [Bool.not_eq_false']; exact decide_eq_true (by omega)))) ?_
            refine at_unwanted (j := 3) rfl rfl rfl rfl ?_
            refine at_unwanted (j := 3) rfl rfl rfl rfl ?_
            refine at_unwanted (j := 3) rfl rfl rfl rfl ?_
            refine at_unwanted (j := 3) rfl rfl rfl rfl ?_
            refine at_v (ov_pick_f rfl rfl rfl) rfl rfl rfl ?_
            refine at_v (ov_assign rfl rfl) rfl rfl rfl ?_
            refine at_nil ?_
            refine at_normal ?_
            refine hK13 _ _ _ ?_
            refine at_ret ?_
            refine at_inb_ret ?_
            refine at_then_ret ?_
            refine at_end ?_
            refine at_fin (rsV rfl (res_tmp rfl)) ?_
            refine ⟨_, ⟨by simp [hu], rfl⟩, ?_⟩
            exact fun _ s => s.finEq (ks := []) (js := [0, 0]) rfl rfl rfl
      · have hi7 : (!decide (remarkL (b :: r) = 0)) = true := by simp [hr]
        rcases hk with hk1 | ⟨hk1, hk2⟩ | ⟨hk1, hk2, hk3⟩
        · refine at_seq_k (fun K0 hK0 => ?_)
          refine at_region ?_
          refine at_t (ot_boxA rfl rfl) rfl rfl rfl ?_
          rintro _ _ ⟨g0, rfl, rfl⟩
          refine at_v (ov_assign rfl rfl) rfl rfl rfl ?_
          refine at_nil ?_
          refine at_normal ?_
          refine hK0 _ _ _ ?_
          refine at_seq_k (fun K1 hK1 => ?_)
          refine at_region ?_
          refine at_v (ov_fieldAddr (k := 1) (r := 1) rfl rfl rfl rfl) rfl rfl rfl ?_
          refine at_v (ov_load rfl rfl rfl (fun _ s => s.ld (k := 0) rfl rfl)) rfl rfl rfl ?_
          refine at_v (ov_assign rfl rfl) rfl rfl rfl ?_
          refine at_nil ?_
          refine at_normal ?_
          refine hK1 _ _ _ ?_
          refine at_seq_k (fun K2 hK2 => ?_)
          refine at_seq_k (fun K3 hK3 => ?_)
          refine at_region ?_
          refine at_v (ov_fieldAddr (k := 0) (r := 0) rfl rfl rfl rfl) rfl rfl rfl ?_
          refine at_v (ov_load rfl rfl rfl (fun _ s => s.ld (k := 0) rfl rfl)) rfl rfl rfl ?_
          refine at_nil ?_
          refine at_normal ?_
          refine hK3 _ _ _ ?_
          refine at_block ?_
          refine at_seq_k (fun K4 hK4 => ?_)
          refine at_seq_k (fun K5 hK5 => ?_)
          refine at_region ?_
          refine at_v (ov_int rfl rfl rfl rfl) rfl rfl rfl ?_
          refine at_v (ov_assign rfl rfl) rfl rfl rfl ?_
          refine at_nil ?_
          refine at_normal ?_
          refine hK5 _ _ _ ?_
          refine at_cond_false (congrArg (fun b => some (Value.bool b)) (show _ = false from decide_eq_false (by omega))) ?_
          refine at_region ?_
          refine at_v (ov_int rfl rfl rfl rfl) rfl rfl rfl ?_
          refine at_v (ov_assign rfl rfl) rfl rfl rfl ?_
          refine at_nil ?_
          refine at_normal ?_
          refine hK4 _ _ _ ?_
          refine at_cond_false (congrArg (fun b => some (Value.bool b)) (show _ = false from decide_eq_false (by omega))) ?_
          refine at_seq_k (fun K6 hK6 => ?_)
          refine at_region ?_
          refine at_v (ov_int rfl rfl rfl rfl) rfl rfl rfl ?_
          refine at_v (ov_assign rfl rfl) rfl rfl rfl ?_
          refine at_nil ?_
          refine at_normal ?_
          refine hK6 _ _ _ ?_
          refine at_cond_false (congrArg (fun b => some (Value.bool b)) (show _ = false from decide_eq_false (by omega))) ?_
          refine at_seq_k (fun K7 hK7 => ?_)
          refine at_seq_k (fun K8 hK8 => ?_)
          refine at_region ?_
          refine at_v (ov_int rfl rfl rfl rfl) rfl rfl rfl ?_
          refine at_v (ov_assign rfl rfl) rfl rfl rfl ?_
          refine at_nil ?_
          refine at_normal ?_
          refine hK8 _ _ _ ?_
          refine at_cond_true (congrArg (fun b => some (Value.bool b)) (show _ = true from by first | assumption | (rw [Bool.not_eq_true']; exact decide_eq_false (by omega)))) ?_
          refine at_skip ?_
          refine at_normal ?_
          refine hK7 _ _ _ ?_
          refine at_cond_true (congrArg (fun b => some (Value.bool b)) (show _ = true from by first | assumption | (rw [Bool.not_eq_true']; exact decide_eq_false (by omega)))) ?_
          refine at_seq_k (fun K9 hK9 => ?_)
          refine at_seq_k (fun K10 hK10 => ?_)
          refine at_region ?_
          refine at_v (ov_move rfl rfl) rfl rfl rfl ?_
          refine at_v (ov_strL rfl rfl rfl rfl) rfl rfl rfl ?_
          refine at_v (ov_move rfl rfl) rfl rfl rfl ?_
          refine at_wanted (j := 2) rfl ?_
          refine at_v (ov_move rfl rfl) rfl rfl rfl ?_
          refine at_wanted (j := 2) rfl ?_
          refine at_t (ot_call (ks := []) rfl rfl rfl Tryd.call30 rfl (T30 _ _ (by first | assumption | rfl | omega | decide | (simp; done) | (simp at *; omega)) (by first | assumption | rfl | omega | decide | (simp; done) | (simp at *; omega))) rfl) rfl rfl rfl ?_
          rintro v0 _ ⟨m0, hp0, rfl⟩
          obtain ⟨rfl, rfl⟩ := hp0
          simp only [List.cons_append, List.nil_append, splice, spliceL]
          refine at_wanted (j := 2) rfl ?_
          refine at_v (ov_int rfl rfl rfl rfl) rfl rfl rfl ?_
          refine at_v (ov_pick_f rfl rfl rfl) rfl rfl rfl ?_
          refine at_nil ?_
          refine at_normal ?_
          refine hK10 _ _ _ ?_
          refine at_cond_true (congrArg (fun b => some (Value.bool b)) (show _ = true from by first | assumption | (rw [Bool.not_eq_true']; exact decide_eq_false (by omega)))) ?_
          refine at_seq_k (fun K11 hK11 => ?_)
          refine at_region ?_
          refine at_v (ov_assign rfl rfl) rfl rfl rfl ?_
          refine at_nil ?_
          refine at_normal ?_
          refine hK11 _ _ _ ?_
          refine at_ret ?_
          refine at_then_ret ?_
          refine at_inb_ret ?_
          refine at_then_ret ?_
          refine at_end ?_
          refine at_fin (rsV rfl (res_tmp rfl)) ?_
          refine ⟨_, ⟨by simp [hr], rfl⟩, ?_⟩
          exact fun _ s => s.finEq (ks := []) (js := [0]) rfl rfl rfl
        · refine at_seq_k (fun K0 hK0 => ?_)
          refine at_region ?_
          refine at_t (ot_boxA rfl rfl) rfl rfl rfl ?_
          rintro _ _ ⟨g0, rfl, rfl⟩
          refine at_v (ov_assign rfl rfl) rfl rfl rfl ?_
          refine at_nil ?_
          refine at_normal ?_
          refine hK0 _ _ _ ?_
          refine at_seq_k (fun K1 hK1 => ?_)
          refine at_region ?_
          refine at_v (ov_fieldAddr (k := 1) (r := 1) rfl rfl rfl rfl) rfl rfl rfl ?_
          refine at_v (ov_load rfl rfl rfl (fun _ s => s.ld (k := 0) rfl rfl)) rfl rfl rfl ?_
          refine at_v (ov_assign rfl rfl) rfl rfl rfl ?_
          refine at_nil ?_
          refine at_normal ?_
          refine hK1 _ _ _ ?_
          refine at_seq_k (fun K2 hK2 => ?_)
          refine at_seq_k (fun K3 hK3 => ?_)
          refine at_region ?_
          refine at_v (ov_fieldAddr (k := 0) (r := 0) rfl rfl rfl rfl) rfl rfl rfl ?_
          refine at_v (ov_load rfl rfl rfl (fun _ s => s.ld (k := 0) rfl rfl)) rfl rfl rfl ?_
          refine at_nil ?_
          refine at_normal ?_
          refine hK3 _ _ _ ?_
          refine at_block ?_
          refine at_seq_k (fun K4 hK4 => ?_)
          refine at_seq_k (fun K5 hK5 => ?_)
          refine at_region ?_
          refine at_v (ov_int rfl rfl rfl rfl) rfl rfl rfl ?_
          refine at_v (ov_assign rfl rfl) rfl rfl rfl ?_
          refine at_nil ?_
          refine at_normal ?_
          refine hK5 _ _ _ ?_
          refine at_cond_false (congrArg (fun b => some (Value.bool b)) (show _ = false from decide_eq_false (by omega))) ?_
          refine at_region ?_
          refine at_v (ov_int rfl rfl rfl rfl) rfl rfl rfl ?_
          refine at_v (ov_assign rfl rfl) rfl rfl rfl ?_
          refine at_nil ?_
          refine at_normal ?_
          refine hK4 _ _ _ ?_
          refine at_cond_false (congrArg (fun b => some (Value.bool b)) (show _ = false from decide_eq_false (by omega))) ?_
          refine at_seq_k (fun K6 hK6 => ?_)
          refine at_region ?_
          refine at_v (ov_int rfl rfl rfl rfl) rfl rfl rfl ?_
          refine at_v (ov_assign rfl rfl) rfl rfl rfl ?_
          refine at_nil ?_
          refine at_normal ?_
          refine hK6 _ _ _ ?_
          refine at_cond_false (congrArg (fun b => some (Value.bool b)) (show _ = false from decide_eq_false (by omega))) ?_
          refine at_seq_k (fun K7 hK7 => ?_)
          refine at_seq_k (fun K8 hK8 => ?_)
          refine at_region ?_
          refine at_v (ov_int rfl rfl rfl rfl) rfl rfl rfl ?_
          refine at_v (ov_assign rfl rfl) rfl rfl rfl ?_
          refine at_nil ?_
          refine at_normal ?_
          refine hK8 _ _ _ ?_
          refine at_cond_false (congrArg (fun b => some (Value.bool b)) (show _ = false from by first | assumption | (rw [Bool.not_eq_false']; exact decide_eq_true (by omega)))) ?_
          refine at_seq_k (fun K9 hK9 => ?_)
          refine at_region ?_
          refine at_v (ov_int rfl rfl rfl rfl) rfl rfl rfl ?_
          refine at_v (ov_assign rfl rfl) rfl rfl rfl ?_
          refine at_nil ?_
          refine at_normal ?_
          refine hK9 _ _ _ ?_
          refine at_cond_true (congrArg (fun b => some (Value.bool b)) (show _ = true from by first | assumption | (rw [Bool.not_eq_true']; exact decide_eq_false (by omega)))) ?_
          refine at_skip ?_
          refine at_normal ?_
          refine hK7 _ _ _ ?_
          refine at_cond_true (congrArg (fun b => some (Value.bool b)) (show _ = true from by first | assumption | (rw [Bool.not_eq_true']; exact decide_eq_false (by omega)))) ?_
          refine at_seq_k (fun K10 hK10 => ?_)
          refine at_seq_k (fun K11 hK11 => ?_)
          refine at_region ?_
          refine at_v (ov_move rfl rfl) rfl rfl rfl ?_
          refine at_v (ov_strL rfl rfl rfl rfl) rfl rfl rfl ?_
          refine at_v (ov_move rfl rfl) rfl rfl rfl ?_
          refine at_wanted (j := 2) rfl ?_
          refine at_v (ov_move rfl rfl) rfl rfl rfl ?_
          refine at_wanted (j := 2) rfl ?_
          refine at_t (ot_call (ks := []) rfl rfl rfl Tryd.call30 rfl (T30 _ _ (by first | assumption | rfl | omega | decide | (simp; done) | (simp at *; omega)) (by first | assumption | rfl | omega | decide | (simp; done) | (simp at *; omega))) rfl) rfl rfl rfl ?_
          rintro v0 _ ⟨m0, hp0, rfl⟩
          obtain ⟨rfl, rfl⟩ := hp0
          simp only [List.cons_append, List.nil_append, splice, spliceL]
          refine at_wanted (j := 2) rfl ?_
          refine at_v (ov_int rfl rfl rfl rfl) rfl rfl rfl ?_
          refine at_v (ov_pick_f rfl rfl rfl) rfl rfl rfl ?_
          refine at_nil ?_
          refine at_normal ?_
          refine hK11 _ _ _ ?_
          refine at_cond_true (congrArg (fun b => some (Value.bool b)) (show _ = true from by first | assumption | (rw [Bool.not_eq_true']; exact decide_eq_false (by omega)))) ?_
          refine at_seq_k (fun K12 hK12 => ?_)
          refine at_region ?_
          refine at_v (ov_assign rfl rfl) rfl rfl rfl ?_
          refine at_nil ?_
          refine at_normal ?_
          refine hK12 _ _ _ ?_
          refine at_ret ?_
          refine at_then_ret ?_
          refine at_inb_ret ?_
          refine at_then_ret ?_
          refine at_end ?_
          refine at_fin (rsV rfl (res_tmp rfl)) ?_
          refine ⟨_, ⟨by simp [hr], rfl⟩, ?_⟩
          exact fun _ s => s.finEq (ks := []) (js := [0]) rfl rfl rfl
        · refine at_seq_k (fun K0 hK0 => ?_)
          refine at_region ?_
          refine at_t (ot_boxA rfl rfl) rfl rfl rfl ?_
          rintro _ _ ⟨g0, rfl, rfl⟩
          refine at_v (ov_assign rfl rfl) rfl rfl rfl ?_
          refine at_nil ?_
          refine at_normal ?_
          refine hK0 _ _ _ ?_
          refine at_seq_k (fun K1 hK1 => ?_)
          refine at_region ?_
          refine at_v (ov_fieldAddr (k := 1) (r := 1) rfl rfl rfl rfl) rfl rfl rfl ?_
          refine at_v (ov_load rfl rfl rfl (fun _ s => s.ld (k := 0) rfl rfl)) rfl rfl rfl ?_
          refine at_v (ov_assign rfl rfl) rfl rfl rfl ?_
          refine at_nil ?_
          refine at_normal ?_
          refine hK1 _ _ _ ?_
          refine at_seq_k (fun K2 hK2 => ?_)
          refine at_seq_k (fun K3 hK3 => ?_)
          refine at_region ?_
          refine at_v (ov_fieldAddr (k := 0) (r := 0) rfl rfl rfl rfl) rfl rfl rfl ?_
          refine at_v (ov_load rfl rfl rfl (fun _ s => s.ld (k := 0) rfl rfl)) rfl rfl rfl ?_
          refine at_nil ?_
          refine at_normal ?_
          refine hK3 _ _ _ ?_
          refine at_block ?_
          refine at_seq_k (fun K4 hK4 => ?_)
          refine at_seq_k (fun K5 hK5 => ?_)
          refine at_region ?_
          refine at_v (ov_int rfl rfl rfl rfl) rfl rfl rfl ?_
          refine at_v (ov_assign rfl rfl) rfl rfl rfl ?_
          refine at_nil ?_
          refine at_normal ?_
          refine hK5 _ _ _ ?_
          refine at_cond_false (congrArg (fun b => some (Value.bool b)) (show _ = false from decide_eq_false (by omega))) ?_
          refine at_region ?_
          refine at_v (ov_int rfl rfl rfl rfl) rfl rfl rfl ?_
          refine at_v (ov_assign rfl rfl) rfl rfl rfl ?_
          refine at_nil ?_
          refine at_normal ?_
          refine hK4 _ _ _ ?_
          refine at_cond_false (congrArg (fun b => some (Value.bool b)) (show _ = false from decide_eq_false (by omega))) ?_
          refine at_seq_k (fun K6 hK6 => ?_)
          refine at_region ?_
          refine at_v (ov_int rfl rfl rfl rfl) rfl rfl rfl ?_
          refine at_v (ov_assign rfl rfl) rfl rfl rfl ?_
          refine at_nil ?_
          refine at_normal ?_
          refine hK6 _ _ _ ?_
          refine at_cond_false (congrArg (fun b => some (Value.bool b)) (show _ = false from decide_eq_false (by omega))) ?_
          refine at_seq_k (fun K7 hK7 => ?_)
          refine at_seq_k (fun K8 hK8 => ?_)
          refine at_region ?_
          refine at_v (ov_int rfl rfl rfl rfl) rfl rfl rfl ?_
          refine at_v (ov_assign rfl rfl) rfl rfl rfl ?_
          refine at_nil ?_
          refine at_normal ?_
          refine hK8 _ _ _ ?_
          refine at_cond_false (congrArg (fun b => some (Value.bool b)) (show _ = false from by first | assumption | (rw [Bool.not_eq_false']; exact decide_eq_true (by omega)))) ?_
          refine at_seq_k (fun K9 hK9 => ?_)
          refine at_region ?_
          refine at_v (ov_int rfl rfl rfl rfl) rfl rfl rfl ?_
          refine at_v (ov_assign rfl rfl) rfl rfl rfl ?_
          refine at_nil ?_
          refine at_normal ?_
          refine hK9 _ _ _ ?_
          refine at_cond_false (congrArg (fun b => some (Value.bool b)) (show _ = false from by first | assumption | (rw [Bool.not_eq_false']; exact decide_eq_true (by omega)))) ?_
          refine at_region ?_
          refine at_v (ov_int rfl rfl rfl rfl) rfl rfl rfl ?_
          refine at_v (ov_assign rfl rfl) rfl rfl rfl ?_
          refine at_nil ?_
          refine at_normal ?_
          refine hK7 _ _ _ ?_
          refine at_cond_true (congrArg (fun b => some (Value.bool b)) (show _ = true from by first | assumption | (rw [Bool.not_eq_true']; exact decide_eq_false (by omega)))) ?_
          refine at_seq_k (fun K10 hK10 => ?_)
          refine at_seq_k (fun K11 hK11 => ?_)
          refine at_region ?_
          refine at_v (ov_move rfl rfl) rfl rfl rfl ?_
          refine at_v (ov_strL rfl rfl rfl rfl) rfl rfl rfl ?_
          refine at_v (ov_move rfl rfl) rfl rfl rfl ?_
          refine at_wanted (j := 2) rfl ?_
          refine at_v (ov_move rfl rfl) rfl rfl rfl ?_
          refine at_wanted (j := 2) rfl ?_
          refine at_t (ot_call (ks := []) rfl rfl rfl Tryd.call30 rfl (T30 _ _ (by first | assumption | rfl | omega | decide | (simp; done) | (simp at *; omega)) (by first | assumption | rfl | omega | decide | (simp; done) | (simp at *; omega))) rfl) rfl rfl rfl ?_
          rintro v0 _ ⟨m0, hp0, rfl⟩
          obtain ⟨rfl, rfl⟩ := hp0
          simp only [List.cons_append, List.nil_append, splice, spliceL]
          refine at_wanted (j := 2) rfl ?_
          refine at_v (ov_int rfl rfl rfl rfl) rfl rfl rfl ?_
          refine at_v (ov_pick_f rfl rfl rfl) rfl rfl rfl ?_
          refine at_nil ?_
          refine at_normal ?_
          refine hK11 _ _ _ ?_
          refine at_cond_true (congrArg (fun b => some (Value.bool b)) (show _ = true from by first | assumption | (rw [Bool.not_eq_true']; exact decide_eq_false (by omega)))) ?_
          refine at_seq_k (fun K12 hK12 => ?_)
          refine at_region ?_
          refine at_v (ov_assign rfl rfl) rfl rfl rfl ?_
          refine at_nil ?_
          refine at_normal ?_
          refine hK12 _ _ _ ?_
          refine at_ret ?_
          refine at_then_ret ?_
          refine at_inb_ret ?_
          refine at_then_ret ?_
          refine at_end ?_
          refine at_fin (rsV rfl (res_tmp rfl)) ?_
          refine ⟨_, ⟨by simp [hr], rfl⟩, ?_⟩
          exact fun _ s => s.finEq (ks := []) (js := [0]) rfl rfl rfl
  · have hi1 : decide (k = 1) = false := decide_eq_false (by omega)
    have hi4 : decide (k = 4) = false := decide_eq_false (by omega)
    have hi6 : decide (k = 6) = false := decide_eq_false (by omega)
    have e : rightL (k, s) = false := by
      unfold rightL
      simp only
      rw [if_neg (by omega), if_neg h5, if_neg h146]
    refine at_seq_k (fun K0 hK0 => ?_)
    refine at_region ?_
    refine at_t (ot_boxA rfl rfl) rfl rfl rfl ?_
    rintro _ _ ⟨g0, rfl, rfl⟩
    refine at_v (ov_assign rfl rfl) rfl rfl rfl ?_
    refine at_nil ?_
    refine at_normal ?_
    refine hK0 _ _ _ ?_
    refine at_seq_k (fun K1 hK1 => ?_)
    refine at_region ?_
    refine at_v (ov_fieldAddr (k := 1) (r := 1) rfl rfl rfl rfl) rfl rfl rfl ?_
    refine at_v (ov_load rfl rfl rfl (fun _ s => s.ld (k := 0) rfl rfl)) rfl rfl rfl ?_
    refine at_v (ov_assign rfl rfl) rfl rfl rfl ?_
    refine at_nil ?_
    refine at_normal ?_
    refine hK1 _ _ _ ?_
    refine at_seq_k (fun K2 hK2 => ?_)
    refine at_seq_k (fun K3 hK3 => ?_)
    refine at_region ?_
    refine at_v (ov_fieldAddr (k := 0) (r := 0) rfl rfl rfl rfl) rfl rfl rfl ?_
    refine at_v (ov_load rfl rfl rfl (fun _ s => s.ld (k := 0) rfl rfl)) rfl rfl rfl ?_
    refine at_nil ?_
    refine at_normal ?_
    refine hK3 _ _ _ ?_
    refine at_block ?_
    refine at_seq_k (fun K4 hK4 => ?_)
    refine at_seq_k (fun K5 hK5 => ?_)
    refine at_region ?_
    refine at_v (ov_int rfl rfl rfl rfl) rfl rfl rfl ?_
    refine at_v (ov_assign rfl rfl) rfl rfl rfl ?_
    refine at_nil ?_
    refine at_normal ?_
    refine hK5 _ _ _ ?_
    refine at_cond_false (congrArg (fun b => some (Value.bool b)) (show _ = false from decide_eq_false (by omega))) ?_
    refine at_region ?_
    refine at_v (ov_int rfl rfl rfl rfl) rfl rfl rfl ?_
    refine at_v (ov_assign rfl rfl) rfl rfl rfl ?_
    refine at_nil ?_
    refine at_normal ?_
    refine hK4 _ _ _ ?_
    refine at_cond_false (congrArg (fun b => some (Value.bool b)) (show _ = false from decide_eq_false (by omega))) ?_
    refine at_seq_k (fun K6 hK6 => ?_)
    refine at_region ?_
    refine at_v (ov_int rfl rfl rfl rfl) rfl rfl rfl ?_
    refine at_v (ov_assign rfl rfl) rfl rfl rfl ?_
    refine at_nil ?_
    refine at_normal ?_
    refine hK6 _ _ _ ?_
    refine at_cond_false (congrArg (fun b => some (Value.bool b)) (show _ = false from decide_eq_false (by omega))) ?_
    refine at_seq_k (fun K7 hK7 => ?_)
    refine at_seq_k (fun K8 hK8 => ?_)
    refine at_region ?_
    refine at_v (ov_int rfl rfl rfl rfl) rfl rfl rfl ?_
    refine at_v (ov_assign rfl rfl) rfl rfl rfl ?_
    refine at_nil ?_
    refine at_normal ?_
    refine hK8 _ _ _ ?_
    refine at_cond_false (congrArg (fun b => some (Value.bool b)) (show _ = false from decide_eq_false (by omega))) ?_
    refine at_seq_k (fun K9 hK9 => ?_)
    refine at_region ?_
    refine at_v (ov_int rfl rfl rfl rfl) rfl rfl rfl ?_
    refine at_v (ov_assign rfl rfl) rfl rfl rfl ?_
    refine at_nil ?_
    refine at_normal ?_
    refine hK9 _ _ _ ?_
    refine at_cond_false (congrArg (fun b => some (Value.bool b)) (show _ = false from decide_eq_false (by omega))) ?_
    refine at_region ?_
    refine at_v (ov_int rfl rfl rfl rfl) rfl rfl rfl ?_
    refine at_v (ov_assign rfl rfl) rfl rfl rfl ?_
    refine at_nil ?_
    refine at_normal ?_
    refine hK7 _ _ _ ?_
    refine at_cond_false (congrArg (fun b => some (Value.bool b)) (show _ = false from decide_eq_false (by omega))) ?_
    refine at_skip ?_
    refine at_inb_normal ?_
    refine at_normal ?_
    refine hK2 _ _ _ ?_
    refine at_seq_k (fun K10 hK10 => ?_)
    refine at_region ?_
    refine at_v (ov_assign rfl rfl) rfl rfl rfl ?_
    refine at_nil ?_
    refine at_normal ?_
    refine hK10 _ _ _ ?_
    refine at_ret ?_
    refine at_end ?_
    refine at_fin (rsV rfl (res_tmp rfl)) ?_
    refine ⟨_, ⟨by rw [e], rfl⟩, ?_⟩
    exact fun _ s => s.finEq (ks := []) (js := [0]) rfl rfl rfl
/-! ### Write -/
def dblL (q : UInt8) (s : BL) : BL := s.flatMap fun c => if c = q then [q, q] else [c]
theorem index_cons (q c : UInt8) (s : BL) : Lib.index (c :: s) [q] = if c = q then 0 else if Lib.index s [q] == -1 then -1 else Lib.index s [q] + 1 := by
  conv => lhs; unfold Lib.index
  have : [q].isPrefixOf (c :: s) = decide (c = q) := by
    by_cases h : c = q
    · subst h; simp [List.isPrefixOf]
    · have h2 : (q == c) = false := by
        cases hb : (q == c) with
        | false => rfl
        | true => exact absurd (by simpa using hb) (fun e : q = c => h e.symm)
      simp only [List.isPrefixOf, h2, Bool.false_and, decide_eq_false h]
  rw [this]
  by_cases h : c = q <;> simp [h]
theorem replaceK_cons {q c : UInt8} (h : c ≠ q) (new : BL) (k : Nat) (s : BL) : Lib.replaceK [q] new k (c :: s) = c :: Lib.replaceK [q] new k s := by
  cases k with
  | zero => rfl
  | succ k =>
    unfold Lib.replaceK
    rw [index_cons, if_neg h]
    by_cases hm : (Lib.index s [q] == -1) = true
    · simp [hm]
    · have h1 := Lib.index_ge s [q]
      have h2 : Lib.index s [q] ≠ -1 := by simpa using hm
      rw [if_neg hm, if_neg hm]
      rw [if_neg (by simp; omega)]
      have e : (Lib.index s [q] + 1).toNat = (Lib.index s [q]).toNat + 1 := by omega
      rw [e]
      simp [Nat.add_right_comm]
theorem replaceK_dbl (q : UInt8) : ∀ (s : BL) (k : Nat), s.count q ≤ k → Lib.replaceK [q] [q, q] k s = dblL q s
  | [], k, _ => by
    cases k with
    | zero => rfl
    | succ k => simp [Lib.replaceK, Lib.index, dblL]
  | c :: s, k, h => by
    by_cases hc : c = q
    · subst hc
      cases k with
      | zero => simp at h
      | succ k =>
        simp at h
        have ih := replaceK_dbl c s k (by omega)
        unfold Lib.replaceK
        rw [index_cons, if_pos rfl]
        simp only [show ((0 : Int) == -1) = false from rfl, Bool.false_eq_true, if_false]
        simp [ih, dblL]
    · rw [replaceK_cons hc, replaceK_dbl q s k (by rw [List.count_cons_of_ne hc] at h; exact h)]
      simp [dblL, hc]
theorem replaceAll_dbl (q : UInt8) (s : BL) : Lib.replaceAll s [q] [q, q] = dblL q s := by
  unfold Lib.replaceAll Lib.replace
  rw [if_neg (by simp)]
  unfold Lib.replaceNum
  rw [if_pos (.inl (by decide)), Lib.count_one]
  exact replaceK_dbl q s _ (Nat.le_refl _)
theorem dblL_le (q : UInt8) (s : BL) : (dblL q s).length ≤ 2 * s.length := by
  induction s with
  | nil => simp [dblL]
  | cons c s ih =>
    have : dblL q (c :: s) = (if c = q then [q, q] else [c]) ++ dblL q s := by simp [dblL]
    rw [this, List.length_append, List.length_cons]
    split <;> simp <;> omega
def writeT (t : Tok) : BL := if t.1 = 2 then [34] ++ dblL 34 t.2 ++ [34] else if t.1 = 3 then [39] ++ dblL 39 t.2 ++ [39] else if t.1 = 5 then [47, 42, 43, 32] ++ t.2 ++ [32] ++ [42, 47] else t.2
def writeL (l : List Tok) : BL := Lib.join (l.map writeT) [32]
theorem writeT_le (t : Tok) : (writeT t).length ≤ 2 * t.2.length + 7 := by
  unfold writeT
  have h1 := dblL_le 34 t.2
  have h2 := dblL_le 39 t.2
  split
  · simp; omega
  · split
    · simp; omega
    · split
      · simp; omega
      · omega
theorem join_cons2 (a b : BL) (xs : List BL) (sep : BL) : Lib.join (a :: b :: xs) sep = a ++ (sep ++ Lib.join (b :: xs) sep) := by
  simp [Lib.join, List.intercalate]
theorem join_le {m : Nat} : ∀ (xs : List BL), (∀ x ∈ xs, x.length ≤ m) → (Lib.join xs [32]).length ≤ xs.length * (m + 1)
  | [], _ => by simp [Lib.join_nil]
  | [a], h => by
    have := h a (by simp)
    rw [Lib.join_one]; simp; omega
  | a :: b :: xs, h => by
    have ih := join_le (b :: xs) (fun x hx => h x (by simp [hx]))
    have := h a (by simp)
    rw [join_cons2, List.length_append, List.length_append]
    simp only [List.length_cons, List.length_nil] at ih ⊢
    rw [Nat.add_mul (xs.length + 1) 1, Nat.one_mul]
    omega
theorem map_take_succ {α β : Type} (f : α → β) {l : List α} {k : Nat} {x : α} (h : l[k]? = some x) : (l.take (k + 1)).map f = (l.take k).map f ++ [f x] := by
  rw [List.take_add_one, h]; simp
theorem T15 (w0 : World) {A : Option Addr} {c : Nat} {l : List Tok} (hr : Rd tE w0 2 A l) (hl : l.length ≤ 10000) (ht : ∀ t ∈ l, t.2.length ≤ 10000) (hM : MaxL w0) : Tri Tryd.prog w0 15 [.slice A l.length c] [] fun v m => v = SV (writeL l) ∧ m = [] := by
  refine tri_of Tryd.func15 rfl rfl fun F => ?_
  simp only [Tryd.ntmps15, argEnv, List.nil_append]
  have hjl : (Lib.join (l.map writeT) [32]).length ≤ 140737488355328 := by
    have := join_le (m := 20007) (l.map writeT) (fun x hx => by obtain ⟨t, h, rfl⟩ := List.mem_map.1 hx; have := writeT_le t; have := ht t h; omega)
    rw [List.length_map] at this
    have h2 : l.length * (20007 + 1) ≤ 10000 * (20007 + 1) := Nat.mul_le_mul_right _ hl
    omega
  refine at_rowNil bsE 9 1 ?_
  refine at_seq_k (fun K0 hK0 => ?_)
  refine at_region ?_
  refine at_v (ov_assign rfl rfl) rfl rfl rfl ?_
  refine at_nil ?_
  refine at_normal ?_
  refine hK0 _ _ _ ?_
  refine at_seq_k (fun K1 hK1 => ?_)
  refine at_region ?_
  refine at_v (ov_assign rfl rfl) rfl rfl rfl ?_
  refine at_nil ?_
  refine at_normal ?_
  refine hK1 _ _ _ ?_
  refine at_seq_k (fun K2 hK2 => ?_)
  refine at_seq_k (fun K3 hK3 => ?_)
  refine at_region ?_
  refine at_v (ov_move rfl rfl) rfl rfl rfl ?_
  refine at_v (ov_len_slice rfl Tryd.underlying22 rfl) rfl rfl rfl ?_
  refine at_v (ov_move rfl rfl) rfl rfl rfl ?_
  refine at_nil ?_
  refine at_normal ?_
  refine hK3 _ _ _ ?_
  refine at_block ?_
  refine at_loopE [10, 11, 12, 5, 13, 14, 6, 15, 16, 18, 17, 19, 20, 21, 22, 24, 23, 25, 26, 27, 28, 30, 29, 31, 32, 33, 34, 35, 36, 37, 38, 3, 39, 9] (fun i : Nat × Option Addr × Nat => i.1 ≤ l.length) (fun i => [(9, .int .i64 (i.1 : Nat)), (3, .slice i.2.1 ((l.take i.1).map writeT).length i.2.2)]) (fun i m => setAt 0 (Row bsE 9 1 i.2.1 i.2.2 ((l.take i.1).map writeT)) m) (fun i => l.length - i.1) (0, none, 0) (Nat.zero_le _) ⟨rfl, rfl, trivial⟩ (fun _ s => s) ?_
  rintro ⟨k, B, d⟩ hk
  simp only [setAt] at hk ⊢
  have hlm : ((l.take k).map writeT).length = k := by simp; omega
  rcases Nat.lt_or_ge k l.length with hlt | hge
  · have hi1 : decide ((k : Int) < l.length) = true := decide_eq_true (by omega)
    obtain ⟨⟨kd, s⟩, hget⟩ : ∃ t, l[k]? = some t := ⟨_, List.getElem?_eq_getElem hlt⟩
    have hsl : s.length ≤ 10000 := ht _ (List.mem_of_getElem? hget)
    have hms := map_take_succ writeT hget
    have hcb : ∀ q : UInt8, s.length + Lib.countB ⟨s.toArray⟩ ⟨[q].toArray⟩ * 2 ≤ 140737488355328 := fun q => by
      have := Lib.countB_le ⟨[q].toArray⟩ (Nat.le_refl 1) s.length ⟨s.toArray⟩ (Nat.le_refl _)
      have h2 : (⟨s.toArray⟩ : ByteArray).size = s.length := rfl
      omega
    have hR34 := T37 w0 s [34] [34, 34] hM (by omega) (by decide) (hcb 34)
    have hR39 := T37 w0 s [39] [39, 39] hM (by omega) (by decide) (hcb 39)
    rw [replaceAll_dbl] at hR34 hR39
    have hd34 := dblL_le 34 s
    have hd39 := dblL_le 39 s
    by_cases h2 : kd = 2
    · have hi2 : decide (kd = 2) = true := decide_eq_true h2
      have ew : writeT (kd, s) = [34] ++ dblL 34 s ++ [34] := by simp [writeT, h2]
      refine at_seq_k (fun K4 hK4 => ?_)
      refine at_region ?_
      refine at_v (ov_int rfl rfl rfl rfl) rfl rfl rfl ?_
      refine at_nil ?_
      refine at_normal ?_
      refine hK4 _ _ _ ?_
      refine at_seq_k (fun K5 hK5 => ?_)
      refine at_cond_true (congrArg (fun b => some (Value.bool b)) (show _ = true from decide_eq_true (by omega))) ?_
      refine at_skip ?_
      refine at_normal ?_
      refine hK5 _ _ _ ?_
      refine at_seq_k (fun K6 hK6 => ?_)
      refine at_block ?_
      refine at_seq_k (fun K7 hK7 => ?_)
      refine at_region ?_
      refine at_v (ov_indexRd (fun _ s => hr.up s) rfl Tryd.underlying22 rfl rfl rfl hget) rfl rfl rfl ?_
      refine at_v (ov_loadRdS (vs := [_, _]) (fun _ s => hr.up s) rfl rfl rfl hget rfl rfl) rfl rfl rfl ?_
      refine at_t (ot_allocA rfl Tryd.zeroValue24) rfl rfl rfl ?_
      rintro _ _ ⟨g0, rfl, rfl⟩
      refine at_t0 (ot_store (k := 0) rfl rfl rfl rfl rfl rfl rfl) rfl rfl ?_
      rintro _ _ ⟨rfl, rfl⟩
      simp only [setAt, splice, spliceL, Value.cells]
      refine at_nil ?_
      refine at_normal ?_
      refine hK7 _ _ _ ?_
      refine at_seq_k (fun K8 hK8 => ?_)
      refine at_region ?_
      refine at_v (ov_fieldAddr (k := 1) (r := 1) rfl rfl rfl rfl) rfl rfl rfl ?_
      refine at_v (ov_load rfl rfl rfl (fun _ s => s.ld (k := 0) rfl rfl)) rfl rfl rfl ?_
      refine at_v (ov_assign rfl rfl) rfl rfl rfl ?_
      refine at_nil ?_
      refine at_normal ?_
      refine hK8 _ _ _ ?_
      refine at_seq_k (fun K9 hK9 => ?_)
      refine at_seq_k (fun K10 hK10 => ?_)
      refine at_region ?_
      refine at_v (ov_fieldAddr (k := 0) (r := 0) rfl rfl rfl rfl) rfl rfl rfl ?_
      refine at_v (ov_load rfl rfl rfl (fun _ s => s.ld (k := 0) rfl rfl)) rfl rfl rfl ?_
      refine at_nil ?_
      refine at_normal ?_
      refine hK10 _ _ _ ?_
      refine at_block ?_
      refine at_seq_k (fun K11 hK11 => ?_)
      refine at_region ?_
      refine at_v (ov_int rfl rfl rfl rfl) rfl rfl rfl ?_
      refine at_v (ov_assign rfl rfl) rfl rfl rfl ?_
      refine at_nil ?_
      refine at_normal ?_
      refine hK11 _ _ _ ?_
      refine at_cond_true (congrArg (fun b => some (Value.bool b)) (show _ = true from decide_eq_true (by omega))) ?_
      refine at_region ?_
      refine at_v (ov_move rfl rfl) rfl rfl rfl ?_
      refine at_t (ot_call (ks := []) rfl rfl rfl Tryd.call37 rfl (hR34 ) rfl) rfl rfl rfl ?_
      rintro v0 _ ⟨m0, hp0, rfl⟩
      obtain ⟨rfl, rfl⟩ := hp0
      simp only [List.cons_append, List.nil_append, splice, spliceL]
      refine at_v (ov_catL rfl rfl rfl (by first | omega | (simp only [List.length_append, List.length_cons, List.length_nil]; omega))) rfl rfl rfl ?_
      refine at_v (ov_catL rfl rfl rfl (by first | omega | (simp only [List.length_append, List.length_cons, List.length_nil]; omega))) rfl rfl rfl ?_
      refine at_v (ov_assign rfl rfl) rfl rfl rfl ?_
      refine at_nil ?_
      refine at_inb_normal ?_
      refine at_normal ?_
      refine hK9 _ _ _ ?_
      refine at_region ?_
      refine at_v (ov_move rfl rfl) rfl rfl rfl ?_
      refine at_v (ov_move rfl rfl) rfl rfl rfl ?_
      refine at_t (ot_buildSlice (cs := [_]) rfl Tryd.underlying45 rfl rfl rfl rfl rfl rfl) rfl rfl rfl ?_
      rintro _ _ ⟨g1, rfl, rfl⟩
      refine at_t (ot_append (k := 2) (size := 1) (bytes := 16) (ys := [[34] ++ dblL 34 s ++ [34]]) (fun _ s => s.rdPt (k := 0) rfl rfl (by simp [bsE])) rfl Tryd.underlying45 (ti := Tryd.t9) rfl rfl rfl rfl rfl (by decide) rfl rfl rfl (by simp [bsE, Value.oneCell']) (by simp; omega) (by decide)) rfl rfl rfl ?_
      rintro _ _ ⟨A0, c0, rfl, rfl⟩
      simp only [setAt]
      rw [← ew]
      refine at_v (ov_assign rfl rfl) rfl rfl rfl ?_
      refine at_nil ?_
      refine at_inb_normal ?_
      refine at_normal ?_
      refine hK6 _ _ _ ?_
      refine at_region ?_
      refine at_v ((ov_int rfl rfl rfl rfl).eq (congrArg (Value.int .i64) (inK_i64 (by omega) (by omega)))) rfl rfl rfl ?_
      refine at_v (ov_move rfl rfl) rfl rfl rfl ?_
      refine at_nil ?_
      refine at_normal ?_
      refine at_roundF (k + 1, A0, c0) hlt (by simp only; omega) ⟨rfl, look_eq rfl (by simp only [hms]), trivial⟩ rfl ?_
      simp only [setAt, hms]
      exact fun _ s => s.finEq (ks := [2]) (js := [0, 0]) rfl rfl rfl
    have hi2 : decide (kd = 2) = false := decide_eq_false h2
    by_cases h3 : kd = 3
    · have hi3 : decide (kd = 3) = true := decide_eq_true h3
      have ew : writeT (kd, s) = [39] ++ dblL 39 s ++ [39] := by simp [writeT, h3]
      refine at_seq_k (fun K4 hK4 => ?_)
      refine at_region ?_
      refine at_v (ov_int rfl rfl rfl rfl) rfl rfl rfl ?_
      refine at_nil ?_
      refine at_normal ?_
      refine hK4 _ _ _ ?_
      refine at_seq_k (fun K5 hK5 => ?_)
      refine at_cond_true (congrArg (fun b => some (Value.bool b)) (show _ = true from decide_eq_true (by omega))) ?_
      refine at_skip ?_
      refine at_normal ?_
      refine hK5 _ _ _ ?_
      refine at_seq_k (fun K6 hK6 => ?_)
      refine at_block ?_
      refine at_seq_k (fun K7 hK7 => ?_)
      refine at_region ?_
      refine at_v (ov_indexRd (fun _ s => hr.up s) rfl Tryd.underlying22 rfl rfl rfl hget) rfl rfl rfl ?_
      refine at_v (ov_loadRdS (vs := [_, _]) (fun _ s => hr.up s) rfl rfl rfl hget rfl rfl) rfl rfl rfl ?_
      refine at_t (ot_allocA rfl Tryd.zeroValue24) rfl rfl rfl ?_
      rintro _ _ ⟨g0, rfl, rfl⟩
      refine at_t0 (ot_store (k := 0) rfl rfl rfl rfl rfl rfl rfl) rfl rfl ?_
      rintro _ _ ⟨rfl, rfl⟩
      simp only [setAt, splice, spliceL, Value.cells]
      refine at_nil ?_
      refine at_normal ?_
      refine hK7 _ _ _ ?_
      refine at_seq_k (fun K8 hK8 => ?_)
      refine at_region ?_
      refine at_v (ov_fieldAddr (k := 1) (r := 1) rfl rfl rfl rfl) rfl rfl rfl ?_
      refine at_v (ov_load rfl rfl rfl (fun _ s => s.ld (k := 0) rfl rfl)) rfl rfl rfl ?_
      refine at_v (ov_assign rfl rfl) rfl rfl rfl ?_
      refine at_nil ?_
      refine at_normal ?_
      refine hK8 _ _ _ ?_
      refine at_seq_k (fun K9 hK9 => ?_)
      refine at_seq_k (fun K10 hK10 => ?_)
      refine at_region ?_
      refine at_v (ov_fieldAddr (k := 0) (r := 0) rfl rfl rfl rfl) rfl rfl rfl ?_
      refine at_v (ov_load rfl rfl rfl (fun _ s => s.ld (k := 0) rfl rfl)) rfl rfl rfl ?_
      refine at_nil ?_
      refine at_normal ?_
      refine hK10 _ _ _ ?_
      refine at_block ?_
      refine at_seq_k (fun K11 hK11 => ?_)
      refine at_region ?_
      refine at_v (ov_int rfl rfl rfl rfl) rfl rfl rfl ?_
      refine at_v (ov_assign rfl rfl) rfl rfl rfl ?_
      refine at_nil ?_
      refine at_normal ?_
      refine hK11 _ _ _ ?_
      refine at_cond_false (congrArg (fun b => some (Value.bool b)) (show _ = false from decide_eq_false (by omega))) ?_
      refine at_seq_k (fun K12 hK12 => ?_)
      refine at_region ?_
      refine at_v (ov_int rfl rfl rfl rfl) rfl rfl rfl ?_
      refine at_v (ov_assign rfl rfl) rfl rfl rfl ?_
      refine at_nil ?_
      refine at_normal ?_
      refine hK12 _ _ _ ?_
      refine at_cond_true (congrArg (fun b => some (Value.bool b)) (show _ = true from decide_eq_true (by omega))) ?_
      refine at_region ?_
      refine at_v (ov_move rfl rfl) rfl rfl rfl ?_
      refine at_t (ot_call (ks := []) rfl rfl rfl Tryd.call37 rfl (hR39 ) rfl) rfl rfl rfl ?_
      rintro v0 _ ⟨m0, hp0, rfl⟩
      obtain ⟨rfl, rfl⟩ := hp0
      simp only [List.cons_append, List.nil_append, splice, spliceL]
      refine at_v (ov_catL rfl rfl rfl (by first | omega | (simp only [List.length_append, List.length_cons, List.length_nil]; omega))) rfl rfl rfl ?_
      refine at_v (ov_catL rfl rfl rfl (by first | omega | (simp only [List.length_append, List.length_cons, List.length_nil]; omega))) rfl rfl rfl ?_
      refine at_v (ov_assign rfl rfl) rfl rfl rfl ?_
      refine at_nil ?_
      refine at_inb_normal ?_
      refine at_normal ?_
      refine hK9 _ _ _ ?_
      refine at_region ?_
      refine at_v (ov_move rfl rfl) rfl rfl rfl ?_
      refine at_v (ov_move rfl rfl) rfl rfl rfl ?_
      refine at_t (ot_buildSlice (cs := [_]) rfl Tryd.underlying45 rfl rfl rfl rfl rfl rfl) rfl rfl rfl ?_
      rintro _ _ ⟨g1, rfl, rfl⟩
      refine at_t (ot_append (k := 2) (size := 1) (bytes := 16) (ys := [[39] ++ dblL 39 s ++ [39]]) (fun _ s => s.rdPt (k := 0) rfl rfl (by simp [bsE])) rfl Tryd.underlying45 (ti := Tryd.t9) rfl rfl rfl rfl rfl (by decide) rfl rfl rfl (by simp [bsE, Value.oneCell']) (by simp; omega) (by decide)) rfl rfl rfl ?_
      rintro _ _ ⟨A0, c0, rfl, rfl⟩
      simp only [setAt]
      rw [← ew]
      refine at_v (ov_assign rfl rfl) rfl rfl rfl ?_
      refine at_nil ?_
      refine at_inb_normal ?_
      refine at_normal ?_
      refine hK6 _ _ _ ?_
      refine at_region ?_
      refine at_v ((ov_int rfl rfl rfl rfl).eq (congrArg (Value.int .i64) (inK_i64 (by omega) (by omega)))) rfl rfl rfl ?_
      refine at_v (ov_move rfl rfl) rfl rfl rfl ?_
      refine at_nil ?_
      refine at_normal ?_
      refine at_roundF (k + 1, A0, c0) hlt (by simp only; omega) ⟨rfl, look_eq rfl (by simp only [hms]), trivial⟩ rfl ?_
      simp only [setAt, hms]
      exact fun _ s => s.finEq (ks := [2]) (js := [0, 0]) rfl rfl rfl
    have hi3 : decide (kd = 3) = false := decide_eq_false h3
    by_cases h5 : kd = 5
    · have hi5 : decide (kd = 5) = true := decide_eq_true h5
      have ew : writeT (kd, s) = [47, 42, 43, 32] ++ s ++ [32] ++ [42, 47] := by simp [writeT, h5]
      refine at_seq_k (fun K4 hK4 => ?_)
      refine at_region ?_
      refine at_v (ov_int rfl rfl rfl rfl) rfl rfl rfl ?_
      refine at_nil ?_
      refine at_normal ?_
      refine hK4 _ _ _ ?_
      refine at_seq_k (fun K5 hK5 => ?_)
      refine at_cond_true (congrArg (fun b => some (Value.bool b)) (show _ = true from decide_eq_true (by omega))) ?_
      refine at_skip ?_
      refine at_normal ?_
      refine hK5 _ _ _ ?_
      refine at_seq_k (fun K6 hK6 => ?_)
      refine at_block ?_
      refine at_seq_k (fun K7 hK7 => ?_)
      refine at_region ?_
      refine at_v (ov_indexRd (fun _ s => hr.up s) rfl Tryd.underlying22 rfl rfl rfl hget) rfl rfl rfl ?_
      refine at_v (ov_loadRdS (vs := [_, _]) (fun _ s => hr.up s) rfl rfl rfl hget rfl rfl) rfl rfl rfl ?_
      refine at_t (ot_allocA rfl Tryd.zeroValue24) rfl rfl rfl ?_
      rintro _ _ ⟨g0, rfl, rfl⟩
      refine at_t0 (ot_store (k := 0) rfl rfl rfl rfl rfl rfl rfl) rfl rfl ?_
      rintro _ _ ⟨rfl, rfl⟩
      simp only [setAt, splice, spliceL, Value.cells]
      refine at_nil ?_
      refine at_normal ?_
      refine hK7 _ _ _ ?_
      refine at_seq_k (fun K8 hK8 => ?_)
      refine at_region ?_
      refine at_v (ov_fieldAddr (k := 1) (r := 1) rfl rfl rfl rfl) rfl rfl rfl ?_
      refine at_v (ov_load rfl rfl rfl (fun _ s => s.ld (k := 0) rfl rfl)) rfl rfl rfl ?_
      refine at_v (ov_assign rfl rfl) rfl rfl rfl ?_
      refine at_nil ?_
      refine at_normal ?_
      refine hK8 _ _ _ ?_
      refine at_seq_k (fun K9 hK9 => ?_)
      refine at_seq_k (fun K10 hK10 => ?_)
      refine at_region ?_
      refine at_v (ov_fieldAddr (k := 0) (r := 0) rfl rfl rfl rfl) rfl rfl rfl ?_
      refine at_v (ov_load rfl rfl rfl (fun _ s => s.ld (k := 0) rfl rfl)) rfl rfl rfl ?_
      refine at_nil ?_
      refine at_normal ?_
      refine hK10 _ _ _ ?_
      refine at_block ?_
      refine at_seq_k (fun K11 hK11 => ?_)
      refine at_region ?_
      refine at_v (ov_int rfl rfl rfl rfl) rfl rfl rfl ?_
      refine at_v (ov_assign rfl rfl) rfl rfl rfl ?_
      refine at_nil ?_
      refine at_normal ?_
      refine hK11 _ _ _ ?_
      refine at_cond_false (congrArg (fun b => some (Value.bool b)) (show _ = false from decide_eq_false (by omega))) ?_
      refine at_seq_k (fun K12 hK12 => ?_)
      refine at_region ?_
      refine at_v (ov_int rfl rfl rfl rfl) rfl rfl rfl ?_
      refine at_v (ov_assign rfl rfl) rfl rfl rfl ?_
      refine at_nil ?_
      refine at_normal ?_
      refine hK12 _ _ _ ?_
      refine at_cond_false (congrArg (fun b => some (Value.bool b)) (show _ = false from decide_eq_false (by omega))) ?_
      refine at_seq_k (fun K13 hK13 => ?_)
      refine at_region ?_
      refine at_v (ov_int rfl rfl rfl rfl) rfl rfl rfl ?_
      refine at_v (ov_assign rfl rfl) rfl rfl rfl ?_
      refine at_nil ?_
      refine at_normal ?_
      refine hK13 _ _ _ ?_
      refine at_cond_true (congrArg (fun b => some (Value.bool b)) (show _ = true from decide_eq_true (by omega))) ?_
      refine at_region ?_
      refine at_v (ov_move rfl rfl) rfl rfl rfl ?_
      refine at_v (ov_catL rfl rfl rfl (by first | omega | (simp only [List.length_append, List.length_cons, List.length_nil]; omega))) rfl rfl rfl ?_
      refine at_v (ov_catL rfl rfl rfl (by first | omega | (simp only [List.length_append, List.length_cons, List.length_nil]; omega))) rfl rfl rfl ?_
      refine at_v (ov_catL rfl rfl rfl (by first | omega | (simp only [List.length_append, List.length_cons, List.length_nil]; omega))) rfl rfl rfl ?_
      refine at_v (ov_assign rfl rfl) rfl rfl rfl ?_
      refine at_nil ?_
      refine at_inb_normal ?_
      refine at_normal ?_
      refine hK9 _ _ _ ?_
      refine at_region ?_
      refine at_v (ov_move rfl rfl) rfl rfl rfl ?_
      refine at_v (ov_move rfl rfl) rfl rfl rfl ?_
      refine at_t (ot_buildSlice (cs := [_]) rfl Tryd.underlying45 rfl rfl rfl rfl rfl rfl) rfl rfl rfl ?_
      rintro _ _ ⟨g1, rfl, rfl⟩
      refine at_t (ot_append (k := 2) (size := 1) (bytes := 16) (ys := [[47, 42, 43, 32] ++ s ++ [32] ++ [42, 47]]) (fun _ s => s.rdPt (k := 0) rfl rfl (by simp [bsE])) rfl Tryd.underlying45 (ti := Tryd.t9) rfl rfl rfl rfl rfl (by decide) rfl rfl rfl (by simp [bsE, Value.oneCell']) (by simp; omega) (by decide)) rfl rfl rfl ?_
      rintro _ _ ⟨A0, c0, rfl, rfl⟩
      simp only [setAt]
      rw [← ew]
      refine at_v (ov_assign rfl rfl) rfl rfl rfl ?_
      refine at_nil ?_
      refine at_inb_normal ?_
      refine at_normal ?_
      refine hK6 _ _ _ ?_
      refine at_region ?_
      refine at_v ((ov_int rfl rfl rfl rfl).eq (congrArg (Value.int .i64) (inK_i64 (by omega) (by omega)))) rfl rfl rfl ?_
      refine at_v (ov_move rfl rfl) rfl rfl rfl ?_
      refine at_nil ?_
      refine at_normal ?_
      refine at_roundF (k + 1, A0, c0) hlt (by simp only; omega) ⟨rfl, look_eq rfl (by simp only [hms]), trivial⟩ rfl ?_
      simp only [setAt, hms]
      exact fun _ s => s.finEq (ks := [2]) (js := [0, 0]) rfl rfl rfl
    have hi5 : decide (kd = 5) = false := decide_eq_false h5
    have ew : writeT (kd, s) = s := by simp [writeT, h2, h3, h5]
    refine at_seq_k (fun K4 hK4 => ?_)
    refine at_region ?_
    refine at_v (ov_int rfl rfl rfl rfl) rfl rfl rfl ?_
    refine at_nil ?_
    refine at_normal ?_
    refine hK4 _ _ _ ?_
    refine at_seq_k (fun K5 hK5 => ?_)
    refine at_cond_true (congrArg (fun b => some (Value.bool b)) (show _ = true from decide_eq_true (by omega))) ?_
    refine at_skip ?_
    refine at_normal ?_
    refine hK5 _ _ _ ?_
    refine at_seq_k (fun K6 hK6 => ?_)
    refine at_block ?_
    refine at_seq_k (fun K7 hK7 => ?_)
    refine at_region ?_
    refine at_v (ov_indexRd (fun _ s => hr.up s) rfl Tryd.underlying22 rfl rfl rfl hget) rfl rfl rfl ?_
    refine at_v (ov_loadRdS (vs := [_, _]) (fun _ s => hr.up s) rfl rfl rfl hget rfl rfl) rfl rfl rfl ?_
    refine at_t (ot_allocA rfl Tryd.zeroValue24) rfl rfl rfl ?_
    rintro _ _ ⟨g0, rfl, rfl⟩
    refine at_t0 (ot_store (k := 0) rfl rfl rfl rfl rfl rfl rfl) rfl rfl ?_
    rintro _ _ ⟨rfl, rfl⟩
    simp only [setAt, splice, spliceL, Value.cells]
    refine at_nil ?_
    refine at_normal ?_
    refine hK7 _ _ _ ?_
    refine at_seq_k (fun K8 hK8 => ?_)
    refine at_region ?_
    refine at_v (ov_fieldAddr (k := 1) (r := 1) rfl rfl rfl rfl) rfl rfl rfl ?_
    refine at_v (ov_load rfl rfl rfl (fun _ s => s.ld (k := 0) rfl rfl)) rfl rfl rfl ?_
    refine at_v (ov_assign rfl rfl) rfl rfl rfl ?_
    refine at_nil ?_
    refine at_normal ?_
    refine hK8 _ _ _ ?_
    refine at_seq_k (fun K9 hK9 => ?_)
    refine at_seq_k (fun K10 hK10 => ?_)
    refine at_region ?_
    refine at_v (ov_fieldAddr (k := 0) (r := 0) rfl rfl rfl rfl) rfl rfl rfl ?_
    refine at_v (ov_load rfl rfl rfl (fun _ s => s.ld (k := 0) rfl rfl)) rfl rfl rfl ?_
    refine at_nil ?_
    refine at_normal ?_
    refine hK10 _ _ _ ?_
    refine at_block ?_
    refine at_seq_k (fun K11 hK11 => ?_)
    refine at_region ?_
    refine at_v (ov_int rfl rfl rfl rfl) rfl rfl rfl ?_
    refine at_v (ov_assign rfl rfl) rfl rfl rfl ?_
    refine at_nil ?_
    refine at_normal ?_
    refine hK11 _ _ _ ?_
    refine at_cond_false (congrArg (fun b => some (Value.bool b)) (show _ = false from decide_eq_false (by omega))) ?_
    refine at_seq_k (fun K12 hK12 => ?_)
    refine at_region ?_
    refine at_v (ov_int rfl rfl rfl rfl) rfl rfl rfl ?_
    refine at_v (ov_assign rfl rfl) rfl rfl rfl ?_
    refine at_nil ?_
    refine at_normal ?_
    refine hK12 _ _ _ ?_
    refine at_cond_false (congrArg (fun b => some (Value.bool b)) (show _ = false from decide_eq_false (by omega))) ?_
    refine at_seq_k (fun K13 hK13 => ?_)
    refine at_region ?_
    refine at_v (ov_int rfl rfl rfl rfl) rfl rfl rfl ?_
    refine at_v (ov_assign rfl rfl) rfl rfl rfl ?_
    refine at_nil ?_
    refine at_normal ?_
    refine hK13 _ _ _ ?_
    refine at_cond_false (congrArg (fun b => some (Value.bool b)) (show _ = false from decide_eq_false (by omega))) ?_
    refine at_skip ?_
    refine at_inb_normal ?_
    refine at_normal ?_
    refine hK9 _ _ _ ?_
    refine at_region ?_
    refine at_v (ov_move rfl rfl) rfl rfl rfl ?_
    refine at_v (ov_move rfl rfl) rfl rfl rfl ?_
    refine at_t (ot_buildSlice (cs := [_]) rfl Tryd.underlying45 rfl rfl rfl rfl rfl rfl) rfl rfl rfl ?_
    rintro _ _ ⟨g1, rfl, rfl⟩
    refine at_t (ot_append (k := 2) (size := 1) (bytes := 16) (ys := [s]) (fun _ s => s.rdPt (k := 0) rfl rfl (by simp [bsE])) rfl Tryd.underlying45 (ti := Tryd.t9) rfl rfl rfl rfl rfl (by decide) rfl rfl rfl (by simp [bsE, Value.oneCell']) (by simp; omega) (by decide)) rfl rfl rfl ?_
    rintro _ _ ⟨A0, c0, rfl, rfl⟩
    simp only [setAt]
    rw [← ew]
    refine at_v (ov_assign rfl rfl) rfl rfl rfl ?_
    refine at_nil ?_
    refine at_inb_normal ?_
    refine at_normal ?_
    refine hK6 _ _ _ ?_
    refine at_region ?_
    refine at_v ((ov_int rfl rfl rfl rfl).eq (congrArg (Value.int .i64) (inK_i64 (by omega) (by omega)))) rfl rfl rfl ?_
    refine at_v (ov_move rfl rfl) rfl rfl rfl ?_
    refine at_nil ?_
    refine at_normal ?_
    refine at_roundF (k + 1, A0, c0) hlt (by simp only; omega) ⟨rfl, look_eq rfl (by simp only [hms]), trivial⟩ rfl ?_
    simp only [setAt, hms]
    exact fun _ s => s.finEq (ks := [2]) (js := [0, 0]) rfl rfl rfl
  · have hi1 : decide ((k : Int) < l.length) = false := decide_eq_false (by omega)
    have hkl : k = l.length := by omega
    subst hkl
    rw [List.take_length] at hlm ⊢
    refine at_seq_k (fun K4 hK4 => ?_)
    refine at_region ?_
    refine at_v (ov_int rfl rfl rfl rfl) rfl rfl rfl ?_
    refine at_nil ?_
    refine at_normal ?_
    refine hK4 _ _ _ ?_
    refine at_seq_k (fun K5 hK5 => ?_)
    refine at_cond_false (congrArg (fun b => some (Value.bool b)) (show _ = false from decide_eq_false (by omega))) ?_
    refine at_exit ?_
    refine at_then_exit ?_
    refine at_then_exit ?_
    refine at_exit_eq ?_
    refine at_normal ?_
    refine hK2 _ _ _ ?_
    refine at_seq_k (fun K6 hK6 => ?_)
    refine at_region ?_
    refine at_v (ov_move rfl rfl) rfl rfl rfl ?_
    refine at_t (ot_call (ks := [0]) rfl rfl rfl Tryd.call38 rfl (T38 _ _ _ (by first | assumption | rfl | omega | decide | (simp; done) | (simp at *; omega)) (by first | assumption | rfl | omega | decide | (simp; done) | (simp at *; omega))) rfl) rfl rfl rfl ?_
    rintro v0 _ ⟨m0, hp0, rfl⟩
    obtain ⟨rfl, rfl⟩ := hp0
    simp only [List.cons_append, List.nil_append, splice, spliceL]
    refine at_v (ov_assign rfl rfl) rfl rfl rfl ?_
    refine at_nil ?_
    refine at_normal ?_
    refine hK6 _ _ _ ?_
    refine at_ret ?_
    refine at_end ?_
    refine at_fin (rsV rfl (res_tmp rfl)) ?_
    refine ⟨_, ⟨rfl, rfl⟩, ?_⟩
    exact fun _ s => s.finEq (ks := []) (js := [0]) rfl rfl rfl
