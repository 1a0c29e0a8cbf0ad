/- Package slices at pairs, walked: Delete. -/
import Derived.Test.YtmedbdcjniggcaaDoorProg
import Derived.Test.YtmedbdcjniggcaaDoorPlan2
import Derived.Test.YtmedbdcjniggcaaDoorSLCopy
import Derived.Test.YtmedbdcjniggcaaDoorSLStr
import Derived.KernelRfl
set_option linter.unusedSimpArgs false
set_option linter.unusedVariables false
set_option maxRecDepth 100000
set_option maxHeartbeats 4000000
namespace Go.Proofs.YtmedbdcjniggcaaDoor
open Go Go.Proofs.YtmedbdcjniggcaaDoor.SL Go.RowKit
theorem T22 (w0 : World) (i : Nat) {A : Option Addr} {c : Nat} {l : List PR} (hm : l.length ≤ 1000000) (hi : i < l.length) :
    Tri Tryd.prog w0 22 [.slice A l.length c, .int .i64 (i : Nat), .int .i64 ((i : Nat) + 1)] [Row pE 48 2 A c l] fun v m => v = .slice A (l.eraseIdx i).length c ∧ m = [Row pE 48 2 A c (l.eraseIdx i)] := by
  refine tri_of Tryd.func22 rfl rfl fun F => ?_
  simp only [Tryd.ntmps22, argEnv, List.cons_append, List.nil_append]
  refine at_rowLen 0 rfl fun hlc hcm => ?_
  refine at_reval 2 (.int .i64 ((i + 1 : Nat))) rfl rfl ?_
  have hi1 : decide ((i : Int) = ((i + 1 : Nat) : Int)) = false := decide_eq_false (by omega)
  refine at_seq_k (fun K0 hK0 => ?_)
  refine at_region ?_
  refine at_v (ov_assign rfl rfl) rfl rfl rfl ?_
  refine at_nil ?_
  refine at_normal ?_
  refine hK0 _ _ _ ?_
  refine at_seq_k (fun K1 hK1 => ?_)
  refine at_region ?_
  refine at_v (ov_move rfl rfl) rfl rfl rfl ?_
  refine at_v (ov_move rfl rfl) rfl rfl rfl ?_
  refine at_v (ov_move rfl rfl) rfl rfl rfl ?_
  refine at_v (ov_move rfl rfl) rfl rfl rfl ?_
  refine at_v (ov_len_slice rfl Tryd.underlying24 rfl) rfl rfl rfl ?_
  refine at_v (ov_slice3 (size := 2) rfl Tryd.underlying24 rfl rfl rfl rfl rfl (by omega) (by omega) (by omega)) rfl rfl rfl ?_
  refine at_nil ?_
  refine at_normal ?_
  refine hK1 _ _ _ ?_
  refine at_seq_k (fun K2 hK2 => ?_)
  refine at_seq_k (fun K3 hK3 => ?_)
  refine at_region ?_
  refine at_v (ov_move rfl rfl) rfl rfl rfl ?_
  refine at_v (ov_move rfl rfl) rfl rfl rfl ?_
  refine at_v (ov_int rfl rfl rfl rfl) rfl rfl rfl ?_
  refine at_nil ?_
  refine at_normal ?_
  refine hK3 _ _ _ ?_
  refine at_cond_false (congrArg (fun b => some (Value.bool b)) (show _ = false from decide_eq_false (by omega))) ?_
  refine at_skip ?_
  refine at_normal ?_
  refine hK2 _ _ _ ?_
  refine at_seq_k (fun K4 hK4 => ?_)
  refine at_region ?_
  refine at_v (ov_move rfl rfl) rfl rfl rfl ?_
  refine at_v (ov_len_slice rfl Tryd.underlying24 rfl) rfl rfl rfl ?_
  refine at_v (ov_assign rfl rfl) rfl rfl rfl ?_
  refine at_nil ?_
  refine at_normal ?_
  refine hK4 _ _ _ ?_
  refine at_seq_k (fun K5 hK5 => ?_)
  refine at_draw _ [] 1000 [(2, 0), (2, 1), (1, 2), (2, 3), (2, 4), (1, 5), (0, 6), (2, 7)] (by kernel_rfl) (by kernel_rfl) (fun _ s => (s.pulls (ks := []) rfl).left) ?_
  refine aq_p (ov_move rfl rfl) rfl rfl rfl ?_
  refine aq_p (ov_move rfl rfl) rfl rfl rfl ?_
  refine aq_v (ov_sliceTo rfl Tryd.underlying24 rfl rfl rfl (by first | assumption | omega) (by assumption)) rfl rfl rfl ?_
  refine aq_p (ov_move rfl rfl) rfl rfl rfl ?_
  refine aq_p (ov_move rfl rfl) rfl rfl rfl ?_
  refine aq_v (ov_sliceFrom rfl Tryd.underlying24 rfl rfl rfl (by first | assumption | omega) (by assumption)) rfl rfl rfl ?_
  have htl : (l.take i).length = i := by rw [List.length_take]; omega
  have hdl : (l.drop (i + 1)).length = l.length - (i + 1) := List.length_drop
  refine aq_t (ot_appendIn (k := 0) (j := (l.take i).length) (size := 2) (ys := l.drop (i + 1)) (fun _ s => rd_dropA s (k := 0) rfl (i + 1)) rfl Tryd.underlying24 rfl rfl rfl rfl rfl (by omega) (by omega) (fun v _ => pE_one v)) rfl rfl rfl ?_
  rintro _ _ ⟨rfl, rfl⟩
  have hel : (l.eraseIdx i).length = (l.take i).length + (l.drop (i + 1)).length := by rw [List.length_eraseIdx_of_lt hi, htl, hdl]; omega
  have e2 : l.take (l.take i).length ++ l.drop (i + 1) ++ l.drop ((l.take i).length + (l.drop (i + 1)).length) = l.eraseIdx i ++ l.drop (l.length - 1) := by
    rw [htl, ← List.eraseIdx_eq_take_drop_succ, hdl]
    congr 2; omega
  rw [e2]
  have hdl1 : (l.drop (l.length - 1)).length = 1 := by rw [List.length_drop]; omega
  simp only [setAt]
  refine ⟨fun _ s => (s.pulls (ks := []) rfl).left, ?_⟩
  rw [← hel]
  refine aq_p (ov_assign rfl rfl) rfl rfl rfl ?_
  refine aq_nil ?_
  refine at_normal ?_
  refine hK5 _ _ _ ?_
  refine at_seq_k (fun K6 hK6 => ?_)
  refine at_region ?_
  refine at_v (ov_move rfl rfl) rfl rfl rfl ?_
  refine at_v (ov_move rfl rfl) rfl rfl rfl ?_
  refine at_v (ov_len_slice rfl Tryd.underlying24 rfl) rfl rfl rfl ?_
  refine at_v (ov_move rfl rfl) rfl rfl rfl ?_
  refine at_v (ov_sliceMidC (j := (l.eraseIdx i).length) (k := l.length) (size := 2) rfl Tryd.underlying24 rfl rfl rfl rfl (by omega) (by omega)) rfl rfl rfl ?_
  refine at_reval 31 (.slice (dropA A c (l.eraseIdx i).length 2) ((l.eraseIdx i ++ l.drop (l.length - 1)).drop (l.eraseIdx i).length).length (c - (l.eraseIdx i).length)) rfl (by rw [List.drop_left, hdl1]; congr 1; omega) ?_
  
  refine at_t0 (ot_clearRow (k := 0) (i := (l.eraseIdx i).length) (size := 2) rfl Tryd.underlying24 Tryd.zeroValue48 rfl rfl rfl rfl (by simp)) rfl rfl ?_
  rintro _ _ ⟨rfl, rfl⟩
  have e3 : (l.eraseIdx i ++ l.drop (l.length - 1)).take (l.eraseIdx i).length = l.eraseIdx i := List.take_left
  rw [e3]
  simp only [setAt]
  refine at_nil ?_
  refine at_normal ?_
  refine hK6 _ _ _ ?_
  refine at_seq_k (fun K7 hK7 => ?_)
  refine at_region ?_
  refine at_v (ov_move rfl rfl) rfl rfl rfl ?_
  refine at_v (ov_assign rfl rfl) rfl rfl rfl ?_
  refine at_nil ?_
  refine at_normal ?_
  refine hK7 _ _ _ ?_
  refine at_ret ?_
  refine at_end ?_
  refine at_fin (rsV rfl (res_tmp rfl)) ?_
  refine ⟨_, ⟨rfl, rfl⟩, ?_⟩
  exact fun _ s => s.finEq (ks := [0]) (js := []) rfl rfl rfl
theorem T8 (w0 : World) (p : PM) {A : Option Addr} {c : Nat} {l : List PR} (hr : Rd pE w0 2 A l) (ht : tabB l = true) (hm : l.length ≤ 1000000) :
    Tri Tryd.prog w0 8 [.agg #[.int .i64 p.1, SV p.2.1, SV p.2.2], .slice A l.length c] [] fun v m => ∃ B e, v = .tuple #[.slice B (writesL p l).1.length e, .int .i64 (writesL p l).2] ∧ m = [Row pE 48 2 B e (writesL p l).1] := by
  refine tri_of Tryd.func8 rfl rfl fun F => ?_
  simp only [Tryd.ntmps8, argEnv, List.cons_append, List.nil_append]
  have hpl := pos_le l p.2.1
  have hget (h : isL l p.2.1 = true) : ∃ y, l[posL l p.2.1]? = some y ∧ y.1 = p.2.1 := by
    unfold isL at h
    cases hy : l[posL l p.2.1]? with
    | none => rw [hy] at h; cases h
    | some y => rw [hy] at h; exact ⟨y, rfl, by simpa using h⟩
  by_cases h3 : p.1 = 3
  · have hi3 : decide (p.1 = 3) = true := decide_eq_true h3
    cases his : isL l p.2.1 with
    | false =>
      have hw : writesL p l = (l.take (posL l p.2.1) ++ (p.2.1, p.2.2) :: l.drop (posL l p.2.1), 1) := by unfold writesL; rw [if_pos ⟨h3, his⟩]
      have hP := T19 w0 p.2.1 (A := A) (c := c) hr ht hm
      rw [his] at hP
      refine at_seq_k (fun K0 hK0 => ?_)
      refine at_region ?_
      refine at_t (ot_boxA rfl rfl) rfl rfl rfl ?_
      rintro _ _ ⟨g0, rfl, rfl⟩
      refine at_v (ov_assign rfl rfl) rfl rfl rfl ?_
      refine at_v (ov_assign rfl rfl) rfl rfl rfl ?_
      refine at_nil ?_
      refine at_normal ?_
      refine hK0 _ _ _ ?_
      refine at_seq_k (fun K1 hK1 => ?_)
      refine at_region ?_
      refine at_v (ov_move rfl rfl) rfl rfl rfl ?_
      refine at_t (ot_call (ks := []) rfl rfl rfl Tryd.call18 rfl (T18 _ (by first | assumption | rfl | omega | decide | (simp; done) | (simp at *; omega)) (by first | assumption | rfl | omega | decide | (simp; done) | (simp at *; omega))) rfl) rfl rfl rfl ?_
      rintro v0 _ ⟨m0, hp0, rfl⟩
      obtain ⟨B0, hp0⟩ := hp0
      obtain ⟨e0, hp0⟩ := hp0
      obtain ⟨rfl, rfl⟩ := hp0
      simp only [List.cons_append, List.nil_append, splice, spliceL]
      refine at_v (ov_assign rfl rfl) rfl rfl rfl ?_
      refine at_nil ?_
      refine at_normal ?_
      refine hK1 _ _ _ ?_
      refine at_seq_k (fun K2 hK2 => ?_)
      refine at_region ?_
      refine at_v (ov_move rfl rfl) rfl rfl rfl ?_
      refine at_v (ov_fieldAddr (k := 1) (r := 1) rfl rfl rfl rfl) rfl rfl rfl ?_
      refine at_v (ov_load rfl rfl rfl (fun _ s => s.ld (k := 1) rfl rfl)) rfl rfl rfl ?_
      refine at_t (ot_call (ks := []) rfl rfl rfl Tryd.call19 rfl (hP ) rfl) rfl rfl rfl ?_
      rintro v0 _ ⟨m0, hp0, rfl⟩
      obtain ⟨rfl, rfl⟩ := hp0
      simp only [List.cons_append, List.nil_append, splice, spliceL]
      refine at_v (ov_move rfl rfl) rfl rfl rfl ?_
      refine at_v (ov_extract rfl rfl rfl) rfl rfl rfl ?_
      refine at_v (ov_extract rfl rfl rfl) rfl rfl rfl ?_
      refine at_v (ov_assign rfl rfl) rfl rfl rfl ?_
      refine at_v (ov_assign rfl rfl) rfl rfl rfl ?_
      refine at_nil ?_
      refine at_normal ?_
      refine hK2 _ _ _ ?_
      refine at_seq_k (fun K3 hK3 => ?_)
      refine at_block ?_
      refine at_seq_k (fun K4 hK4 => ?_)
      refine at_region ?_
      refine at_v (ov_fieldAddr (k := 0) (r := 0) rfl rfl rfl rfl) rfl rfl rfl ?_
      refine at_v (ov_load rfl rfl rfl (fun _ s => s.ld (k := 1) rfl rfl)) rfl rfl rfl ?_
      refine at_v (ov_int rfl rfl rfl rfl) rfl rfl rfl ?_
      refine at_v (ov_move rfl rfl) rfl rfl rfl ?_
      refine at_reval 22 (.bool true) rfl (congrArg Value.bool (decide_eq_true (by omega))) ?_
      refine at_wanted (j := 3) rfl ?_
      refine at_v (ov_move rfl rfl) rfl rfl rfl ?_
      refine at_wanted (j := 3) rfl ?_
      refine at_v (ov_not rfl rfl) rfl rfl rfl ?_
      refine at_v (ov_pick_t rfl rfl rfl) rfl rfl rfl ?_
      refine at_v (ov_assign rfl rfl) rfl rfl rfl ?_
      refine at_nil ?_
      refine at_normal ?_
      refine hK4 _ _ _ ?_
      refine at_cond_true rfl ?_
      refine at_seq_k (fun K5 hK5 => ?_)
      refine at_region ?_
      refine at_v (ov_move rfl rfl) rfl rfl rfl ?_
      refine at_v (ov_move rfl rfl) rfl rfl rfl ?_
      refine at_v (ov_fieldAddr (k := 1) (r := 1) rfl rfl rfl rfl) rfl rfl rfl ?_
      refine at_v (ov_load rfl rfl rfl (fun _ s => s.ld (k := 1) rfl rfl)) rfl rfl rfl ?_
      refine at_v (ov_fieldAddr (k := 2) (r := 2) rfl rfl rfl rfl) rfl rfl rfl ?_
      refine at_v (ov_load rfl rfl rfl (fun _ s => s.ld (k := 1) rfl rfl)) rfl rfl rfl ?_
      refine at_v (ov_build (cs := [_, _]) rfl rfl rfl rfl) rfl rfl rfl ?_
      refine at_t (ot_buildSlice (cs := [_, _]) rfl Tryd.underlying24 rfl rfl rfl rfl rfl rfl) rfl rfl rfl ?_
      rintro _ _ ⟨g1, rfl, rfl⟩
      refine at_t (ot_call (ks := [1, 0]) rfl rfl rfl Tryd.call21 rfl (T21 _ _ _ (by first | assumption | rfl | omega | decide | (simp; done) | (simp at *; omega)) (by first | assumption | rfl | omega | decide | (simp; done) | (simp at *; omega))) rfl) rfl rfl rfl ?_
      rintro v0 _ ⟨m0, hp0, rfl⟩
      obtain ⟨B1, hp0⟩ := hp0
      obtain ⟨e1, hp0⟩ := hp0
      obtain ⟨rfl, rfl⟩ := hp0
      simp only [List.cons_append, List.nil_append, splice, spliceL]
      refine at_v (ov_assign rfl rfl) rfl rfl rfl ?_
      refine at_v (ov_assign rfl rfl) rfl rfl rfl ?_
      refine at_nil ?_
      refine at_normal ?_
      refine hK5 _ _ _ ?_
      refine at_ret ?_
      refine at_inb_ret ?_
      refine at_then_ret ?_
      refine at_end ?_
      refine at_fin (rsL (vs := [_, _]) rfl ⟨res_tmp rfl, res_tmp rfl, trivial⟩ rfl) ?_
      refine ⟨_, ⟨B1, e1, by rw [hw], rfl⟩, ?_⟩
      rw [hw]
      exact fun _ s => s.finEq (ks := [0]) (js := [0]) rfl rfl rfl
    | true =>
      obtain ⟨y, hy, hyk⟩ := hget his
      have hw : writesL p l = (l.set (posL l p.2.1) (p.2.1, p.2.2), 1) := by unfold writesL; rw [if_neg (by simp [his]), if_pos (.inl h3)]
      have hP := T19 w0 p.2.1 (A := A) (c := c) hr ht hm
      rw [his] at hP
      refine at_seq_k (fun K0 hK0 => ?_)
      refine at_region ?_
      refine at_t (ot_boxA rfl rfl) rfl rfl rfl ?_
      rintro _ _ ⟨g0, rfl, rfl⟩
      refine at_v (ov_assign rfl rfl) rfl rfl rfl ?_
      refine at_v (ov_assign rfl rfl) rfl rfl rfl ?_
      refine at_nil ?_
      refine at_normal ?_
      refine hK0 _ _ _ ?_
      refine at_seq_k (fun K1 hK1 => ?_)
      refine at_region ?_
      refine at_v (ov_move rfl rfl) rfl rfl rfl ?_
      refine at_t (ot_call (ks := []) rfl rfl rfl Tryd.call18 rfl (T18 _ (by first | assumption | rfl | omega | decide | (simp; done) | (simp at *; omega)) (by first | assumption | rfl | omega | decide | (simp; done) | (simp at *; omega))) rfl) rfl rfl rfl ?_
      rintro v0 _ ⟨m0, hp0, rfl⟩
      obtain ⟨B0, hp0⟩ := hp0
      obtain ⟨e0, hp0⟩ := hp0
      obtain ⟨rfl, rfl⟩ := hp0
      simp only [List.cons_append, List.nil_append, splice, spliceL]
      refine at_v (ov_assign rfl rfl) rfl rfl rfl ?_
      refine at_nil ?_
      refine at_normal ?_
      refine hK1 _ _ _ ?_
      refine at_seq_k (fun K2 hK2 => ?_)
      refine at_region ?_
      refine at_v (ov_move rfl rfl) rfl rfl rfl ?_
      refine at_v (ov_fieldAddr (k := 1) (r := 1) rfl rfl rfl rfl) rfl rfl rfl ?_
      refine at_v (ov_load rfl rfl rfl (fun _ s => s.ld (k := 1) rfl rfl)) rfl rfl rfl ?_
      refine at_t (ot_call (ks := []) rfl rfl rfl Tryd.call19 rfl (hP ) rfl) rfl rfl rfl ?_
      rintro v0 _ ⟨m0, hp0, rfl⟩
      obtain ⟨rfl, rfl⟩ := hp0
      simp only [List.cons_append, List.nil_append, splice, spliceL]
      refine at_v (ov_move rfl rfl) rfl rfl rfl ?_
      refine at_v (ov_extract rfl rfl rfl) rfl rfl rfl ?_
      refine at_v (ov_extract rfl rfl rfl) rfl rfl rfl ?_
      refine at_v (ov_assign rfl rfl) rfl rfl rfl ?_
      refine at_v (ov_assign rfl rfl) rfl rfl rfl ?_
      refine at_nil ?_
      refine at_normal ?_
      refine hK2 _ _ _ ?_
      refine at_seq_k (fun K3 hK3 => ?_)
      refine at_block ?_
      refine at_seq_k (fun K4 hK4 => ?_)
      refine at_region ?_
      refine at_v (ov_fieldAddr (k := 0) (r := 0) rfl rfl rfl rfl) rfl rfl rfl ?_
      refine at_v (ov_load rfl rfl rfl (fun _ s => s.ld (k := 1) rfl rfl)) rfl rfl rfl ?_
      refine at_v (ov_int rfl rfl rfl rfl) rfl rfl rfl ?_
      refine at_v (ov_move rfl rfl) rfl rfl rfl ?_
      refine at_reval 22 (.bool true) rfl (congrArg Value.bool (decide_eq_true (by omega))) ?_
      refine at_wanted (j := 3) rfl ?_
      refine at_v (ov_move rfl rfl) rfl rfl rfl ?_
      refine at_wanted (j := 3) rfl ?_
      refine at_v (ov_not rfl rfl) rfl rfl rfl ?_
      refine at_v (ov_pick_t rfl rfl rfl) rfl rfl rfl ?_
      refine at_v (ov_assign rfl rfl) rfl rfl rfl ?_
      refine at_nil ?_
      refine at_normal ?_
      refine hK4 _ _ _ ?_
      refine at_cond_false rfl ?_
      refine at_seq_k (fun K5 hK5 => ?_)
      refine at_region ?_
      refine at_v (ov_fieldAddr (k := 0) (r := 0) rfl rfl rfl rfl) rfl rfl rfl ?_
      refine at_v (ov_load rfl rfl rfl (fun _ s => s.ld (k := 1) rfl rfl)) rfl rfl rfl ?_
      refine at_v (ov_int rfl rfl rfl rfl) rfl rfl rfl ?_
      refine at_v (ov_move rfl rfl) rfl rfl rfl ?_
      refine at_reval 39 (.bool true) rfl (congrArg Value.bool (decide_eq_true (by omega))) ?_
      refine at_unwanted (j := 3) rfl rfl rfl rfl ?_
      refine at_unwanted (j := 3) rfl rfl rfl rfl ?_
      refine at_unwanted (j := 3) rfl rfl rfl rfl ?_
      refine at_unwanted (j := 3) rfl rfl rfl rfl ?_
      refine at_unwantedN (j := 7) rfl rfl rfl ?_
      refine at_unwanted (j := 3) rfl rfl rfl rfl ?_
      refine at_v (ov_pick_t rfl rfl rfl) rfl rfl rfl ?_
      refine at_v (ov_assign rfl rfl) rfl rfl rfl ?_
      refine at_nil ?_
      refine at_normal ?_
      refine hK5 _ _ _ ?_
      refine at_cond_true rfl ?_
      refine at_seq_k (fun K6 hK6 => ?_)
      refine at_region ?_
      refine at_v (ov_move rfl rfl) rfl rfl rfl ?_
      refine at_v (ov_move rfl rfl) rfl rfl rfl ?_
      refine at_v (ov_fieldAddr (k := 2) (r := 2) rfl rfl rfl rfl) rfl rfl rfl ?_
      refine at_v (ov_load rfl rfl rfl (fun _ s => s.ld (k := 1) rfl rfl)) rfl rfl rfl ?_
      refine at_v (ov_indexRd (fun _ s => s.rd (k := 0) rfl) rfl Tryd.underlying24 rfl rfl rfl hy) rfl rfl rfl ?_
      refine at_v (ov_fieldRd0 (k := 1) (fun _ s => s.rd (k := 0) rfl) rfl rfl hy rfl) rfl rfl rfl ?_
      refine at_t0 (ot_storeRow (k := 0) (i := posL l p.2.1) (j := 1) (u := y) (u' := (y.1, p.2.2)) rfl rfl rfl rfl hy rfl (Nat.le_refl _) rfl rfl) rfl rfl ?_
      rintro _ _ ⟨rfl, rfl⟩
      simp only [setAt]
      refine at_nil ?_
      refine at_normal ?_
      refine hK6 _ _ _ ?_
      refine at_seq_k (fun K7 hK7 => ?_)
      refine at_region ?_
      refine at_v (ov_move rfl rfl) rfl rfl rfl ?_
      refine at_v (ov_assign rfl rfl) rfl rfl rfl ?_
      refine at_v (ov_assign rfl rfl) rfl rfl rfl ?_
      refine at_nil ?_
      refine at_normal ?_
      refine hK7 _ _ _ ?_
      refine at_ret ?_
      refine at_inb_ret ?_
      refine at_then_ret ?_
      refine at_end ?_
      have hls : (l.set (posL l p.2.1) (p.2.1, p.2.2)).length = l.length := List.length_set
      refine at_fin (rsL (vs := [_, _]) rfl ⟨res_tmp rfl, res_tmp rfl, trivial⟩ rfl) ?_
      refine ⟨_, ⟨B0, e0, by rw [hw, hls], rfl⟩, ?_⟩
      rw [hw]
      simp only [hyk]
      exact fun _ s => s.finEq (ks := [0]) (js := [0]) rfl rfl rfl
  · have hi3 : decide (p.1 = 3) = false := decide_eq_false h3
    cases his : isL l p.2.1 with
    | false =>
      have hw : writesL p l = (l, 0) := by unfold writesL; rw [if_neg (by simp [h3]), if_neg (by simp [h3, his]), if_neg (by simp [his])]
      have hP := T19 w0 p.2.1 (A := A) (c := c) hr ht hm
      rw [his] at hP
      obtain ⟨b4, hb4⟩ : ∃ b, decide (p.1 = 4) = b := ⟨_, rfl⟩
      obtain ⟨b5, hb5⟩ : ∃ b, decide (p.1 = 5) = b := ⟨_, rfl⟩
      cases b4 with
      | true =>
        have hi5 : decide (p.1 = 5) = false := decide_eq_false (by have := of_decide_eq_true hb4; omega)
        refine at_seq_k (fun K0 hK0 => ?_)
        refine at_region ?_
        refine at_t (ot_boxA rfl rfl) rfl rfl rfl ?_
        rintro _ _ ⟨g0, rfl, rfl⟩
        refine at_v (ov_assign rfl rfl) rfl rfl rfl ?_
        refine at_v (ov_assign rfl rfl) rfl rfl rfl ?_
        refine at_nil ?_
        refine at_normal ?_
        refine hK0 _ _ _ ?_
        refine at_seq_k (fun K1 hK1 => ?_)
        refine at_region ?_
        refine at_v (ov_move rfl rfl) rfl rfl rfl ?_
        refine at_t (ot_call (ks := []) rfl rfl rfl Tryd.call18 rfl (T18 _ (by first | assumption | rfl | omega | decide | (simp; done) | (simp at *; omega)) (by first | assumption | rfl | omega | decide | (simp; done) | (simp at *; omega))) rfl) rfl rfl rfl ?_
        rintro v0 _ ⟨m0, hp0, rfl⟩
        obtain ⟨B0, hp0⟩ := hp0
        obtain ⟨e0, hp0⟩ := hp0
        obtain ⟨rfl, rfl⟩ := hp0
        simp only [List.cons_append, List.nil_append, splice, spliceL]
        refine at_v (ov_assign rfl rfl) rfl rfl rfl ?_
        refine at_nil ?_
        refine at_normal ?_
        refine hK1 _ _ _ ?_
        refine at_seq_k (fun K2 hK2 => ?_)
        refine at_region ?_
        refine at_v (ov_move rfl rfl) rfl rfl rfl ?_
        refine at_v (ov_fieldAddr (k := 1) (r := 1) rfl rfl rfl rfl) rfl rfl rfl ?_
        refine at_v (ov_load rfl rfl rfl (fun _ s => s.ld (k := 1) rfl rfl)) rfl rfl rfl ?_
        refine at_t (ot_call (ks := []) rfl rfl rfl Tryd.call19 rfl (hP ) rfl) rfl rfl rfl ?_
        rintro v0 _ ⟨m0, hp0, rfl⟩
        obtain ⟨rfl, rfl⟩ := hp0
        simp only [List.cons_append, List.nil_append, splice, spliceL]
        refine at_v (ov_move rfl rfl) rfl rfl rfl ?_
        refine at_v (ov_extract rfl rfl rfl) rfl rfl rfl ?_
        refine at_v (ov_extract rfl rfl rfl) rfl rfl rfl ?_
        refine at_v (ov_assign rfl rfl) rfl rfl rfl ?_
        refine at_v (ov_assign rfl rfl) rfl rfl rfl ?_
        refine at_nil ?_
        refine at_normal ?_
        refine hK2 _ _ _ ?_
        refine at_seq_k (fun K3 hK3 => ?_)
        refine at_block ?_
        refine at_seq_k (fun K4 hK4 => ?_)
        refine at_region ?_
        refine at_v (ov_fieldAddr (k := 0) (r := 0) rfl rfl rfl rfl) rfl rfl rfl ?_
        refine at_v (ov_load rfl rfl rfl (fun _ s => s.ld (k := 1) rfl rfl)) rfl rfl rfl ?_
        refine at_v (ov_int rfl rfl rfl rfl) rfl rfl rfl ?_
        refine at_v (ov_move rfl rfl) rfl rfl rfl ?_
        refine at_reval 22 (.bool false) rfl (congrArg Value.bool (decide_eq_false (by omega))) ?_
        refine at_unwanted (j := 3) rfl rfl rfl rfl ?_
        refine at_unwanted (j := 3) rfl rfl rfl rfl ?_
        refine at_v (ov_pick_f rfl rfl rfl) rfl rfl rfl ?_
        refine at_v (ov_assign rfl rfl) rfl rfl rfl ?_
        refine at_nil ?_
        refine at_normal ?_
        refine hK4 _ _ _ ?_
        refine at_cond_false rfl ?_
        refine at_seq_k (fun K5 hK5 => ?_)
        refine at_region ?_
        refine at_v (ov_fieldAddr (k := 0) (r := 0) rfl rfl rfl rfl) rfl rfl rfl ?_
        refine at_v (ov_load rfl rfl rfl (fun _ s => s.ld (k := 1) rfl rfl)) rfl rfl rfl ?_
        refine at_v (ov_int rfl rfl rfl rfl) rfl rfl rfl ?_
        refine at_v (ov_move rfl rfl) rfl rfl rfl ?_
        refine at_reval 39 (.bool false) rfl (congrArg Value.bool (decide_eq_false (by omega))) ?_
        refine at_wanted (j := 3) rfl ?_
        refine at_v (ov_fieldAddr (k := 0) (r := 0) rfl rfl rfl rfl) rfl rfl rfl ?_
        refine at_wanted (j := 3) rfl ?_
        refine at_v (ov_load rfl rfl rfl (fun _ s => s.ld (k := 1) rfl rfl)) rfl rfl rfl ?_
        refine at_wanted (j := 3) rfl ?_
        refine at_v (ov_int rfl rfl rfl rfl) rfl rfl rfl ?_
        refine at_wanted (j := 3) rfl ?_
        refine at_v (ov_move rfl rfl) rfl rfl rfl ?_
        refine at_reval 43 (.bool true) rfl (congrArg Value.bool (by first | assumption | (rw [Bool.not_eq_true']; exact decide_eq_false (by omega)))) ?_
        refine at_wanted (j := 7) rfl ?_
        refine at_v (ov_move rfl rfl) rfl rfl rfl ?_
        refine at_wanted (j := 3) rfl ?_
        refine at_v (ov_pick_t rfl rfl rfl) rfl rfl rfl ?_
        refine at_v (ov_pick_f rfl rfl rfl) rfl rfl rfl ?_
        refine at_v (ov_assign rfl rfl) rfl rfl rfl ?_
        refine at_nil ?_
        refine at_normal ?_
        refine hK5 _ _ _ ?_
        refine at_cond_false rfl ?_
        refine at_seq_k (fun K6 hK6 => ?_)
        refine at_region ?_
        refine at_v (ov_fieldAddr (k := 0) (r := 0) rfl rfl rfl rfl) rfl rfl rfl ?_
        refine at_v (ov_load rfl rfl rfl (fun _ s => s.ld (k := 1) rfl rfl)) rfl rfl rfl ?_
        refine at_v (ov_int rfl rfl rfl rfl) rfl rfl rfl ?_
        refine at_v (ov_move rfl rfl) rfl rfl rfl ?_
        refine at_reval 58 (.bool false) rfl (congrArg Value.bool (by first | assumption | (rw [Bool.not_eq_false']; exact decide_eq_true (by omega)))) ?_
        refine at_unwanted (j := 3) rfl rfl rfl rfl ?_
        refine at_v (ov_pick_f rfl rfl rfl) rfl rfl rfl ?_
        refine at_v (ov_assign rfl rfl) rfl rfl rfl ?_
        refine at_nil ?_
        refine at_normal ?_
        refine hK6 _ _ _ ?_
        refine at_cond_false rfl ?_
        refine at_skip ?_
        refine at_inb_normal ?_
        refine at_normal ?_
        refine hK3 _ _ _ ?_
        refine at_seq_k (fun K7 hK7 => ?_)
        refine at_region ?_
        refine at_v (ov_move rfl rfl) rfl rfl rfl ?_
        refine at_v (ov_assign rfl rfl) rfl rfl rfl ?_
        refine at_v (ov_assign rfl rfl) rfl rfl rfl ?_
        refine at_nil ?_
        refine at_normal ?_
        refine hK7 _ _ _ ?_
        refine at_ret ?_
        refine at_end ?_
        refine at_fin (rsL (vs := [_, _]) rfl ⟨res_tmp rfl, res_tmp rfl, trivial⟩ rfl) ?_
        refine ⟨_, ⟨B0, e0, by rw [hw], rfl⟩, ?_⟩
        rw [hw]
        exact fun _ s => s.finEq (ks := [0]) (js := [0]) rfl rfl rfl
      | false =>
        cases b5 with
        | true =>
          refine at_seq_k (fun K0 hK0 => ?_)
          refine at_region ?_
          refine at_t (ot_boxA rfl rfl) rfl rfl rfl ?_
          rintro _ _ ⟨g0, rfl, rfl⟩
          refine at_v (ov_assign rfl rfl) rfl rfl rfl ?_
          refine at_v (ov_assign rfl rfl) rfl rfl rfl ?_
          refine at_nil ?_
          refine at_normal ?_
          refine hK0 _ _ _ ?_
          refine at_seq_k (fun K1 hK1 => ?_)
          refine at_region ?_
          refine at_v (ov_move rfl rfl) rfl rfl rfl ?_
          refine at_t (ot_call (ks := []) rfl rfl rfl Tryd.call18 rfl (T18 _ (by first | assumption | rfl | omega | decide | (simp; done) | (simp at *; omega)) (by first | assumption | rfl | omega | decide | (simp; done) | (simp at *; omega))) rfl) rfl rfl rfl ?_
          rintro v0 _ ⟨m0, hp0, rfl⟩
          obtain ⟨B0, hp0⟩ := hp0
          obtain ⟨e0, hp0⟩ := hp0
          obtain ⟨rfl, rfl⟩ := hp0
          simp only [List.cons_append, List.nil_append, splice, spliceL]
          refine at_v (ov_assign rfl rfl) rfl rfl rfl ?_
          refine at_nil ?_
          refine at_normal ?_
          refine hK1 _ _ _ ?_
          refine at_seq_k (fun K2 hK2 => ?_)
          refine at_region ?_
          refine at_v (ov_move rfl rfl) rfl rfl rfl ?_
          refine at_v (ov_fieldAddr (k := 1) (r := 1) rfl rfl rfl rfl) rfl rfl rfl ?_
          refine at_v (ov_load rfl rfl rfl (fun _ s => s.ld (k := 1) rfl rfl)) rfl rfl rfl ?_
          refine at_t (ot_call (ks := []) rfl rfl rfl Tryd.call19 rfl (hP ) rfl) rfl rfl rfl ?_
          rintro v0 _ ⟨m0, hp0, rfl⟩
          obtain ⟨rfl, rfl⟩ := hp0
          simp only [List.cons_append, List.nil_append, splice, spliceL]
          refine at_v (ov_move rfl rfl) rfl rfl rfl ?_
          refine at_v (ov_extract rfl rfl rfl) rfl rfl rfl ?_
          refine at_v (ov_extract rfl rfl rfl) rfl rfl rfl ?_
          refine at_v (ov_assign rfl rfl) rfl rfl rfl ?_
          refine at_v (ov_assign rfl rfl) rfl rfl rfl ?_
          refine at_nil ?_
          refine at_normal ?_
          refine hK2 _ _ _ ?_
          refine at_seq_k (fun K3 hK3 => ?_)
          refine at_block ?_
          refine at_seq_k (fun K4 hK4 => ?_)
          refine at_region ?_
          refine at_v (ov_fieldAddr (k := 0) (r := 0) rfl rfl rfl rfl) rfl rfl rfl ?_
          refine at_v (ov_load rfl rfl rfl (fun _ s => s.ld (k := 1) rfl rfl)) rfl rfl rfl ?_
          refine at_v (ov_int rfl rfl rfl rfl) rfl rfl rfl ?_
          refine at_v (ov_move rfl rfl) rfl rfl rfl ?_
          refine at_reval 22 (.bool false) rfl (congrArg Value.bool (decide_eq_false (by omega))) ?_
          refine at_unwanted (j := 3) rfl rfl rfl rfl ?_
          refine at_unwanted (j := 3) rfl rfl rfl rfl ?_
          refine at_v (ov_pick_f rfl rfl rfl) rfl rfl rfl ?_
          refine at_v (ov_assign rfl rfl) rfl rfl rfl ?_
          refine at_nil ?_
          refine at_normal ?_
          refine hK4 _ _ _ ?_
          refine at_cond_false rfl ?_
          refine at_seq_k (fun K5 hK5 => ?_)
          refine at_region ?_
          refine at_v (ov_fieldAddr (k := 0) (r := 0) rfl rfl rfl rfl) rfl rfl rfl ?_
          refine at_v (ov_load rfl rfl rfl (fun _ s => s.ld (k := 1) rfl rfl)) rfl rfl rfl ?_
          refine at_v (ov_int rfl rfl rfl rfl) rfl rfl rfl ?_
          refine at_v (ov_move rfl rfl) rfl rfl rfl ?_
          refine at_reval 39 (.bool false) rfl (congrArg Value.bool (decide_eq_false (by omega))) ?_
          refine at_wanted (j := 3) rfl ?_
          refine at_v (ov_fieldAddr (k := 0) (r := 0) rfl rfl rfl rfl) rfl rfl rfl ?_
          refine at_wanted (j := 3) rfl ?_
          refine at_v (ov_load rfl rfl rfl (fun _ s => s.ld (k := 1) rfl rfl)) rfl rfl rfl ?_
          refine at_wanted (j := 3) rfl ?_
          refine at_v (ov_int rfl rfl rfl rfl) rfl rfl rfl ?_
          refine at_wanted (j := 3) rfl ?_
          refine at_v (ov_move rfl rfl) rfl rfl rfl ?_
          refine at_reval 43 (.bool false) rfl (congrArg Value.bool (by first | assumption | (rw [Bool.not_eq_false']; exact decide_eq_true (by omega)))) ?_
          refine at_unwanted (j := 7) rfl rfl rfl rfl ?_
          refine at_wanted (j := 3) rfl ?_
          refine at_v (ov_pick_f rfl rfl rfl) rfl rfl rfl ?_
          refine at_v (ov_pick_f rfl rfl rfl) rfl rfl rfl ?_
          refine at_v (ov_assign rfl rfl) rfl rfl rfl ?_
          refine at_nil ?_
          refine at_normal ?_
          refine hK5 _ _ _ ?_
          refine at_cond_false rfl ?_
          refine at_seq_k (fun K6 hK6 => ?_)
          refine at_region ?_
          refine at_v (ov_fieldAddr (k := 0) (r := 0) rfl rfl rfl rfl) rfl rfl rfl ?_
          refine at_v (ov_load rfl rfl rfl (fun _ s => s.ld (k := 1) rfl rfl)) rfl rfl rfl ?_
          refine at_v (ov_int rfl rfl rfl rfl) rfl rfl rfl ?_
          refine at_v (ov_move rfl rfl) rfl rfl rfl ?_
          refine at_reval 58 (.bool true) rfl (congrArg Value.bool (by first | assumption | (rw [Bool.not_eq_true']; exact decide_eq_false (by omega)))) ?_
          refine at_wanted (j := 3) rfl ?_
          refine at_v (ov_move rfl rfl) rfl rfl rfl ?_
          refine at_v (ov_pick_t rfl rfl rfl) rfl rfl rfl ?_
          refine at_v (ov_assign rfl rfl) rfl rfl rfl ?_
          refine at_nil ?_
          refine at_normal ?_
          refine hK6 _ _ _ ?_
          refine at_cond_false rfl ?_
          refine at_skip ?_
          refine at_inb_normal ?_
          refine at_normal ?_
          refine hK3 _ _ _ ?_
          refine at_seq_k (fun K7 hK7 => ?_)
          refine at_region ?_
          refine at_v (ov_move rfl rfl) rfl rfl rfl ?_
          refine at_v (ov_assign rfl rfl) rfl rfl rfl ?_
          refine at_v (ov_assign rfl rfl) rfl rfl rfl ?_
          refine at_nil ?_
          refine at_normal ?_
          refine hK7 _ _ _ ?_
          refine at_ret ?_
          refine at_end ?_
          refine at_fin (rsL (vs := [_, _]) rfl ⟨res_tmp rfl, res_tmp rfl, trivial⟩ rfl) ?_
          refine ⟨_, ⟨B0, e0, by rw [hw], rfl⟩, ?_⟩
          rw [hw]
          exact fun _ s => s.finEq (ks := [0]) (js := [0]) rfl rfl rfl
        | false =>
          refine at_seq_k (fun K0 hK0 => ?_)
          refine at_region ?_
          refine at_t (ot_boxA rfl rfl) rfl rfl rfl ?_
          rintro _ _ ⟨g0, rfl, rfl⟩
          refine at_v (ov_assign rfl rfl) rfl rfl rfl ?_
          refine at_v (ov_assign rfl rfl) rfl rfl rfl ?_
          refine at_nil ?_
          refine at_normal ?_
          refine hK0 _ _ _ ?_
          refine at_seq_k (fun K1 hK1 => ?_)
          refine at_region ?_
          refine at_v (ov_move rfl rfl) rfl rfl rfl ?_
          refine at_t (ot_call (ks := []) rfl rfl rfl Tryd.call18 rfl (T18 _ (by first | assumption | rfl | omega | decide | (simp; done) | (simp at *; omega)) (by first | assumption | rfl | omega | decide | (simp; done) | (simp at *; omega))) rfl) rfl rfl rfl ?_
          rintro v0 _ ⟨m0, hp0, rfl⟩
          obtain ⟨B0, hp0⟩ := hp0
          obtain ⟨e0, hp0⟩ := hp0
          obtain ⟨rfl, rfl⟩ := hp0
          simp only [List.cons_append, List.nil_append, splice, spliceL]
          refine at_v (ov_assign rfl rfl) rfl rfl rfl ?_
          refine at_nil ?_
          refine at_normal ?_
          refine hK1 _ _ _ ?_
          refine at_seq_k (fun K2 hK2 => ?_)
          refine at_region ?_
          refine at_v (ov_move rfl rfl) rfl rfl rfl ?_
          refine at_v (ov_fieldAddr (k := 1) (r := 1) rfl rfl rfl rfl) rfl rfl rfl ?_
          refine at_v (ov_load rfl rfl rfl (fun _ s => s.ld (k := 1) rfl rfl)) rfl rfl rfl ?_
          refine at_t (ot_call (ks := []) rfl rfl rfl Tryd.call19 rfl (hP ) rfl) rfl rfl rfl ?_
          rintro v0 _ ⟨m0, hp0, rfl⟩
          obtain ⟨rfl, rfl⟩ := hp0
          simp only [List.cons_append, List.nil_append, splice, spliceL]
          refine at_v (ov_move rfl rfl) rfl rfl rfl ?_
          refine at_v (ov_extract rfl rfl rfl) rfl rfl rfl ?_
          refine at_v (ov_extract rfl rfl rfl) rfl rfl rfl ?_
          refine at_v (ov_assign rfl rfl) rfl rfl rfl ?_
          refine at_v (ov_assign rfl rfl) rfl rfl rfl ?_
          refine at_nil ?_
          refine at_normal ?_
          refine hK2 _ _ _ ?_
          refine at_seq_k (fun K3 hK3 => ?_)
          refine at_block ?_
          refine at_seq_k (fun K4 hK4 => ?_)
          refine at_region ?_
          refine at_v (ov_fieldAddr (k := 0) (r := 0) rfl rfl rfl rfl) rfl rfl rfl ?_
          refine at_v (ov_load rfl rfl rfl (fun _ s => s.ld (k := 1) rfl rfl)) rfl rfl rfl ?_
          refine at_v (ov_int rfl rfl rfl rfl) rfl rfl rfl ?_
          refine at_v (ov_move rfl rfl) rfl rfl rfl ?_
          refine at_reval 22 (.bool false) rfl (congrArg Value.bool (decide_eq_false (by omega))) ?_
          refine at_unwanted (j := 3) rfl rfl rfl rfl ?_
          refine at_unwanted (j := 3) rfl rfl rfl rfl ?_
          refine at_v (ov_pick_f rfl rfl rfl) rfl rfl rfl ?_
          refine at_v (ov_assign rfl rfl) rfl rfl rfl ?_
          refine at_nil ?_
          refine at_normal ?_
          refine hK4 _ _ _ ?_
          refine at_cond_false rfl ?_
          refine at_seq_k (fun K5 hK5 => ?_)
          refine at_region ?_
          refine at_v (ov_fieldAddr (k := 0) (r := 0) rfl rfl rfl rfl) rfl rfl rfl ?_
          refine at_v (ov_load rfl rfl rfl (fun _ s => s.ld (k := 1) rfl rfl)) rfl rfl rfl ?_
          refine at_v (ov_int rfl rfl rfl rfl) rfl rfl rfl ?_
          refine at_v (ov_move rfl rfl) rfl rfl rfl ?_
          refine at_reval 39 (.bool false) rfl (congrArg Value.bool (decide_eq_false (by omega))) ?_
          refine at_wanted (j := 3) rfl ?_
          refine at_v (ov_fieldAddr (k := 0) (r := 0) rfl rfl rfl rfl) rfl rfl rfl ?_
          refine at_wanted (j := 3) rfl ?_
          refine at_v (ov_load rfl rfl rfl (fun _ s => s.ld (k := 1) rfl rfl)) rfl rfl rfl ?_
          refine at_wanted (j := 3) rfl ?_
          refine at_v (ov_int rfl rfl rfl rfl) rfl rfl rfl ?_
          refine at_wanted (j := 3) rfl ?_
          refine at_v (ov_move rfl rfl) rfl rfl rfl ?_
          refine at_reval 43 (.bool false) rfl (congrArg Value.bool (by first | assumption | (rw [Bool.not_eq_false']; exact decide_eq_true (by omega)))) ?_
          refine at_unwanted (j := 7) rfl rfl rfl rfl ?_
          refine at_wanted (j := 3) rfl ?_
          refine at_v (ov_pick_f rfl rfl rfl) rfl rfl rfl ?_
          refine at_v (ov_pick_f rfl rfl rfl) rfl rfl rfl ?_
          refine at_v (ov_assign rfl rfl) rfl rfl rfl ?_
          refine at_nil ?_
          refine at_normal ?_
          refine hK5 _ _ _ ?_
          refine at_cond_false rfl ?_
          refine at_seq_k (fun K6 hK6 => ?_)
          refine at_region ?_
          refine at_v (ov_fieldAddr (k := 0) (r := 0) rfl rfl rfl rfl) rfl rfl rfl ?_
          refine at_v (ov_load rfl rfl rfl (fun _ s => s.ld (k := 1) rfl rfl)) rfl rfl rfl ?_
          refine at_v (ov_int rfl rfl rfl rfl) rfl rfl rfl ?_
          refine at_v (ov_move rfl rfl) rfl rfl rfl ?_
          refine at_reval 58 (.bool false) rfl (congrArg Value.bool (by first | assumption | (rw [Bool.not_eq_false']; exact decide_eq_true (by omega)))) ?_
          refine at_unwanted (j := 3) rfl rfl rfl rfl ?_
          refine at_v (ov_pick_f rfl rfl rfl) rfl rfl rfl ?_
          refine at_v (ov_assign rfl rfl) rfl rfl rfl ?_
          refine at_nil ?_
          refine at_normal ?_
          refine hK6 _ _ _ ?_
          refine at_cond_false rfl ?_
          refine at_skip ?_
          refine at_inb_normal ?_
          refine at_normal ?_
          refine hK3 _ _ _ ?_
          refine at_seq_k (fun K7 hK7 => ?_)
          refine at_region ?_
          refine at_v (ov_move rfl rfl) rfl rfl rfl ?_
          refine at_v (ov_assign rfl rfl) rfl rfl rfl ?_
          refine at_v (ov_assign rfl rfl) rfl rfl rfl ?_
          refine at_nil ?_
          refine at_normal ?_
          refine hK7 _ _ _ ?_
          refine at_ret ?_
          refine at_end ?_
          refine at_fin (rsL (vs := [_, _]) rfl ⟨res_tmp rfl, res_tmp rfl, trivial⟩ rfl) ?_
          refine ⟨_, ⟨B0, e0, by rw [hw], rfl⟩, ?_⟩
          rw [hw]
          exact fun _ s => s.finEq (ks := [0]) (js := [0]) rfl rfl rfl
    | true =>
      obtain ⟨y, hy, hyk⟩ := hget his
      have hplt : posL l p.2.1 < l.length := (List.getElem?_eq_some_iff.1 hy).1
      have hP := T19 w0 p.2.1 (A := A) (c := c) hr ht hm
      rw [his] at hP
      by_cases h4 : p.1 = 4
      · have hi4 : decide (p.1 = 4) = true := decide_eq_true h4
        have hw : writesL p l = (l.set (posL l p.2.1) (p.2.1, p.2.2), 1) := by unfold writesL; rw [if_neg (by simp [h3]), if_pos (.inr ⟨h4, his⟩)]
        refine at_seq_k (fun K0 hK0 => ?_)
        refine at_region ?_
        refine at_t (ot_boxA rfl rfl) rfl rfl rfl ?_
        rintro _ _ ⟨g0, rfl, rfl⟩
        refine at_v (ov_assign rfl rfl) rfl rfl rfl ?_
        refine at_v (ov_assign rfl rfl) rfl rfl rfl ?_
        refine at_nil ?_
        refine at_normal ?_
        refine hK0 _ _ _ ?_
        refine at_seq_k (fun K1 hK1 => ?_)
        refine at_region ?_
        refine at_v (ov_move rfl rfl) rfl rfl rfl ?_
        refine at_t (ot_call (ks := []) rfl rfl rfl Tryd.call18 rfl (T18 _ (by first | assumption | rfl | omega | decide | (simp; done) | (simp at *; omega)) (by first | assumption | rfl | omega | decide | (simp; done) | (simp at *; omega))) rfl) rfl rfl rfl ?_
        rintro v0 _ ⟨m0, hp0, rfl⟩
        obtain ⟨B0, hp0⟩ := hp0
        obtain ⟨e0, hp0⟩ := hp0
        obtain ⟨rfl, rfl⟩ := hp0
        simp only [List.cons_append, List.nil_append, splice, spliceL]
        refine at_v (ov_assign rfl rfl) rfl rfl rfl ?_
        refine at_nil ?_
        refine at_normal ?_
        refine hK1 _ _ _ ?_
        refine at_seq_k (fun K2 hK2 => ?_)
        refine at_region ?_
        refine at_v (ov_move rfl rfl) rfl rfl rfl ?_
        refine at_v (ov_fieldAddr (k := 1) (r := 1) rfl rfl rfl rfl) rfl rfl rfl ?_
        refine at_v (ov_load rfl rfl rfl (fun _ s => s.ld (k := 1) rfl rfl)) rfl rfl rfl ?_
        refine at_t (ot_call (ks := []) rfl rfl rfl Tryd.call19 rfl (hP ) rfl) rfl rfl rfl ?_
        rintro v0 _ ⟨m0, hp0, rfl⟩
        obtain ⟨rfl, rfl⟩ := hp0
        simp only [List.cons_append, List.nil_append, splice, spliceL]
        refine at_v (ov_move rfl rfl) rfl rfl rfl ?_
        refine at_v (ov_extract rfl rfl rfl) rfl rfl rfl ?_
        refine at_v (ov_extract rfl rfl rfl) rfl rfl rfl ?_
        refine at_v (ov_assign rfl rfl) rfl rfl rfl ?_
        refine at_v (ov_assign rfl rfl) rfl rfl rfl ?_
        refine at_nil ?_
        refine at_normal ?_
        refine hK2 _ _ _ ?_
        refine at_seq_k (fun K3 hK3 => ?_)
        refine at_block ?_
        refine at_seq_k (fun K4 hK4 => ?_)
        refine at_region ?_
        refine at_v (ov_fieldAddr (k := 0) (r := 0) rfl rfl rfl rfl) rfl rfl rfl ?_
        refine at_v (ov_load rfl rfl rfl (fun _ s => s.ld (k := 1) rfl rfl)) rfl rfl rfl ?_
        refine at_v (ov_int rfl rfl rfl rfl) rfl rfl rfl ?_
        refine at_v (ov_move rfl rfl) rfl rfl rfl ?_
        refine at_reval 22 (.bool false) rfl (congrArg Value.bool (decide_eq_false (by omega))) ?_
        refine at_unwanted (j := 3) rfl rfl rfl rfl ?_
        refine at_unwanted (j := 3) rfl rfl rfl rfl ?_
        refine at_v (ov_pick_f rfl rfl rfl) rfl rfl rfl ?_
        refine at_v (ov_assign rfl rfl) rfl rfl rfl ?_
        refine at_nil ?_
        refine at_normal ?_
        refine hK4 _ _ _ ?_
        refine at_cond_false rfl ?_
        refine at_seq_k (fun K5 hK5 => ?_)
        refine at_region ?_
        refine at_v (ov_fieldAddr (k := 0) (r := 0) rfl rfl rfl rfl) rfl rfl rfl ?_
        refine at_v (ov_load rfl rfl rfl (fun _ s => s.ld (k := 1) rfl rfl)) rfl rfl rfl ?_
        refine at_v (ov_int rfl rfl rfl rfl) rfl rfl rfl ?_
        refine at_v (ov_move rfl rfl) rfl rfl rfl ?_
        refine at_reval 39 (.bool false) rfl (congrArg Value.bool (decide_eq_false (by omega))) ?_
        refine at_wanted (j := 3) rfl ?_
        refine at_v (ov_fieldAddr (k := 0) (r := 0) rfl rfl rfl rfl) rfl rfl rfl ?_
        refine at_wanted (j := 3) rfl ?_
        refine at_v (ov_load rfl rfl rfl (fun _ s => s.ld (k := 1) rfl rfl)) rfl rfl rfl ?_
        refine at_wanted (j := 3) rfl ?_
        refine at_v (ov_int rfl rfl rfl rfl) rfl rfl rfl ?_
        refine at_wanted (j := 3) rfl ?_
        refine at_v (ov_move rfl rfl) rfl rfl rfl ?_
        refine at_reval 43 (.bool true) rfl (congrArg Value.bool (decide_eq_true (by omega))) ?_
        refine at_wanted (j := 7) rfl ?_
        refine at_v (ov_move rfl rfl) rfl rfl rfl ?_
        refine at_wanted (j := 3) rfl ?_
        refine at_v (ov_pick_t rfl rfl rfl) rfl rfl rfl ?_
        refine at_v (ov_pick_f rfl rfl rfl) rfl rfl rfl ?_
        refine at_v (ov_assign rfl rfl) rfl rfl rfl ?_
        refine at_nil ?_
        refine at_normal ?_
        refine hK5 _ _ _ ?_
        refine at_cond_true rfl ?_
        refine at_seq_k (fun K6 hK6 => ?_)
        refine at_region ?_
        refine at_v (ov_move rfl rfl) rfl rfl rfl ?_
        refine at_v (ov_move rfl rfl) rfl rfl rfl ?_
        refine at_v (ov_fieldAddr (k := 2) (r := 2) rfl rfl rfl rfl) rfl rfl rfl ?_
        refine at_v (ov_load rfl rfl rfl (fun _ s => s.ld (k := 1) rfl rfl)) rfl rfl rfl ?_
        refine at_v (ov_indexRd (fun _ s => s.rd (k := 0) rfl) rfl Tryd.underlying24 rfl rfl rfl hy) rfl rfl rfl ?_
        refine at_v (ov_fieldRd0 (k := 1) (fun _ s => s.rd (k := 0) rfl) rfl rfl hy rfl) rfl rfl rfl ?_
        refine at_t0 (ot_storeRow (k := 0) (i := posL l p.2.1) (j := 1) (u := y) (u' := (y.1, p.2.2)) rfl rfl rfl rfl hy rfl (Nat.le_refl _) rfl rfl) rfl rfl ?_
        rintro _ _ ⟨rfl, rfl⟩
        simp only [setAt]
        refine at_nil ?_
        refine at_normal ?_
        refine hK6 _ _ _ ?_
        refine at_seq_k (fun K7 hK7 => ?_)
        refine at_region ?_
        refine at_v (ov_move rfl rfl) rfl rfl rfl ?_
        refine at_v (ov_assign rfl rfl) rfl rfl rfl ?_
        refine at_v (ov_assign rfl rfl) rfl rfl rfl ?_
        refine at_nil ?_
        refine at_normal ?_
        refine hK7 _ _ _ ?_
        refine at_ret ?_
        refine at_inb_ret ?_
        refine at_then_ret ?_
        refine at_end ?_
        have hls : (l.set (posL l p.2.1) (p.2.1, p.2.2)).length = l.length := List.length_set
        refine at_fin (rsL (vs := [_, _]) rfl ⟨res_tmp rfl, res_tmp rfl, trivial⟩ rfl) ?_
        refine ⟨_, ⟨B0, e0, by rw [hw, hls], rfl⟩, ?_⟩
        rw [hw]
        simp only [hyk]
        exact fun _ s => s.finEq (ks := [0]) (js := [0]) rfl rfl rfl
      · have hi4 : decide (p.1 = 4) = false := decide_eq_false h4
        by_cases h5 : p.1 = 5
        · have hi5 : decide (p.1 = 5) = true := decide_eq_true h5
          have hw : writesL p l = (l.eraseIdx (posL l p.2.1), 1) := by unfold writesL; rw [if_neg (by simp [h3]), if_neg (by simp [h3, h4]), if_pos ⟨h5, his⟩]
          refine at_seq_k (fun K0 hK0 => ?_)
          refine at_region ?_
          refine at_t (ot_boxA rfl rfl) rfl rfl rfl ?_
          rintro _ _ ⟨g0, rfl, rfl⟩
          refine at_v (ov_assign rfl rfl) rfl rfl rfl ?_
          refine at_v (ov_assign rfl rfl) rfl rfl rfl ?_
          refine at_nil ?_
          refine at_normal ?_
          refine hK0 _ _ _ ?_
          refine at_seq_k (fun K1 hK1 => ?_)
          refine at_region ?_
          refine at_v (ov_move rfl rfl) rfl rfl rfl ?_
          refine at_t (ot_call (ks := []) rfl rfl rfl Tryd.call18 rfl (T18 _ (by first | assumption | rfl | omega | decide | (simp; done) | (simp at *; omega)) (by first | assumption | rfl | omega | decide | (simp; done) | (simp at *; omega))) rfl) rfl rfl rfl ?_
          rintro v0 _ ⟨m0, hp0, rfl⟩
          obtain ⟨B0, hp0⟩ := hp0
          obtain ⟨e0, hp0⟩ := hp0
          obtain ⟨rfl, rfl⟩ := hp0
          simp only [List.cons_append, List.nil_append, splice, spliceL]
          refine at_v (ov_assign rfl rfl) rfl rfl rfl ?_
          refine at_nil ?_
          refine at_normal ?_
          refine hK1 _ _ _ ?_
          refine at_seq_k (fun K2 hK2 => ?_)
          refine at_region ?_
          refine at_v (ov_move rfl rfl) rfl rfl rfl ?_
          refine at_v (ov_fieldAddr (k := 1) (r := 1) rfl rfl rfl rfl) rfl rfl rfl ?_
          refine at_v (ov_load rfl rfl rfl (fun _ s => s.ld (k := 1) rfl rfl)) rfl rfl rfl ?_
          refine at_t (ot_call (ks := []) rfl rfl rfl Tryd.call19 rfl (hP ) rfl) rfl rfl rfl ?_
          rintro v0 _ ⟨m0, hp0, rfl⟩
          obtain ⟨rfl, rfl⟩ := hp0
          simp only [List.cons_append, List.nil_append, splice, spliceL]
          refine at_v (ov_move rfl rfl) rfl rfl rfl ?_
          refine at_v (ov_extract rfl rfl rfl) rfl rfl rfl ?_
          refine at_v (ov_extract rfl rfl rfl) rfl rfl rfl ?_
          refine at_v (ov_assign rfl rfl) rfl rfl rfl ?_
          refine at_v (ov_assign rfl rfl) rfl rfl rfl ?_
          refine at_nil ?_
          refine at_normal ?_
          refine hK2 _ _ _ ?_
          refine at_seq_k (fun K3 hK3 => ?_)
          refine at_block ?_
          refine at_seq_k (fun K4 hK4 => ?_)
          refine at_region ?_
          refine at_v (ov_fieldAddr (k := 0) (r := 0) rfl rfl rfl rfl) rfl rfl rfl ?_
          refine at_v (ov_load rfl rfl rfl (fun _ s => s.ld (k := 1) rfl rfl)) rfl rfl rfl ?_
          refine at_v (ov_int rfl rfl rfl rfl) rfl rfl rfl ?_
          refine at_v (ov_move rfl rfl) rfl rfl rfl ?_
          refine at_reval 22 (.bool false) rfl (congrArg Value.bool (decide_eq_false (by omega))) ?_
          refine at_unwanted (j := 3) rfl rfl rfl rfl ?_
          refine at_unwanted (j := 3) rfl rfl rfl rfl ?_
          refine at_v (ov_pick_f rfl rfl rfl) rfl rfl rfl ?_
          refine at_v (ov_assign rfl rfl) rfl rfl rfl ?_
          refine at_nil ?_
          refine at_normal ?_
          refine hK4 _ _ _ ?_
          refine at_cond_false rfl ?_
          refine at_seq_k (fun K5 hK5 => ?_)
          refine at_region ?_
          refine at_v (ov_fieldAddr (k := 0) (r := 0) rfl rfl rfl rfl) rfl rfl rfl ?_
          refine at_v (ov_load rfl rfl rfl (fun _ s => s.ld (k := 1) rfl rfl)) rfl rfl rfl ?_
          refine at_v (ov_int rfl rfl rfl rfl) rfl rfl rfl ?_
          refine at_v (ov_move rfl rfl) rfl rfl rfl ?_
          refine at_reval 39 (.bool false) rfl (congrArg Value.bool (decide_eq_false (by omega))) ?_
          refine at_wanted (j := 3) rfl ?_
          refine at_v (ov_fieldAddr (k := 0) (r := 0) rfl rfl rfl rfl) rfl rfl rfl ?_
          refine at_wanted (j := 3) rfl ?_
          refine at_v (ov_load rfl rfl rfl (fun _ s => s.ld (k := 1) rfl rfl)) rfl rfl rfl ?_
          refine at_wanted (j := 3) rfl ?_
          refine at_v (ov_int rfl rfl rfl rfl) rfl rfl rfl ?_
          refine at_wanted (j := 3) rfl ?_
          refine at_v (ov_move rfl rfl) rfl rfl rfl ?_
          refine at_reval 43 (.bool false) rfl (congrArg Value.bool (decide_eq_false (by omega))) ?_
          refine at_unwanted (j := 7) rfl rfl rfl rfl ?_
          refine at_wanted (j := 3) rfl ?_
          refine at_v (ov_pick_f rfl rfl rfl) rfl rfl rfl ?_
          refine at_v (ov_pick_f rfl rfl rfl) rfl rfl rfl ?_
          refine at_v (ov_assign rfl rfl) rfl rfl rfl ?_
          refine at_nil ?_
          refine at_normal ?_
          refine hK5 _ _ _ ?_
          refine at_cond_false rfl ?_
          refine at_seq_k (fun K6 hK6 => ?_)
          refine at_region ?_
          refine at_v (ov_fieldAddr (k := 0) (r := 0) rfl rfl rfl rfl) rfl rfl rfl ?_
          refine at_v (ov_load rfl rfl rfl (fun _ s => s.ld (k := 1) rfl rfl)) rfl rfl rfl ?_
          refine at_v (ov_int rfl rfl rfl rfl) rfl rfl rfl ?_
          refine at_v (ov_move rfl rfl) rfl rfl rfl ?_
          refine at_reval 58 (.bool true) rfl (congrArg Value.bool (decide_eq_true (by omega))) ?_
          refine at_wanted (j := 3) rfl ?_
          refine at_v (ov_move rfl rfl) rfl rfl rfl ?_
          refine at_v (ov_pick_t rfl rfl rfl) rfl rfl rfl ?_
          refine at_v (ov_assign rfl rfl) rfl rfl rfl ?_
          refine at_nil ?_
          refine at_normal ?_
          refine hK6 _ _ _ ?_
          refine at_cond_true rfl ?_
          refine at_seq_k (fun K7 hK7 => ?_)
          refine at_region ?_
          refine at_v (ov_move rfl rfl) rfl rfl rfl ?_
          refine at_v (ov_move rfl rfl) rfl rfl rfl ?_
          refine at_v (ov_move rfl rfl) rfl rfl rfl ?_
          refine at_v ((ov_int rfl rfl rfl rfl).eq (congrArg (Value.int .i64) (inK_i64 (by omega) (by omega)))) rfl rfl rfl ?_
          refine at_t (ot_call (ks := [0]) rfl rfl rfl Tryd.call22 rfl (T22 _ _ (by first | assumption | rfl | omega | decide | (simp; done) | (simp at *; omega)) (by first | assumption | rfl | omega | decide | (simp; done) | (simp at *; omega))) rfl) rfl rfl rfl ?_
          rintro v0 _ ⟨m0, hp0, rfl⟩
          obtain ⟨rfl, rfl⟩ := hp0
          simp only [List.cons_append, List.nil_append, splice, spliceL]
          refine at_v (ov_assign rfl rfl) rfl rfl rfl ?_
          refine at_v (ov_assign rfl rfl) rfl rfl rfl ?_
          refine at_nil ?_
          refine at_normal ?_
          refine hK7 _ _ _ ?_
          refine at_ret ?_
          refine at_inb_ret ?_
          refine at_then_ret ?_
          refine at_end ?_
          refine at_fin (rsL (vs := [_, _]) rfl ⟨res_tmp rfl, res_tmp rfl, trivial⟩ rfl) ?_
          refine ⟨_, ⟨B0, e0, by rw [hw], rfl⟩, ?_⟩
          rw [hw]
          exact fun _ s => s.finEq (ks := [0]) (js := [0]) rfl rfl rfl
        · have hi5 : decide (p.1 = 5) = false := decide_eq_false h5
          have hw : writesL p l = (l, 0) := by unfold writesL; rw [if_neg (by simp [h3]), if_neg (by simp [h3, h4]), if_neg (by simp [h5])]
          refine at_seq_k (fun K0 hK0 => ?_)
          refine at_region ?_
          refine at_t (ot_boxA rfl rfl) rfl rfl rfl ?_
          rintro _ _ ⟨g0, rfl, rfl⟩
          refine at_v (ov_assign rfl rfl) rfl rfl rfl ?_
          refine at_v (ov_assign rfl rfl) rfl rfl rfl ?_
          refine at_nil ?_
          refine at_normal ?_
          refine hK0 _ _ _ ?_
          refine at_seq_k (fun K1 hK1 => ?_)
          refine at_region ?_
          refine at_v (ov_move rfl rfl) rfl rfl rfl ?_
          refine at_t (ot_call (ks := []) rfl rfl rfl Tryd.call18 rfl (T18 _ (by first | assumption | rfl | omega | decide | (simp; done) | (simp at *; omega)) (by first | assumption | rfl | omega | decide | (simp; done) | (simp at *; omega))) rfl) rfl rfl rfl ?_
          rintro v0 _ ⟨m0, hp0, rfl⟩
          obtain ⟨B0, hp0⟩ := hp0
          obtain ⟨e0, hp0⟩ := hp0
          obtain ⟨rfl, rfl⟩ := hp0
          simp only [List.cons_append, List.nil_append, splice, spliceL]
          refine at_v (ov_assign rfl rfl) rfl rfl rfl ?_
          refine at_nil ?_
          refine at_normal ?_
          refine hK1 _ _ _ ?_
          refine at_seq_k (fun K2 hK2 => ?_)
          refine at_region ?_
          refine at_v (ov_move rfl rfl) rfl rfl rfl ?_
          refine at_v (ov_fieldAddr (k := 1) (r := 1) rfl rfl rfl rfl) rfl rfl rfl ?_
          refine at_v (ov_load rfl rfl rfl (fun _ s => s.ld (k := 1) rfl rfl)) rfl rfl rfl ?_
          refine at_t (ot_call (ks := []) rfl rfl rfl Tryd.call19 rfl (hP ) rfl) rfl rfl rfl ?_
          rintro v0 _ ⟨m0, hp0, rfl⟩
          obtain ⟨rfl, rfl⟩ := hp0
          simp only [List.cons_append, List.nil_append, splice, spliceL]
          refine at_v (ov_move rfl rfl) rfl rfl rfl ?_
          refine at_v (ov_extract rfl rfl rfl) rfl rfl rfl ?_
          refine at_v (ov_extract rfl rfl rfl) rfl rfl rfl ?_
          refine at_v (ov_assign rfl rfl) rfl rfl rfl ?_
          refine at_v (ov_assign rfl rfl) rfl rfl rfl ?_
          refine at_nil ?_
          refine at_normal ?_
          refine hK2 _ _ _ ?_
          refine at_seq_k (fun K3 hK3 => ?_)
          refine at_block ?_
          refine at_seq_k (fun K4 hK4 => ?_)
          refine at_region ?_
          refine at_v (ov_fieldAddr (k := 0) (r := 0) rfl rfl rfl rfl) rfl rfl rfl ?_
          refine at_v (ov_load rfl rfl rfl (fun _ s => s.ld (k := 1) rfl rfl)) rfl rfl rfl ?_
          refine at_v (ov_int rfl rfl rfl rfl) rfl rfl rfl ?_
          refine at_v (ov_move rfl rfl) rfl rfl rfl ?_
          refine at_reval 22 (.bool false) rfl (congrArg Value.bool (decide_eq_false (by omega))) ?_
          refine at_unwanted (j := 3) rfl rfl rfl rfl ?_
          refine at_unwanted (j := 3) rfl rfl rfl rfl ?_
          refine at_v (ov_pick_f rfl rfl rfl) rfl rfl rfl ?_
          refine at_v (ov_assign rfl rfl) rfl rfl rfl ?_
          refine at_nil ?_
          refine at_normal ?_
          refine hK4 _ _ _ ?_
          refine at_cond_false rfl ?_
          refine at_seq_k (fun K5 hK5 => ?_)
          refine at_region ?_
          refine at_v (ov_fieldAddr (k := 0) (r := 0) rfl rfl rfl rfl) rfl rfl rfl ?_
          refine at_v (ov_load rfl rfl rfl (fun _ s => s.ld (k := 1) rfl rfl)) rfl rfl rfl ?_
          refine at_v (ov_int rfl rfl rfl rfl) rfl rfl rfl ?_
          refine at_v (ov_move rfl rfl) rfl rfl rfl ?_
          refine at_reval 39 (.bool false) rfl (congrArg Value.bool (decide_eq_false (by omega))) ?_
          refine at_wanted (j := 3) rfl ?_
          refine at_v (ov_fieldAddr (k := 0) (r := 0) rfl rfl rfl rfl) rfl rfl rfl ?_
          refine at_wanted (j := 3) rfl ?_
          refine at_v (ov_load rfl rfl rfl (fun _ s => s.ld (k := 1) rfl rfl)) rfl rfl rfl ?_
          refine at_wanted (j := 3) rfl ?_
          refine at_v (ov_int rfl rfl rfl rfl) rfl rfl rfl ?_
          refine at_wanted (j := 3) rfl ?_
          refine at_v (ov_move rfl rfl) rfl rfl rfl ?_
          refine at_reval 43 (.bool false) rfl (congrArg Value.bool (decide_eq_false (by omega))) ?_
          refine at_unwanted (j := 7) rfl rfl rfl rfl ?_
          refine at_wanted (j := 3) rfl ?_
          refine at_v (ov_pick_f rfl rfl rfl) rfl rfl rfl ?_
          refine at_v (ov_pick_f rfl rfl rfl) rfl rfl rfl ?_
          refine at_v (ov_assign rfl rfl) rfl rfl rfl ?_
          refine at_nil ?_
          refine at_normal ?_
          refine hK5 _ _ _ ?_
          refine at_cond_false rfl ?_
          refine at_seq_k (fun K6 hK6 => ?_)
          refine at_region ?_
          refine at_v (ov_fieldAddr (k := 0) (r := 0) rfl rfl rfl rfl) rfl rfl rfl ?_
          refine at_v (ov_load rfl rfl rfl (fun _ s => s.ld (k := 1) rfl rfl)) rfl rfl rfl ?_
          refine at_v (ov_int rfl rfl rfl rfl) rfl rfl rfl ?_
          refine at_v (ov_move rfl rfl) rfl rfl rfl ?_
          refine at_reval 58 (.bool false) rfl (congrArg Value.bool (decide_eq_false (by omega))) ?_
          refine at_unwanted (j := 3) rfl rfl rfl rfl ?_
          refine at_v (ov_pick_f rfl rfl rfl) rfl rfl rfl ?_
          refine at_v (ov_assign rfl rfl) rfl rfl rfl ?_
          refine at_nil ?_
          refine at_normal ?_
          refine hK6 _ _ _ ?_
          refine at_cond_false rfl ?_
          refine at_skip ?_
          refine at_inb_normal ?_
          refine at_normal ?_
          refine hK3 _ _ _ ?_
          refine at_seq_k (fun K7 hK7 => ?_)
          refine at_region ?_
          refine at_v (ov_move rfl rfl) rfl rfl rfl ?_
          refine at_v (ov_assign rfl rfl) rfl rfl rfl ?_
          refine at_v (ov_assign rfl rfl) rfl rfl rfl ?_
          refine at_nil ?_
          refine at_normal ?_
          refine hK7 _ _ _ ?_
          refine at_ret ?_
          refine at_end ?_
          refine at_fin (rsL (vs := [_, _]) rfl ⟨res_tmp rfl, res_tmp rfl, trivial⟩ rfl) ?_
          refine ⟨_, ⟨B0, e0, by rw [hw], rfl⟩, ?_⟩
          rw [hw]
          exact fun _ s => s.finEq (ks := [0]) (js := [0]) rfl rfl rfl
theorem T8a (w0 : World) (p : PM) {A : Option Addr} {c c' : Nat} {l : List PR} (ht : tabB l = true) (hm : l.length ≤ 1000000) :
    Tri Tryd.prog w0 8 [.agg #[.int .i64 p.1, SV p.2.1, SV p.2.2], .slice A l.length c] [Row pE 48 2 A c' l] fun v m => ∃ B e, v = .tuple #[.slice B (writesL p l).1.length e, .int .i64 (writesL p l).2] ∧ m = [Row pE 48 2 B e (writesL p l).1, Row pE 48 2 A c' l] :=
  (Tri.of_all fun w s => T8 w p (s.rd (k := 0) rfl) ht hm).post fun v m ⟨m', ⟨B, e, h1, h2⟩, h3⟩ => ⟨B, e, h1, by rw [h3, h2]; rfl⟩
end Go.Proofs.YtmedbdcjniggcaaDoor
